/-
  Packed out of the texts: TM5, CT2, EX7, EX8, EX9, EX10.
-/
import Derived.Test.YtickdhjljpnlpaaGreatDoorR013
set_option maxRecDepth 100000
set_option linter.unusedSimpArgs false
set_option linter.unusedVariables false
namespace Go.Proofs.YtickdhjljpnlpaaGreatDoor.A
open Go.RowKit
section
variable {l wd : Txt} {k : Nat} {d n : Int}
theorem gc_ {z : Nat} (h : ∀ j (hj : j < l.length), j < z → isDig l[j] = true) (hz : z ≤ l.length) (hs : ∀ hq : z < l.length, ¬ isDig (l[z]'hq) = true) : z = (digs l).length := by
  rcases Nat.lt_or_ge z l.length with h1 | h1
  · exact (dv_ h1 h (hs h1)).symm
  · exact ((ga_ fun j hj => h j hj (by omega)).trans (by omega)).symm
set_option maxHeartbeats 2000000 in
theorem rtnum_s (hl : l.length ≤ 100000) : Spec Tryz.prog 129 [stA l] [] (fun _ : Unit => []) (fun _ => .tup [int (numF l).1, stA (numF l).2.1, boo (numF l).2.2]) := by
 have hdl := f9_ l
 refine F_ Tryz.func129 rfl Tryz.ntmps129 rfl fun G w =>d_<|a_<|q_ 3 rfl<|g_<|c_<|d_<|a_<|q_ 2 rfl<|g_<|c_<|a1_ (ι := Unit) (fun z => []) (fun z => [(0, stA l), (5, int ((digs l).length : Nat)), (6, int (decV (l.take (min (digs l).length 5)) : Nat))]) (fun z => True) ?_ ?_
 ·skip
  refine y_<|ae_ (ι := Nat) (fun z => []) (fun z => [(0, stA l), (5, int (z : Nat)), (6, int (decV (l.take (min z 5)) : Nat))]) (fun z => z ≤ l.length ∧ ∀ j (hj : j < l.length), j < z → isDig l[j] = true) (fun z => l.length - z) (0) (⟨Nat.zero_le _, fun j _ h => absurd h (by omega)⟩) (by exact ⟨rfl, rfl, rfl, trivial⟩) sn_ ?_
  intro z hz
  refine d_<|d_<|a_<|q_ 2 rfl<|b_ (l_ (C := int ((l.length : Nat) : Int)) (ao_ rfl Tryz.underlying9) rfl) rfl rfl<|q_ 2 rfl<|z_ (t := 11) rfl ?_ ?_
  rotate_left
  ·intro hc11
   refine q_ 11 rfl<|g_<|c_<|ad_ rfl<|W_<|h_ nofun<|h_ nofun<|V_ ?_
   have hdz := gc_ hz.2 hz.1 fun hq2 hdd => by
    have h3 := of_decide_eq_true (show decide (48 ≤ (l[z]'hq2).toNat ∧ (l[z]'hq2).toNat ≤ 57) = true from hdd)
    omega
   refine ab_ (()) (trivial) (by exact ⟨rfl, congrArg (fun k : Nat => some (int (k : Nat))) hdz, congrArg (fun k : Nat => some (int (decV (l.take (min k 5)) : Nat))) hdz, trivial⟩) sn_
  intro hc11
  have hq : z < l.length := by omega
  refine q_ 2 rfl<|b_ (l_ (C := .v (.int .u8 ((l[z]'hq).toNat : Nat))) (ar_ (s := ⟨l.toArray⟩) (q := z) rfl rfl rfl hq Tryz.underlying9) rfl) rfl rfl<|q_ 3 rfl<|z_ (t := 17) rfl ?_ ?_
  rotate_left
  ·intro hc17
   refine q_ 5 rfl<|g_<|c_<|ad_ rfl<|W_<|h_ nofun<|h_ nofun<|V_ ?_
   have hdz := gc_ hz.2 hz.1 fun hq2 hdd => by
    have h3 := of_decide_eq_true (show decide (48 ≤ (l[z]'hq2).toNat ∧ (l[z]'hq2).toNat ≤ 57) = true from hdd)
    omega
   refine ab_ (()) (trivial) (by exact ⟨rfl, congrArg (fun k : Nat => some (int (k : Nat))) hdz, congrArg (fun k : Nat => some (int (decV (l.take (min k 5)) : Nat))) hdz, trivial⟩) sn_
  intro hc17
  refine q_ 2 rfl<|b_ (l_ (C := .v (.int .u8 ((l[z]'hq).toNat : Nat))) (ar_ (s := ⟨l.toArray⟩) (q := z) rfl rfl rfl hq Tryz.underlying9) rfl) rfl rfl<|q_ 2 rfl<|g_<|c_<|o_ rfl ?_ ?_
  rotate_left
  ·intro hc22
   refine W_<|h_ nofun<|h_ nofun<|V_ ?_
   have hdz := gc_ hz.2 hz.1 fun hq2 hdd => by
    have h3 := of_decide_eq_true (show decide (48 ≤ (l[z]'hq2).toNat ∧ (l[z]'hq2).toNat ≤ 57) = true from hdd)
    omega
   refine ab_ (()) (trivial) (by exact ⟨rfl, congrArg (fun k : Nat => some (int (k : Nat))) hdz, congrArg (fun k : Nat => some (int (decV (l.take (min k 5)) : Nat))) hdz, trivial⟩) sn_
  intro hc22
  have hdv : decV (l.take (min z 5)) < 100000 := decV_few hz.2
  have h8 := (l[z]'hq).toNat_lt
  refine p_<|c_<|y_<|d_<|d_<|a_<|q_ 2 rfl<|g_<|c_<|o_ rfl ?_ ?_
  rotate_left
  ·intro hc24
   refine p_<|c_<|a_<|q_ 1 rfl<|b_ (C_ rfl rfl (by simp only [InR, lo, hi]; omega)) rfl rfl ?_
   refine q_ 1 rfl<|g_<|u_ ?_
   have hdd : isDig (l[z]'hq) = true := decide_eq_true (by omega)
   have hnx : min (z + 1) 5 = min z 5 := by omega
   refine G_ (z + 1) (by omega) (⟨hq, fun j hj h => by rcases Nat.lt_or_ge j z with h1 | h1; exact hz.2 j hj h1; obtain rfl : j = z := (by omega); exact hdd⟩) (by exact ⟨rfl, rfl, congrArg (fun x : Nat => some (int (x : Nat))) (by rw [hnx]), trivial⟩) sn_
  intro hc24
  refine a_<|q_ 1 rfl<|b_ (dz_ rfl rfl (by simp only [InR, lo, hi]; omega)) rfl rfl ?_
  refine q_ 2 rfl<|b_ (l_ (C := .v (.int .u8 ((l[z]'hq).toNat : Nat))) (ar_ (s := ⟨l.toArray⟩) (q := z) rfl rfl rfl hq Tryz.underlying9) rfl) rfl rfl<|b_ (aC_ rfl rfl (by simp only [InR, lo, hi]; omega)) rfl rfl ?_
  refine b_ (ax_ rfl Tryz.underlying3 (by kernel_rfl) (by simp only [InR, lo, hi]; omega)) rfl rfl ?_
  refine b_ (C_ rfl rfl (by simp only [InR, lo, hi]; omega)) rfl rfl ?_
  refine q_ 1 rfl<|g_<|c_<|a_<|q_ 1 rfl<|b_ (C_ rfl rfl (by simp only [InR, lo, hi]; omega)) rfl rfl ?_
  refine q_ 1 rfl<|g_<|u_ ?_
  have hdd : isDig (l[z]'hq) = true := decide_eq_true (by omega)
  have hnx := kY_ hq (by omega)
  refine G_ (z + 1) (by omega) (⟨hq, fun j hj h => by rcases Nat.lt_or_ge j z with h1 | h1; exact hz.2 j hj h1; obtain rfl : j = z := (by omega); exact hdd⟩) (by exact ⟨rfl, rfl, congrArg (fun x : Int => some (int x)) (by rw [hnx]; omega), trivial⟩) sn_
 intro z hz
 refine d_<|d_<|a_<|q_ 3 rfl<|z_ (t := 37) rfl ?_ ?_
 ·intro hc37
  refine q_ 12 rfl<|g_<|c_<|M_ rfl<|d_<|a_<|q_ 4 rfl<|g_<|c_<|m_<|h_ nofun ?_
  have hnn : numT l = none := by
   exact if_pos<|.inl (by omega)
  refine f_ (rs := [.tmp 2, .tmp 3, .tmp 4]) rfl (RV.tmp rfl (RV.tmp rfl (RV.tmp rfl RV.nil))) (()) sn_ ?_
  rw [dr_ hnn]
  rfl
 intro hc37
 have hq0 : 0 < l.length := by omega
 have hdf := jy_ (l := l) (by omega) hq0
 refine q_ 4 rfl<|z_ (t := 41) rfl ?_ ?_
 ·intro hc41
  refine q_ 8 rfl<|g_<|c_<|M_ rfl<|d_<|a_<|q_ 4 rfl<|g_<|c_<|m_<|h_ nofun ?_
  have hnn : numT l = none := by
   exact if_pos<|.inr (.inl (by omega))
  refine f_ (rs := [.tmp 2, .tmp 3, .tmp 4]) rfl (RV.tmp rfl (RV.tmp rfl (RV.tmp rfl RV.nil))) (()) sn_ ?_
  rw [dr_ hnn]
  rfl
 intro hc41
 refine q_ 3 rfl<|z_ (t := 44) rfl ?_ ?_
 rotate_left
 ·intro hc44
  refine q_ 5 rfl<|g_<|c_<|ad_ rfl<|p_<|c_<|d_<|aa_ [] (.q 0 (.q 1 (.q 2 (.q 3 (.q 4 (.q 5 (.q 6 .nil))))))) (by kernel_rfl) (by kernel_rfl) ?_
  refine qs_ 3 rfl<|hx_ fun hx9 =>r_ rfl (l_ (C := stA (l.drop (digs l).length)) (aG_ (q := (digs l).length) Tryz.underlying9 rfl rfl rfl (by simp only [bo_]; omega)) (eo_ _ _)) hx9 rfl rfl ?_
  refine qs_ 3 rfl<|Q_<|c_<|m_ ?_
  have hnn : numT l = some (decV (digs l), l.drop (digs l).length) := if_neg (by
   rintro (h | h | ⟨h1, h2⟩)
   ·omega
   ·omega
   omega)
  refine f_ (rs := [.tmp 2, .tmp 3, .tmp 4]) rfl (RV.tmp rfl (RV.tmp rfl (RV.tmp rfl RV.nil))) (()) sn_ ?_
  rw [dq_ hnn, Nat.min_eq_left (show (digs l).length ≤ 5 by omega), em_]
  rfl
 intro hc44
 refine q_ 1 rfl<|b_ (l_ (C := .v (.int .u8 ((l[0]'hq0).toNat : Nat))) (ar_ (s := ⟨l.toArray⟩) (q := 0) rfl rfl rfl hq0 Tryz.underlying9) rfl) rfl rfl<|q_ 3 rfl<|g_<|c_<|o_ rfl ?_ ?_
 ·intro hc49
  refine d_<|a_<|q_ 4 rfl<|g_<|c_<|m_<|h_ nofun ?_
  have hnn : numT l = none := by
   exact if_pos<|.inr (.inr ⟨by omega, by rw [hdf]; exact congrArg some (UInt8.toNat_inj.1 (by show _ = 48; omega))⟩)
  refine f_ (rs := [.tmp 2, .tmp 3, .tmp 4]) rfl (RV.tmp rfl (RV.tmp rfl (RV.tmp rfl RV.nil))) (()) sn_ ?_
  rw [dr_ hnn]
  rfl
 intro hc49
 refine p_<|c_<|d_<|aa_ [] (.q 0 (.q 1 (.q 2 (.q 3 (.q 4 (.q 5 (.q 6 .nil))))))) (by kernel_rfl) (by kernel_rfl) ?_
 refine qs_ 3 rfl<|hx_ fun hx9 =>r_ rfl (l_ (C := stA (l.drop (digs l).length)) (aG_ (q := (digs l).length) Tryz.underlying9 rfl rfl rfl (by simp only [bo_]; omega)) (eo_ _ _)) hx9 rfl rfl ?_
 refine qs_ 3 rfl<|Q_<|c_<|m_ ?_
 have hnn : numT l = some (decV (digs l), l.drop (digs l).length) := if_neg (by
  rintro (h | h | ⟨h1, h2⟩)
  ·omega
  ·omega
  (rw [hdf] at h2; have h3 := congrArg UInt8.toNat (Option.some.inj h2); have h4 : (48 : UInt8).toNat = 48 := rfl; omega))
 refine f_ (rs := [.tmp 2, .tmp 3, .tmp 4]) rfl (RV.tmp rfl (RV.tmp rfl (RV.tmp rfl RV.nil))) (()) sn_ ?_
 rw [dq_ hnn, Nat.min_eq_left (show (digs l).length ≤ 5 by omega), em_]
 rfl
set_option maxHeartbeats 2000000 in
theorem hr_ (hd : 0 ≤ d ∧ d ≤ 100) (hp : ∀ l : Txt, l.length ≤ 1000 → Spec Tryz.prog 107 [stA l, int (d + 1)] [] (fun _ : {z : Frm × Txt × Bool // DocP k l z} => []) (fun z => .tup [.agg z.1.1.abs, stA z.1.2.1, boo z.1.2.2])) (hl : l.length ≤ 1000) : Spec Tryz.prog 128 [stA l, int d] [] (fun _ : {z : List Frm × Txt × Bool // DocR k l z} => []) (fun z => .tup [.sl 3 (z.1.1.map Frm.abs), stA z.1.2.1, boo z.1.2.2]) := by
 refine F_ Tryz.func128 rfl Tryz.ntmps128 rfl fun G w =>d_<|a_<|q_ 3 rfl<|g_<|c_<|d_<|a_<|q_ 1 rfl<|s_ (c9_ (l := l)) Casts.refl (by kernel_rfl) rfl rfl rfl ?_
 refine ap_<|fun _=>q_ 1 rfl<|g_<|c_<|d_<|d_<|a_<|q_ 1 rfl<|s_ (bH_ (l := (bare l)) (wd := [40])) Casts.refl (by kernel_rfl) rfl rfl rfl ?_
 refine ap_<|fun _=>b_ (aj_ rfl) rfl rfl<|g_<|c_<|X_ rfl ?_ ?_
 ·intro hc15
  have hb0 : ¬ begins (bare l) [40] = true := by simpa using hc15
  exact d_<|a_<|q_ 4 rfl<|g_<|c_<|m_<|h_ nofun<|fC_ (rs := [.tmp 4, .tmp 5, .tmp 6]) rfl (RV.tmp rfl (RV.tmp rfl (RV.tmp rfl RV.nil))) (Casts.nils (s := 3) Casts.refl) (⟨([], bare l, false), DocR.of_none (if_neg hb0) _⟩) sn_<|rfl
 intro hc15
 have hb0 : begins (bare l) [40] = true := by simpa using hc15
 refine p_<|c_<|d_<|a_<|q_ 1 rfl<|g_<|c_<|y_<|br_ 130 3<|ae_ (ι := Txt × List Frm × Value) (fun z => [own 130 3 z.2.2 (z.2.1.map Frm.abs)]) (fun z => [(0, stA z.1), (1, int d), (7, .v z.2.2)]) (fun z => DocI k l (z.1, z.2.1)) (fun z => z.1.length) (bare l, [], .slice none 0 0) (DocI.start hb0) (by exact ⟨rfl, rfl, rfl, trivial⟩) sr_ ?_
 intro z hz
 have hzp := hz.pos
 have hzl := hz.len
 have hzf := hz.few
 dsimp only at hzp hzl hzf
 refine y_<|d_<|a_<|q_ 1 rfl<|b_ (l_ (C := stA (z.1.drop 1)) (aG_ (q := 1) Tryz.underlying9 rfl rfl rfl (by simp only [bo_]; omega)) (eo_ _ _)) rfl rfl ?_
 refine q_ 1 rfl<|b_ (C_ rfl rfl (by simp only [InR, lo, hi]; omega)) rfl rfl ?_
 refine s_ (hp (z.1.drop 1) (by have := hz.len; rw [List.length_drop]; omega)) Casts.refl (by kernel_rfl) rfl rfl rfl ?_
 refine ap_<|fun y=>q_ 4 rfl<|eb_ (H_ tabOk rfl) rfl rfl fun b8=>?_
 refine e_ (n_ (L' := y.1.1.abs) tabOk rfl rfl rfl u0_ (by exact Frm.abs_len _) (Nat.le_of_ble_eq_true rfl) (by exact Frm.abs_ones _) (t_ (by exact Frm.abs_len _))) rfl rfl ?_
 refine q_ 2 rfl<|g_<|c_<|d_<|d_<|a_<|q_ 1 rfl<|b_ (aj_ rfl) rfl rfl<|g_<|c_<|X_ rfl ?_ ?_
 ·intro hc27
  have ho : y.1.2.2 = false := by simpa using hc27
  exact d_<|a_<|q_ 4 rfl<|g_<|c_<|m_<|h_ nofun<|E_<|h_ nofun<|E_<|fC_ (rs := [.tmp 4, .tmp 5, .tmp 6]) rfl (RV.tmp rfl (RV.tmp rfl (RV.tmp rfl RV.nil))) (Casts.nils (s := 3) Casts.refl) (⟨([], z.1, false), DocR.of_none (hz.no y.2 ho) _⟩) sn_<|rfl
 intro hc27
 have ho : y.1.2.2 = true := by simpa using hc27
 refine p_<|c_<|d_<|a_<|q_ 1 rfl<|b_ (U_ tabOk rfl rfl rfl l0_ List.not_mem_nil (Frm.abs_len _)) rfl rfl<|e_ (T_ tabOk Tryz.underlying128 rfl rfl rfl (g1_ (Frm.abs_len _)) rfl rfl rfl) rfl rfl<|eb_ (L_ (zs := (z.2.1 ++ [y.1.1]).map Frm.abs) tabOk [_] (by rw [List.map_append]; rfl) Tryz.underlying128 rfl rfl rfl rfl rfl rfl (by intro c hc; rw [List.mem_singleton] at hc; subst hc; exact Frm.abs_ones _) (by unfold maxLen; simp only [List.length_map, List.length_cons, List.length_nil]; omega) (by rw [show Tryz.prog.bytesOf 130 = 40 by kernel_rfl]; simp only [List.length_map, List.length_cons, List.length_nil]; omega)) rfl rfl fun r32=>?_
 refine q_ 1 rfl<|g_<|c_<|d_<|a_<|q_ 1 rfl<|s_ (c9_ (l := y.1.2.1)) Casts.refl (by kernel_rfl) rfl rfl rfl ?_
 refine ap_<|fun _=>q_ 1 rfl<|g_<|c_<|d_<|d_<|a_<|q_ 1 rfl<|s_ (bH_ (l := (bare y.1.2.1)) (wd := [41])) Casts.refl (by kernel_rfl) rfl rfl rfl ?_
 refine ap_<|fun _=>g_<|c_<|X_ rfl ?_ ?_
 ·intro hc36
  have hbl := a5_ hc36
  simp only [List.length_singleton] at hbl
  refine d_<|aa_ [] (.q 0 (.q 1 (.q 2 (.q 3 (.q 4 (.q 5 .nil)))))) (by kernel_rfl) (by kernel_rfl) ?_
  refine qs_ 2 rfl<|hx_ fun hx9 =>r_ rfl (l_ (C := stA ((bare y.1.2.1).drop 1)) (aG_ (q := 1) Tryz.underlying9 rfl rfl rfl (by simp only [bo_]; omega)) (eo_ _ _)) hx9 rfl rfl ?_
  exact qs_ 3 rfl<|Q_<|c_<|m_<|h_ nofun<|E_<|h_ nofun<|E_<|bi_ [_] (t := 4) rfl rfl<|f_ (rs := [.tmp 4, .tmp 5, .tmp 6]) rfl (RV.tmp rfl (RV.tmp rfl (RV.tmp rfl RV.nil))) (⟨(z.2.1 ++ [y.1.1], (bare y.1.2.1).drop 1, true), DocR.of_some (hz.done y.2 ho hc36)⟩) sn_<|rfl
 intro hc36
 have hb1 : ¬ begins (bare y.1.2.1) [41] = true := by rw [hc36]; decide
 refine p_<|c_<|d_<|a_<|q_ 1 rfl<|s_ (bH_ (l := (bare y.1.2.1)) (wd := [44])) Casts.refl (by kernel_rfl) rfl rfl rfl ?_
 refine ap_<|fun _=>b_ (aj_ rfl) rfl rfl<|g_<|c_<|X_ rfl ?_ ?_
 rotate_left
 ·intro hc42
  have hb2 : begins (bare y.1.2.1) [44] = true := by simpa using hc42
  refine p_<|u_ ?_
  have hst := hz.step y.2 ho hb1 hb2
  refine G_ (bare y.1.2.1, z.2.1 ++ [y.1.1], r32) hst.2 (hst.1) (by exact ⟨rfl, rfl, rfl, trivial⟩) (sk_ sr_)
 intro hc42
 have hb2 : ¬ begins (bare y.1.2.1) [44] = true := by simpa using hc42
 exact d_<|a_<|q_ 4 rfl<|g_<|c_<|m_<|E_<|h_ nofun<|E_<|fC_ (rs := [.tmp 4, .tmp 5, .tmp 6]) rfl (RV.tmp rfl (RV.tmp rfl (RV.tmp rfl RV.nil))) (Casts.nils (s := 3) Casts.refl) (⟨([], bare y.1.2.1, false), DocR.of_none (hz.bad y.2 ho hb1 hb2) _⟩) sn_<|rfl
theorem rpol0_s (hl : l.length ≤ 1000) : Spec Tryz.prog 107 [stA l, int 11] [] (fun _ : {z : Frm × Txt × Bool // DocP 0 l z} => []) (fun z => .tup [.agg z.1.1.abs, stA z.1.2.1, boo z.1.2.2]) := by
 refine F_ Tryz.func107 rfl Tryz.ntmps107 rfl fun G w =>d_<|a_<|eb_ (H_ tabOk rfl) rfl rfl fun b4=>?_
 refine q_ 2 rfl<|g_<|c_<|d_<|a_<|q_ 1 rfl<|s_ (c9_ (l := l)) Casts.refl (by kernel_rfl) rfl rfl rfl ?_
 refine ap_<|fun _=>q_ 1 rfl<|g_<|c_<|d_<|d_<|a_<|q_ 2 rfl<|g_<|c_<|o_ rfl ?_ (by intro hc19; exfalso; omega)
 intro hc19
 refine d_<|a_<|b_ (D_ tabOk rfl rfl rfl rfl) rfl rfl<|q_ 1 rfl<|e_ (n_ tabOk rfl rfl rfl u0_ rfl (Nat.le_of_ble_eq_true rfl) rfl rfl) rfl rfl<|q_ 2 rfl<|g_<|c_<|m_<|h_ nofun<|fC_ (rs := [.cell 4 130, .tmp 5, .tmp 6]) rfl (RV.cell rfl (RV.cellA tabOk rfl rfl l0_ (by rfl)) (RV.tmp rfl (RV.tmp rfl RV.nil))) (Casts.cons (as_ (Casts.keep (Casts.keep (Casts.nils (s := 3) Casts.refl)))) Casts.refl) (⟨(.mk 0 0 [], bare l, false), DocP.deep rfl⟩) sn_ ?_
 (rw [Frm.abs_mk]; rfl)
set_option maxHeartbeats 2000000 in
theorem jU_ (hd : 1 ≤ d ∧ d ≤ 10) (hp : ∀ l : Txt, l.length ≤ 1000 → Spec Tryz.prog 107 [stA l, int (d + 1)] [] (fun _ : {z : Frm × Txt × Bool // DocP k l z} => []) (fun z => .tup [.agg z.1.1.abs, stA z.1.2.1, boo z.1.2.2])) (hl : l.length ≤ 1000) : Spec Tryz.prog 107 [stA l, int d] [] (fun _ : {z : Frm × Txt × Bool // DocP (k + 1) l z} => []) (fun z => .tup [.agg z.1.1.abs, stA z.1.2.1, boo z.1.2.2]) := by
 have hbl := aS_ l
 refine F_ Tryz.func107 rfl Tryz.ntmps107 rfl fun G w =>d_<|a_<|eb_ (H_ tabOk rfl) rfl rfl fun b4=>?_
 refine q_ 2 rfl<|g_<|c_<|d_<|a_<|q_ 1 rfl<|s_ (c9_ (l := l)) Casts.refl (by kernel_rfl) rfl rfl rfl ?_
 refine ap_<|fun _=>q_ 1 rfl<|g_<|c_<|d_<|d_<|a_<|q_ 2 rfl<|g_<|c_<|o_ rfl (by intro hc19; exfalso; omega) ?_
 intro hc19
 refine p_<|c_<|d_<|d_<|a_<|q_ 1 rfl<|s_ (bH_ (l := (bare l)) (wd := [97, 108, 108])) Casts.refl (by kernel_rfl) rfl rfl rfl ?_
 refine ap_<|fun _=>q_ 1 rfl<|aL_ (t := 24) rfl ?_ ?_
 ·intro hc24
  have ha : begins (bare l) [97, 108, 108] = true := hc24
  have hal := a5_ ha
  simp only [List.length_cons, List.length_nil] at hal
  refine q_ 3 rfl<|g_<|c_<|M_ rfl<|d_<|a_<|q_ 1 rfl<|b_ (l_ (C := stA ((bare l).drop 3)) (aG_ (q := 3) Tryz.underlying9 rfl rfl rfl (by simp only [bo_]; omega)) (eo_ _ _)) rfl rfl ?_
  refine q_ 1 rfl<|s_ (hr_ (l := (bare l).drop 3) (by omega) hp (by rw [List.length_drop]; omega)) Casts.refl (by kernel_rfl) rfl rfl rfl ?_
  refine ap_<|fun y=>q_ 7 rfl<|g_<|c_<|d_<|a_<|q_ 1 rfl<|g_<|c_<|d_<|d_<|a_<|q_ 1 rfl<|s_ (bH_ (l := (bare l)) (wd := [97, 108, 108])) Casts.refl (by kernel_rfl) rfl rfl rfl ?_
  refine ap_<|fun _=>g_<|c_<|X_ rfl ?_ (by intro hc37; exfalso; rw [hc24] at hc37; cases hc37)
  intro hc37
  refine a_<|q_ 1 rfl<|b_ (B_ rfl Tryz.underlying128 (List.length_map _)) rfl rfl<|q_ 1 rfl<|g_<|c_<|d_<|a_<|q_ 2 rfl<|b_ (D_ tabOk rfl rfl rfl rfl) rfl rfl<|q_ 2 rfl<|e_ (n_ tabOk rfl rfl rfl u0_ rfl (Nat.le_of_ble_eq_true rfl) rfl rfl) rfl rfl<|q_ 2 rfl<|g_<|c_<|m_<|h_ nofun<|f_ (rs := [.cell 4 130, .tmp 5, .tmp 6]) rfl (RV.cell rfl (RV.cellA tabOk rfl rfl l0_ (by rfl)) (RV.tmp rfl (RV.tmp rfl RV.nil))) (⟨(.mk 0 y.1.1.length y.1.1, y.1.2.1, y.1.2.2), DocP.all ha y.2⟩) sn_ ?_
  (rw [Frm.abs_mk]; rfl)
 intro hc24
 have ha : ¬ begins (bare l) [97, 108, 108] = true := by rw [hc24]; decide
 refine q_ 1 rfl<|s_ (bH_ (l := (bare l)) (wd := [97, 110, 121])) Casts.refl (by kernel_rfl) rfl rfl rfl ?_
 refine ap_<|fun _=>q_ 1 rfl<|g_<|c_<|X_ rfl ?_ ?_
 ·intro hc27
  have hb : begins (bare l) [97, 110, 121] = true := hc27
  have hal := a5_ hb
  simp only [List.length_cons, List.length_nil] at hal
  refine d_<|a_<|q_ 1 rfl<|b_ (l_ (C := stA ((bare l).drop 3)) (aG_ (q := 3) Tryz.underlying9 rfl rfl rfl (by simp only [bo_]; omega)) (eo_ _ _)) rfl rfl ?_
  refine q_ 1 rfl<|s_ (hr_ (l := (bare l).drop 3) (by omega) hp (by rw [List.length_drop]; omega)) Casts.refl (by kernel_rfl) rfl rfl rfl ?_
  refine ap_<|fun y=>q_ 7 rfl<|g_<|c_<|d_<|a_<|q_ 1 rfl<|g_<|c_<|d_<|d_<|a_<|q_ 1 rfl<|s_ (bH_ (l := (bare l)) (wd := [97, 108, 108])) Casts.refl (by kernel_rfl) rfl rfl rfl ?_
  refine ap_<|fun _=>g_<|c_<|X_ rfl (by intro hc37; exfalso; rw [hc24] at hc37; cases hc37) ?_
  intro hc37
  refine p_<|c_<|d_<|a_<|q_ 2 rfl<|b_ (D_ tabOk rfl rfl rfl rfl) rfl rfl<|q_ 2 rfl<|e_ (n_ tabOk rfl rfl rfl u0_ rfl (Nat.le_of_ble_eq_true rfl) rfl rfl) rfl rfl<|q_ 2 rfl<|g_<|c_<|m_<|h_ nofun<|f_ (rs := [.cell 4 130, .tmp 5, .tmp 6]) rfl (RV.cell rfl (RV.cellA tabOk rfl rfl l0_ (by rfl)) (RV.tmp rfl (RV.tmp rfl RV.nil))) (⟨(.mk 0 1 y.1.1, y.1.2.1, y.1.2.2), DocP.any ha hb y.2⟩) sn_ ?_
  (rw [Frm.abs_mk]; rfl)
 intro hc27
 have hb : ¬ begins (bare l) [97, 110, 121] = true := by rw [hc27]; decide
 refine p_<|c_<|d_<|a_<|q_ 1 rfl<|s_ (rtnum_s (l := bare l) (by omega)) Casts.refl (by kernel_rfl) rfl rfl rfl ?_
 refine ap_<|fun _=>q_ 7 rfl<|g_<|c_<|d_<|d_<|a_<|q_ 1 rfl<|b_ (aj_ rfl) rfl rfl<|g_<|c_<|X_ rfl ?_ ?_
 ·intro hc52
  have hn : (numF (bare l)).2.2 = false := by simpa using hc52
  refine d_<|a_<|b_ (D_ tabOk rfl rfl rfl rfl) rfl rfl<|q_ 1 rfl<|e_ (n_ tabOk rfl rfl rfl u0_ rfl (Nat.le_of_ble_eq_true rfl) rfl rfl) rfl rfl<|q_ 2 rfl<|g_<|c_<|m_<|h_ nofun<|fC_ (rs := [.cell 4 130, .tmp 5, .tmp 6]) rfl (RV.cell rfl (RV.cellA tabOk rfl rfl l0_ (by rfl)) (RV.tmp rfl (RV.tmp rfl RV.nil))) (Casts.cons (as_ (Casts.keep (Casts.keep (Casts.nils (s := 3) Casts.refl)))) Casts.refl) (⟨(.mk 0 0 [], bare l, false), DocP.bad ha hb hn rfl⟩) sn_ ?_
  (rw [Frm.abs_mk]; rfl)
 intro hc52
 have hn : (numF (bare l)).2.2 = true := by simpa using hc52
 obtain ⟨v, hv1, hv2, hv3, hv4⟩ := hD_ hn
 have hb9 := aS_ (numF (bare l)).2.1
 refine p_<|c_<|d_<|d_<|a_<|q_ 1 rfl<|s_ (c9_ (l := (numF (bare l)).2.1)) Casts.refl (by kernel_rfl) rfl rfl rfl ?_
 refine ap_<|fun _=>s_ (bH_ (l := (bare (numF (bare l)).2.1)) (wd := [111, 102])) Casts.refl (by kernel_rfl) rfl rfl rfl ?_
 refine ap_<|fun _=>b_ (aj_ rfl) rfl rfl<|g_<|c_<|X_ rfl ?_ ?_
 ·intro hc58
  have hof : ¬ begins (bare (numF (bare l)).2.1) [111, 102] = true := by simpa using hc58
  refine d_<|a_<|q_ 1 rfl<|b_ (D_ tabOk rfl rfl rfl rfl) rfl rfl<|q_ 1 rfl<|e_ (n_ tabOk rfl rfl rfl u0_ rfl (Nat.le_of_ble_eq_true rfl) rfl rfl) rfl rfl<|q_ 2 rfl<|g_<|c_<|m_<|h_ nofun<|fC_ (rs := [.cell 4 130, .tmp 5, .tmp 6]) rfl (RV.cell rfl (RV.cellA tabOk rfl rfl l0_ (by rfl)) (RV.tmp rfl (RV.tmp rfl RV.nil))) (Casts.cons (as_ (Casts.keep (Casts.keep (Casts.nils (s := 3) Casts.refl)))) Casts.refl) (⟨(.mk (numF (bare l)).1 0 [], (numF (bare l)).2.1, true), DocP.org ha hb hn hof⟩) sn_ ?_
  (rw [Frm.abs_mk]; rfl)
 intro hc58
 have hof : begins (bare (numF (bare l)).2.1) [111, 102] = true := by simpa using hc58
 have hol := a5_ hof
 simp only [List.length_cons, List.length_nil] at hol
 refine p_<|c_<|d_<|a_<|q_ 1 rfl<|s_ (c9_ (l := (numF (bare l)).2.1)) Casts.refl (by kernel_rfl) rfl rfl rfl ?_
 refine ap_<|fun _=>b_ (l_ (C := stA ((bare (numF (bare l)).2.1).drop 2)) (aG_ (q := 2) Tryz.underlying9 rfl rfl rfl (by simp only [bo_]; omega)) (eo_ _ _)) rfl rfl ?_
 refine q_ 1 rfl<|s_ (hr_ (l := (bare (numF (bare l)).2.1).drop 2) (by omega) hp (by rw [List.length_drop]; omega)) Casts.refl (by kernel_rfl) rfl rfl rfl ?_
 refine ap_<|fun y=>q_ 7 rfl<|g_<|c_<|d_<|a_<|q_ 2 rfl<|b_ (D_ tabOk rfl rfl rfl rfl) rfl rfl<|q_ 3 rfl<|aL_ (t := 76) rfl ?_ ?_
 rotate_left
 ·intro hc76
  refine q_ 7 rfl<|e_ (n_ tabOk rfl rfl rfl u0_ rfl (Nat.le_of_ble_eq_true rfl) rfl rfl) rfl rfl<|q_ 2 rfl<|g_<|c_<|m_<|f_ (rs := [.cell 4 130, .tmp 5, .tmp 6]) rfl (RV.cell rfl (RV.cellA tabOk rfl rfl l0_ (by rfl)) (RV.tmp rfl (RV.tmp rfl RV.nil))) (⟨(.mk 0 (numF (bare l)).1 y.1.1, y.1.2.1, false), DocP.of ha hb hn hof y.2 ⟨fun h => (by cases h), fun h => (by rw [hc76] at h; cases h.1)⟩⟩) sn_ ?_
  (rw [Frm.abs_mk]; rfl)
 intro hc76
 refine q_ 4 rfl<|z_ (t := 80) rfl ?_ ?_
 ·intro hc80
  refine q_ 3 rfl<|e_ (n_ tabOk rfl rfl rfl u0_ rfl (Nat.le_of_ble_eq_true rfl) rfl rfl) rfl rfl<|q_ 2 rfl<|g_<|c_<|m_<|f_ (rs := [.cell 4 130, .tmp 5, .tmp 6]) rfl (RV.cell rfl (RV.cellA tabOk rfl rfl l0_ (by rfl)) (RV.tmp rfl (RV.tmp rfl RV.nil))) (⟨(.mk 0 (numF (bare l)).1 y.1.1, y.1.2.1, decide ((numF (bare l)).1 ≤ 99)), DocP.of ha hb hn hof y.2 (by rw [decide_eq_true_iff]; exact ⟨fun h => ⟨hc76, by omega, h⟩, fun h => h.2.2⟩)⟩) sn_ ?_
  (rw [Frm.abs_mk]; rfl)
 intro hc80
 refine q_ 3 rfl<|e_ (n_ tabOk rfl rfl rfl u0_ rfl (Nat.le_of_ble_eq_true rfl) rfl rfl) rfl rfl<|q_ 2 rfl<|g_<|c_<|m_<|f_ (rs := [.cell 4 130, .tmp 5, .tmp 6]) rfl (RV.cell rfl (RV.cellA tabOk rfl rfl l0_ (by rfl)) (RV.tmp rfl (RV.tmp rfl RV.nil))) (⟨(.mk 0 (numF (bare l)).1 y.1.1, y.1.2.1, false), DocP.of ha hb hn hof y.2 ⟨fun h => (by cases h), fun h => absurd h.2.1 (by omega)⟩⟩) sn_ ?_
 (rw [Frm.abs_mk]; rfl)
theorem rpol_s : ∀ k : Nat, k ≤ 10 → ∀ l : Txt, l.length ≤ 1000 → Spec Tryz.prog 107 [stA l, int (11 - (k : Int))] [] (fun _ : {z : Frm × Txt × Bool // DocP k l z} => []) (fun z => .tup [.agg z.1.1.abs, stA z.1.2.1, boo z.1.2.2])
  | 0, _, l, hl => rpol0_s hl
  | k + 1, hk, l, hl => jU_ (by omega) (by
      rw [show (11 - ((k + 1 : Nat) : Int)) + 1 = 11 - (k : Int) by omega]
      exact rpol_s k (by omega)) hl
theorem rpol1_s (hl : l.length ≤ 1000) : Spec Tryz.prog 107 [stA l, int 1] [] (fun _ : {z : Frm × Txt × Bool // DocP 10 l z} => []) (fun z => .tup [.agg z.1.1.abs, stA z.1.2.1, boo z.1.2.2]) := rpol_s 10 (Nat.le_refl _) l hl
set_option maxHeartbeats 2000000 in
theorem rparse_s  : Spec Tryz.prog 88 [stA l, int n] [] (fun _ : Unit => []) (fun _ => .tup [.agg (parseF l n).1.abs, int (parseF l n).2]) := by
 refine F_ Tryz.func88 rfl Tryz.ntmps88 rfl fun G w =>d_<|a_<|eb_ (H_ tabOk rfl) rfl rfl fun b4=>?_
 refine q_ 1 rfl<|g_<|c_<|d_<|d_<|a_<|q_ 1 rfl<|b_ (l_ (C := int ((l.length : Nat) : Int)) (ao_ rfl Tryz.underlying9) rfl) rfl rfl<|q_ 1 rfl<|g_<|c_<|o_ rfl ?_ ?_
 ·intro hc12
  have hl2 : 200 < l.length := by omega
  refine d_<|a_<|b_ (D_ tabOk rfl rfl rfl rfl) rfl rfl<|e_ (n_ tabOk rfl rfl rfl u0_ rfl (Nat.le_of_ble_eq_true rfl) rfl rfl) rfl rfl<|q_ 1 rfl<|g_<|c_<|m_<|h_ nofun<|fC_ (rs := [.cell 4 130, .tmp 5]) rfl (RV.cell rfl (RV.cellA tabOk rfl rfl l0_ (by rfl)) (RV.tmp rfl RV.nil)) (Casts.cons (as_ (Casts.keep (Casts.keep (Casts.nils (s := 3) Casts.refl)))) Casts.refl) (()) sn_ ?_
  rw [fj_ hl2]
  rw [Frm.abs_mk]
  rfl
 intro hc12
 have hl2 : ¬ 200 < l.length := by omega
 refine p_<|c_<|d_<|a_<|q_ 1 rfl<|s_ (rpol1_s (l := l) (by omega)) Casts.refl (by kernel_rfl) rfl rfl rfl ?_
 refine ap_<|fun y=>q_ 4 rfl<|eb_ (H_ tabOk rfl) rfl rfl fun b6=>?_
 refine e_ (n_ (L' := y.1.1.abs) tabOk rfl rfl rfl u0_ (by exact Frm.abs_len _) (Nat.le_of_ble_eq_true rfl) (by exact Frm.abs_ones _) (t_ (by exact Frm.abs_len _))) rfl rfl ?_
 refine q_ 2 rfl<|g_<|c_<|d_<|d_<|a_<|q_ 1 rfl<|b_ (aj_ rfl) rfl rfl<|q_ 1 rfl<|aL_ (t := 22) rfl ?_ ?_
 ·intro hc22
  have ho : y.1.2.2 = false := by simpa using hc22
  refine q_ 4 rfl<|g_<|c_<|M_ rfl<|d_<|a_<|b_ (D_ tabOk rfl rfl rfl rfl) rfl rfl<|e_ (n_ tabOk rfl rfl rfl u1_ rfl (Nat.le_of_ble_eq_true rfl) rfl rfl) rfl rfl<|q_ 1 rfl<|g_<|c_<|m_<|h_ nofun<|fC_ (rs := [.cell 4 130, .tmp 5]) rfl (RV.cell rfl (RV.cellA tabOk rfl rfl l1_ (by rfl)) (RV.tmp rfl RV.nil)) (Casts.cons (as_ (Casts.keep (Casts.keep (Casts.nils (s := 3) Casts.refl)))) Casts.refl) (()) sn_ ?_
  rw [kW_ hl2 y.2 (.inl ho)]
  rw [Frm.abs_mk]
  rfl
 intro hc22
 have ho : y.1.2.2 = true := by simpa using hc22
 refine q_ 1 rfl<|s_ (c9_ (l := y.1.2.1)) Casts.refl (by kernel_rfl) rfl rfl rfl ?_
 refine ap_<|fun _=>b_ (l_ (C := boo (decide (¬ bare y.1.2.1 = []))) (dO_ rfl rfl) (congrArg (fun b => Abs.v (Value.bool b)) (decide_eq_decide.2 (not_congr jf_)))) rfl rfl<|q_ 1 rfl<|g_<|c_<|o_ rfl ?_ ?_
 ·intro hc26
  refine d_<|a_<|b_ (D_ tabOk rfl rfl rfl rfl) rfl rfl<|e_ (n_ tabOk rfl rfl rfl u1_ rfl (Nat.le_of_ble_eq_true rfl) rfl rfl) rfl rfl<|q_ 1 rfl<|g_<|c_<|m_<|h_ nofun<|fC_ (rs := [.cell 4 130, .tmp 5]) rfl (RV.cell rfl (RV.cellA tabOk rfl rfl l1_ (by rfl)) (RV.tmp rfl RV.nil)) (Casts.cons (as_ (Casts.keep (Casts.keep (Casts.nils (s := 3) Casts.refl)))) Casts.refl) (()) sn_ ?_
  rw [kW_ hl2 y.2 (.inr hc26)]
  rw [Frm.abs_mk]
  rfl
 intro hc26
 have hpe := doc_end (n := n) hl2 y.2 ho (Classical.byContradiction hc26)
 refine p_<|c_<|d_<|d_<|a_<|b_ (U_ tabOk rfl rfl rfl l0_ List.not_mem_nil (Frm.abs_len _)) rfl rfl<|q_ 1 rfl<|s_ (j2_ (f := y.1.1) (n := n) (by have := hpe.1; omega)) Casts.refl (by kernel_rfl) rfl rfl rfl ?_
 refine ap_<|fun _=>q_ 1 rfl<|g_<|c_<|d_<|a_<|q_ 2 rfl<|g_<|c_<|o_ rfl ?_ ?_
 rotate_left
 ·intro hc32
  refine p_<|c_<|d_<|a_<|b_ (U_ tabOk rfl rfl rfl l0_ List.not_mem_nil (Frm.abs_len _)) rfl rfl<|e_ (n_ (L' := y.1.1.abs) tabOk rfl rfl rfl u1_ (by exact Frm.abs_len _) (Nat.le_of_ble_eq_true rfl) (by exact Frm.abs_ones _) (t_ (by exact Frm.abs_len _))) rfl rfl ?_
  refine q_ 1 rfl<|g_<|c_<|m_<|f_ (rs := [.cell 4 130, .tmp 5]) rfl (RV.cell rfl (RV.cellA tabOk rfl rfl l1_ (by exact Frm.abs_len _)) (RV.tmp rfl RV.nil)) (()) sn_ ?_
  rw [hpe.2, if_neg hc32]
  rfl
 intro hc32
 refine d_<|a_<|b_ (D_ tabOk rfl rfl rfl rfl) rfl rfl<|q_ 1 rfl<|e_ (n_ tabOk rfl rfl rfl u1_ rfl (Nat.le_of_ble_eq_true rfl) rfl rfl) rfl rfl<|q_ 1 rfl<|g_<|c_<|m_<|h_ nofun<|fC_ (rs := [.cell 4 130, .tmp 5]) rfl (RV.cell rfl (RV.cellA tabOk rfl rfl l1_ (by rfl)) (RV.tmp rfl RV.nil)) (Casts.cons (as_ (Casts.keep (Casts.keep (Casts.nils (s := 3) Casts.refl)))) Casts.refl) (()) sn_ ?_
 rw [hpe.2, if_pos hc32]
 rw [Frm.abs_mk]
 rfl
end
section
variable {l : Lg} {x : Ltr} {k n : Int} {s : ByteArray} {c : Core} {e : Ent} {es : List Ent} {h : List (List Ent)} {e1 e2 : Value}
theorem rstale_s  : Spec Tryz.prog 25 [.agg l.abs, coreA c] [] (fun _ : Unit => []) (fun _ => boo (l.stale c)) := by
 refine F_ Tryz.func25 rfl Tryz.ntmps25 rfl fun G w =>d_<|a_<|eb_ (R_ (cs := l.abs) rfl) rfl rfl fun b2=>?_
 refine eb_ (R_ (cs := c.cells.map .v) rfl) rfl rfl fun b3=>?_
 refine q_ 1 rfl<|g_<|c_<|d_<|a_<|b_ (l_ (C := .agg l.abs) (x_ tabOk rfl rfl rfl l1_ List.not_mem_nil (Nat.le_of_ble_eq_true rfl)) rfl) rfl rfl<|q_ 1 rfl<|b_ (i_ tabOk rfl rfl l0_ List.not_mem_nil rfl) rfl rfl<|s_ (ew_ (l := l) (k := c.client)) Casts.refl (by kernel_rfl) rfl rfl rfl ?_
 refine ap_<|fun _=>q_ 3 rfl<|eb_ (H_ tabOk rfl) rfl rfl fun b5=>?_
 refine e_ (n_ (L' := ((l.last c.client).getD Oc.zero).abs) tabOk rfl rfl rfl u0_ rfl (Nat.le_of_ble_eq_true rfl) rfl (by exact t_ rfl)) rfl rfl ?_
 refine q_ 1 rfl<|g_<|c_<|d_<|a_<|q_ 2 rfl<|aL_ (t := 15) rfl ?_ ?_
 ·intro hc15
  refine q_ 1 rfl<|b_ (i_ tabOk rfl rfl l0_ List.not_mem_nil rfl) rfl rfl<|q_ 1 rfl<|b_ (i_ tabOk rfl rfl l1_ List.not_mem_nil rfl) rfl rfl<|q_ 3 rfl<|g_<|c_<|m_<|f_ (rs := [.tmp 4]) rfl (RV.tmp rfl RV.nil) (()) sn_ ?_
  unfold Lg.stale
  cases hl : l.last c.client with
  | none => rw [hl] at hc15; cases hc15
  | some o9 => rw [hl] at hc15; rfl
 intro hc15
 refine q_ 7 rfl<|g_<|c_<|m_<|f_ (rs := [.tmp 4]) rfl (RV.tmp rfl RV.nil) (()) sn_ ?_
 unfold Lg.stale
 cases hl : l.last c.client with
 | none => rw [hl] at hc15; rfl
 | some o9 => rw [hl] at hc15; cases hc15
set_option maxHeartbeats 4000000 in
theorem jT_ (hf : l.Few) (hl : l.Wf) (ha : i64ok e.core.a) (ht : e.core.text.size ≤ 9223372036854775807) (hm : e.mask < 4294967296) (hs : e.core.letter.size ≤ lots) : Spec Tryz.prog 59 [.agg l.abs, .agg (entA e), int n] [] (fun _ : Unit => []) (fun _ => .tup [.agg (l.res e n).1.abs, int (l.res e n).2]) := by
 have hox := Lg.old_wf hl e.core.letter
 have hsw := fM_ (op := e.core.op) (a := e.core.a) (b := e.core.b) (t := e.core.text) hox
 refine F_ Tryz.func59 rfl Tryz.ntmps59 rfl fun G w =>d_<|a_<|eb_ (R_ (cs := l.abs) rfl) rfl rfl fun b3=>?_
 refine eb_ (R_ (cs := entA e) rfl) rfl rfl fun b4=>?_
 refine eb_ (H_ tabOk rfl) rfl rfl fun b6=>?_
 refine q_ 1 rfl<|g_<|c_<|d_<|a_<|q_ 1 rfl<|b_ (l_ (C := coreA e.core) (x_ tabOk rfl rfl rfl l1_ List.not_mem_nil (Nat.le_of_ble_eq_true rfl)) rfl) rfl rfl<|eb_ (H_ tabOk rfl) rfl rfl fun b8=>?_
 refine e_ (n_ (L' := e.core.cells.map .v) tabOk rfl rfl rfl u0_ rfl (Nat.le_of_ble_eq_true rfl) rfl (by exact t_ rfl)) rfl rfl ?_
 refine g_<|c_<|d_<|a_<|b_ (l_ (C := .agg l.abs) (x_ tabOk rfl rfl rfl l3_ List.not_mem_nil (Nat.le_of_ble_eq_true rfl)) rfl) rfl rfl<|q_ 1 rfl<|b_ (l_ (C := st e.core.letter) (i_ tabOk rfl rfl l0_ List.not_mem_nil rfl) rfl) rfl rfl<|s_ (j1_ (l := l) (s := e.core.letter)) Casts.refl (by kernel_rfl) rfl rfl rfl ?_
 refine ap_ ?_
 intro _
 rw [show (l.find e.core.letter).getD Ltr.none = (l.old e.core.letter) from rfl]
 refine q_ 3 rfl<|eb_ (H_ tabOk rfl) rfl rfl fun b9=>?_
 refine e_ (n_ (L' := ltrA (l.old e.core.letter)) tabOk rfl rfl rfl u0_ rfl (Nat.le_of_ble_eq_true rfl) rfl (by exact t_ rfl)) rfl rfl ?_
 refine q_ 1 rfl<|g_<|c_<|a1_ (ι := Unit) (fun z => (.blk b9 81 (ltrA (l.old e.core.letter)) :: .blk b8 59 (e.core.cells.map .v) :: .blk b6 30 (zabs [.int .i64 0, .int .i64 0, .slice none 0 0, .slice none 0 0]) :: .blk b4 66 (entA e) :: .blk b3 30 l.abs :: [])) (fun z => [(2, int n), (3, ptr b3), (4, ptr b4), (6, ptr b6), (8, ptr b8), (9, ptr b9)]) (fun z => ¬ l.known e.core ≠ 0) ?_ ?_
 ·skip
  refine d_<|a_<|q_ 1 rfl<|b_ (l_ (C := int e.core.op) (i_ tabOk rfl rfl l1_ List.not_mem_nil rfl) rfl) rfl rfl<|q_ 2 rfl<|z_ (t := 30) rfl ?_ ?_
  rotate_left
  ·intro hc30
   refine q_ 3 rfl<|g_<|c_<|ad_ rfl<|p_ ?_
   have hkn : ¬ l.known e.core ≠ 0 := by
    intro h9
    unfold Lg.known at h9
    split at h9
    ·next h8 =>
     have h7 := Option.isNone_iff_eq_none.1 h8.1
     exact hc30 h8.2
    exact h9 rfl
   refine ab_ (()) (hkn) (by exact ⟨rfl, rfl, rfl, rfl, rfl, rfl, trivial⟩) sr_
  intro hc30
  refine q_ 1 rfl<|b_ (aj_ rfl) rfl rfl<|q_ 1 rfl<|g_<|c_<|X_ rfl ?_ ?_
  rotate_left
  ·intro hc33
   refine p_ ?_
   have hkn : ¬ l.known e.core ≠ 0 := by
    intro h9
    unfold Lg.known at h9
    split at h9
    ·next h8 =>
     have h7 := Option.isNone_iff_eq_none.1 h8.1
     (rw [h7] at hc33; cases hc33)
    exact h9 rfl
   refine ab_ (()) (hkn) (by exact ⟨rfl, rfl, rfl, rfl, rfl, rfl, trivial⟩) sr_
  intro hc33
  refine d_<|a_<|b_ (l_ (C := .agg l.abs) (x_ tabOk rfl rfl rfl l4_ List.not_mem_nil (Nat.le_of_ble_eq_true rfl)) rfl) rfl rfl<|e_ (n_ (L' := l.abs) tabOk rfl rfl rfl u2_ rfl (Nat.le_of_ble_eq_true rfl) rfl (by exact t_ rfl)) rfl rfl ?_
  refine q_ 1 rfl<|g_<|c_<|m_<|h_ nofun ?_
  have hk7 : l.known e.core = 7 := if_pos ⟨by simpa using hc33, hc30⟩
  have hst := res_a (l := l) (e := e) (n := n) (by rw [hk7]; decide)
  rw [hk7] at hst
  refine f_ (rs := [.cell 6 30, .tmp 7]) rfl (RV.cell rfl (RV.cellA tabOk rfl rfl l2_ (by rfl)) (RV.tmp rfl RV.nil)) (()) sn_ ?_
  rw [hst]
  rfl
 intro z0 hkn
 refine d_<|a_<|q_ 1 rfl<|b_ (l_ (C := st (l.old e.core.letter).policy) (i_ tabOk rfl rfl l0_ List.not_mem_nil rfl) rfl) rfl rfl<|q_ 1 rfl<|g_<|c_<|a1_ (ι := Unit) (fun z => (.blk b9 81 (ltrA (l.old e.core.letter)) :: .blk b8 59 (e.core.cells.map .v) :: .blk b6 30 (zabs [.int .i64 0, .int .i64 0, .slice none 0 0, .slice none 0 0]) :: .blk b4 66 (entA e) :: .blk b3 30 l.abs :: [])) (fun z => [(2, int n), (3, ptr b3), (4, ptr b4), (6, ptr b6), (8, ptr b8), (9, ptr b9), (11, st (polB (l.old e.core.letter) e.core))]) (fun z => True) ?_ ?_
 ·skip
  refine d_<|a_<|q_ 1 rfl<|b_ (l_ (C := int e.core.op) (i_ tabOk rfl rfl l1_ List.not_mem_nil rfl) rfl) rfl rfl<|q_ 1 rfl<|g_<|c_<|o_ rfl ?_ ?_
  rotate_left
  ·intro hc39
   refine p_<|ab_ (()) (trivial) (by exact ⟨rfl, rfl, rfl, rfl, rfl, rfl, congrArg (fun s => some (st s)) (show (l.old e.core.letter).policy = (polB (l.old e.core.letter) e.core) from (if_neg hc39).symm), trivial⟩) sr_
  intro hc39
  refine a_<|q_ 1 rfl<|b_ (l_ (C := st e.core.text) (i_ tabOk rfl rfl l1_ List.not_mem_nil rfl) rfl) rfl rfl<|q_ 1 rfl<|g_<|ab_ (()) (trivial) (by exact ⟨rfl, rfl, rfl, rfl, rfl, rfl, congrArg (fun s => some (st s)) (show e.core.text = (polB (l.old e.core.letter) e.core) from (if_pos hc39).symm), trivial⟩) sr_
 intro z1 hz1
 refine d_<|a_<|q_ 2 rfl<|s_ (rparse_s (l := tx (polB (l.old e.core.letter) e.core)) (n := n)) (Casts.of_eq (by rw [st_tx])) (by kernel_rfl) rfl rfl rfl ?_
 refine ap_<|fun _=>q_ 3 rfl<|eb_ (H_ tabOk rfl) rfl rfl fun b12=>?_
 refine e_ (n_ (L' := (parseF (tx (polB (l.old e.core.letter) e.core)) n).1.abs) tabOk rfl rfl rfl u0_ (by exact Frm.abs_len _) (Nat.le_of_ble_eq_true rfl) (by exact Frm.abs_ones _) (t_ (by exact Frm.abs_len _))) rfl rfl ?_
 refine q_ 1 rfl<|g_<|c_<|d_<|d_<|a_<|q_ 2 rfl<|g_<|c_<|o_ rfl ?_ ?_
 ·intro hc49
  refine d_<|a_<|b_ (l_ (C := .agg l.abs) (x_ tabOk rfl rfl rfl l5_ List.not_mem_nil (Nat.le_of_ble_eq_true rfl)) rfl) rfl rfl<|e_ (n_ (L' := l.abs) tabOk rfl rfl rfl u3_ rfl (Nat.le_of_ble_eq_true rfl) rfl (by exact t_ rfl)) rfl rfl ?_
  refine q_ 1 rfl<|g_<|c_<|m_<|h_ nofun ?_
  have he9 : endorsedF (l.old e.core.letter) e n = 2 := if_pos hc49
  have hst := res_b (n := n) hkn (by rw [he9]; decide)
  rw [he9] at hst
  refine f_ (rs := [.cell 6 30, .tmp 7]) rfl (RV.cell rfl (RV.cellA tabOk rfl rfl l3_ (by rfl)) (RV.tmp rfl RV.nil)) (()) sn_ ?_
  rw [hst]
  rfl
 intro hc49
 have hpz : (parseF (tx (polB (l.old e.core.letter) e.core)) n).2 = 0 := Classical.byContradiction hc49
 have hck := gE_ hpz
 refine p_<|c_<|d_<|d_<|a_<|b_ (U_ tabOk rfl rfl rfl l0_ List.not_mem_nil (Frm.abs_len _)) rfl rfl<|q_ 1 rfl<|b_ (l_ (C := .v (.int .u32 (e.mask : Nat))) (i_ tabOk rfl rfl l4_ List.not_mem_nil rfl) rfl) rfl rfl<|s_ (rholds_s (BitVec.ofNat 32 e.mask) (parseF (tx (polB (l.old e.core.letter) e.core)) n).1 (by have h9 := (Frm.check_ok.1 hck).2.1; omega) (Frm.ranges_mono (by have h9 := (Frm.check_ok.1 hck).1; omega) _ (Frm.check_ok.1 hck).2.2.2)) (Casts.of_eq (by rw [iw_ hm])) (by kernel_rfl) rfl rfl rfl ?_
 refine ap_<|fun _=>b_ (aj_ rfl) rfl rfl<|g_<|c_<|X_ rfl ?_ ?_
 ·intro hc55
  refine d_<|a_<|b_ (l_ (C := .agg l.abs) (x_ tabOk rfl rfl rfl l5_ List.not_mem_nil (Nat.le_of_ble_eq_true rfl)) rfl) rfl rfl<|e_ (n_ (L' := l.abs) tabOk rfl rfl rfl u3_ rfl (Nat.le_of_ble_eq_true rfl) rfl (by exact t_ rfl)) rfl rfl ?_
  refine q_ 1 rfl<|g_<|c_<|m_<|h_ nofun ?_
  have he9 : endorsedF (l.old e.core.letter) e n = 9 := (if_neg hc49).trans (if_pos (by simpa using hc55))
  have hst := res_b (n := n) hkn (by rw [he9]; decide)
  rw [he9] at hst
  refine f_ (rs := [.cell 6 30, .tmp 7]) rfl (RV.cell rfl (RV.cellA tabOk rfl rfl l3_ (by rfl)) (RV.tmp rfl RV.nil)) (()) sn_ ?_
  rw [hst]
  rfl
 intro hc55
 refine p_<|c_<|d_<|a_<|b_ (l_ (C := .agg (ltrA (l.old e.core.letter))) (x_ tabOk rfl rfl rfl l1_ List.not_mem_nil (Nat.le_of_ble_eq_true rfl)) rfl) rfl rfl<|q_ 1 rfl<|b_ (l_ (C := int e.core.op) (i_ tabOk rfl rfl l2_ List.not_mem_nil rfl) rfl) rfl rfl<|q_ 1 rfl<|b_ (l_ (C := int e.core.a) (i_ tabOk rfl rfl l2_ List.not_mem_nil rfl) rfl) rfl rfl<|q_ 1 rfl<|b_ (l_ (C := int e.core.b) (i_ tabOk rfl rfl l2_ List.not_mem_nil rfl) rfl) rfl rfl<|q_ 1 rfl<|b_ (l_ (C := st e.core.text) (i_ tabOk rfl rfl l2_ List.not_mem_nil rfl) rfl) rfl rfl<|s_ (rstep_s (x := (l.old e.core.letter)) (op := e.core.op) (a := e.core.a) (b := e.core.b) (t := e.core.text) hox ha ht) Casts.refl (by kernel_rfl) rfl rfl rfl ?_
 refine ap_<|fun _=>q_ 3 rfl<|eb_ (H_ tabOk rfl) rfl rfl fun b14=>?_
 refine e_ (n_ (L' := ltrA ((l.old e.core.letter).step e.core.op e.core.a e.core.b e.core.text).1) tabOk rfl rfl rfl u0_ rfl (Nat.le_of_ble_eq_true rfl) rfl (by exact t_ rfl)) rfl rfl ?_
 refine q_ 1 rfl<|g_<|c_<|d_<|d_<|a_<|q_ 2 rfl<|g_<|c_<|o_ rfl ?_ ?_
 ·intro hc71
  refine d_<|a_<|b_ (l_ (C := .agg l.abs) (x_ tabOk rfl rfl rfl l6_ List.not_mem_nil (Nat.le_of_ble_eq_true rfl)) rfl) rfl rfl<|q_ 1 rfl<|e_ (n_ (L' := l.abs) tabOk rfl rfl rfl u4_ rfl (Nat.le_of_ble_eq_true rfl) rfl (by exact t_ rfl)) rfl rfl ?_
  refine q_ 1 rfl<|g_<|c_<|m_<|h_ nofun ?_
  have he9 : endorsedF (l.old e.core.letter) e n = 0 := (if_neg hc49).trans (if_neg (by simpa using hc55))
  have hst := (j5_ (n := n) hkn (by rw [he9]; decide)).trans (en_ hc71)
  refine f_ (rs := [.cell 6 30, .tmp 7]) rfl (RV.cell rfl (RV.cellA tabOk rfl rfl l4_ (by rfl)) (RV.tmp rfl RV.nil)) (()) sn_ ?_
  rw [hst]
  rfl
 intro hc71
 refine p_<|c_<|d_<|a_<|q_ 1 rfl<|b_ (l_ (C := st e.core.letter) (i_ tabOk rfl rfl l3_ List.not_mem_nil rfl) rfl) rfl rfl<|q_ 1 rfl<|e_ (n_ (L' := ltrA (nextL (l.old e.core.letter) e.core)) tabOk rfl rfl rfl u0_ rfl (Nat.le_of_ble_eq_true rfl) rfl rfl) rfl rfl<|g_<|c_<|d_<|a_<|b_ (l_ (C := .agg l.abs) (x_ tabOk rfl rfl rfl l6_ List.not_mem_nil (Nat.le_of_ble_eq_true rfl)) rfl) rfl rfl<|b_ (l_ (C := .agg (ltrA (nextL (l.old e.core.letter) e.core))) (x_ tabOk rfl rfl rfl l0_ List.not_mem_nil (Nat.le_of_ble_eq_true rfl)) rfl) rfl rfl<|s_ (rwith_s (x := (nextL (l.old e.core.letter) e.core)) hf hs) Casts.refl (by kernel_rfl) rfl rfl rfl ?_
 refine ap_<|fun _=>q_ 3 rfl<|eb_ (H_ tabOk rfl) rfl rfl fun b15=>?_
 refine e_ (n_ (L' := (l.with_ (nextL (l.old e.core.letter) e.core)).1.abs) tabOk rfl rfl rfl u0_ rfl (Nat.le_of_ble_eq_true rfl) rfl (by exact t_ rfl)) rfl rfl ?_
 refine q_ 1 rfl<|g_<|c_<|d_<|d_<|a_<|q_ 2 rfl<|g_<|c_<|o_ rfl ?_ ?_
 ·intro hc84
  refine d_<|a_<|b_ (l_ (C := .agg l.abs) (x_ tabOk rfl rfl rfl l7_ List.not_mem_nil (Nat.le_of_ble_eq_true rfl)) rfl) rfl rfl<|q_ 1 rfl<|e_ (n_ (L' := l.abs) tabOk rfl rfl rfl u5_ rfl (Nat.le_of_ble_eq_true rfl) rfl (by exact t_ rfl)) rfl rfl ?_
  refine q_ 1 rfl<|g_<|c_<|m_<|h_ nofun ?_
  have he9 : endorsedF (l.old e.core.letter) e n = 0 := (if_neg hc49).trans (if_neg (by simpa using hc55))
  have hst := (j5_ (n := n) hkn (by rw [he9]; decide)).trans (cq_ hc71 hc84)
  refine f_ (rs := [.cell 6 30, .tmp 7]) rfl (RV.cell rfl (RV.cellA tabOk rfl rfl l5_ (by rfl)) (RV.tmp rfl RV.nil)) (()) sn_ ?_
  rw [hst]
  rfl
 intro hc84
 refine p_<|c_<|d_<|d_<|a_<|q_ 1 rfl<|b_ (l_ (C := int e.core.op) (i_ tabOk rfl rfl l4_ List.not_mem_nil rfl) rfl) rfl rfl<|q_ 1 rfl<|g_<|c_<|o_ rfl ?_ ?_
 rotate_left
 ·intro hc89
  refine p_<|c_<|d_<|a_<|b_ (l_ (C := .agg (Lg.abs (l.with_ (nextL (l.old e.core.letter) e.core)).1)) (x_ tabOk rfl rfl rfl l0_ List.not_mem_nil (Nat.le_of_ble_eq_true rfl)) rfl) rfl rfl<|e_ (n_ (L' := Lg.abs (l.with_ (nextL (l.old e.core.letter) e.core)).1) tabOk rfl rfl rfl u5_ rfl (Nat.le_of_ble_eq_true rfl) rfl (by exact t_ rfl)) rfl rfl ?_
  refine q_ 1 rfl<|g_<|c_<|m_ ?_
  have he9 : endorsedF (l.old e.core.letter) e n = 0 := (if_neg hc49).trans (if_neg (by simpa using hc55))
  have hst := (j5_ (n := n) hkn (by rw [he9]; decide)).trans (cp_ hc71 hc84 hc89)
  refine f_ (rs := [.cell 6 30, .tmp 7]) rfl (RV.cell rfl (RV.cellA tabOk rfl rfl l5_ (by rfl)) (RV.tmp rfl RV.nil)) (()) sn_ ?_
  rw [hst]
  rfl
 intro hc89
 refine d_<|a_<|q_ 1 rfl<|b_ (l_ (C := int l.total) (i_ tabOk rfl rfl l7_ List.not_mem_nil rfl) rfl) rfl rfl<|q_ 1 rfl<|b_ (l_ (C := int (nextL (l.old e.core.letter) e.core).amount) (i_ tabOk rfl rfl l1_ List.not_mem_nil rfl) rfl) rfl rfl<|s_ (rmadd_s (a := l.total) (b := (nextL (l.old e.core.letter) e.core).amount) hl.total hsw.amount) Casts.refl (by kernel_rfl) rfl rfl rfl ?_
 refine ap_<|fun _=>q_ 5 rfl<|g_<|c_<|d_<|d_<|a_<|q_ 2 rfl<|g_<|c_<|o_ rfl ?_ ?_
 ·intro hc99
  refine d_<|a_<|b_ (l_ (C := .agg l.abs) (x_ tabOk rfl rfl rfl l7_ List.not_mem_nil (Nat.le_of_ble_eq_true rfl)) rfl) rfl rfl<|e_ (n_ (L' := l.abs) tabOk rfl rfl rfl u5_ rfl (Nat.le_of_ble_eq_true rfl) rfl (by exact t_ rfl)) rfl rfl ?_
  refine q_ 1 rfl<|g_<|c_<|m_<|h_ nofun<|h_ nofun ?_
  have he9 : endorsedF (l.old e.core.letter) e n = 0 := (if_neg hc49).trans (if_neg (by simpa using hc55))
  have hst := (j5_ (n := n) hkn (by rw [he9]; decide)).trans (co_ hc71 hc84 hc89 hc99)
  refine f_ (rs := [.cell 6 30, .tmp 7]) rfl (RV.cell rfl (RV.cellA tabOk rfl rfl l5_ (by rfl)) (RV.tmp rfl RV.nil)) (()) sn_ ?_
  rw [hst]
  rfl
 intro hc99
 refine p_<|c_<|a_<|q_ 2 rfl<|e_ (n_ (L' := Lg.abs { (l.with_ (nextL (l.old e.core.letter) e.core)).1 with total := (amtAdd l.total (nextL (l.old e.core.letter) e.core).amount).1 }) tabOk rfl rfl rfl u0_ rfl (Nat.le_of_ble_eq_true rfl) rfl rfl) rfl rfl<|g_<|c_<|d_<|a_<|b_ (l_ (C := .agg (Lg.abs { (l.with_ (nextL (l.old e.core.letter) e.core)).1 with total := (amtAdd l.total (nextL (l.old e.core.letter) e.core).amount).1 })) (x_ tabOk rfl rfl rfl l0_ List.not_mem_nil (Nat.le_of_ble_eq_true rfl)) rfl) rfl rfl<|e_ (n_ (L' := Lg.abs { (l.with_ (nextL (l.old e.core.letter) e.core)).1 with total := (amtAdd l.total (nextL (l.old e.core.letter) e.core).amount).1 }) tabOk rfl rfl rfl u5_ rfl (Nat.le_of_ble_eq_true rfl) rfl (by exact t_ rfl)) rfl rfl ?_
 refine q_ 1 rfl<|g_<|c_<|m_ ?_
 have he9 : endorsedF (l.old e.core.letter) e n = 0 := (if_neg hc49).trans (if_neg (by simpa using hc55))
 have hst := (j5_ (n := n) hkn (by rw [he9]; decide)).trans (cn_ hc71 hc84 hc89 hc99)
 refine f_ (rs := [.cell 6 30, .tmp 7]) rfl (RV.cell rfl (RV.cellA tabOk rfl rfl l5_ (by rfl)) (RV.tmp rfl RV.nil)) (()) sn_ ?_
 rw [hst]
 rfl
set_option maxHeartbeats 2000000 in
theorem rdo_s (hq : l.ls.length ≤ 900 ∧ l.os.length ≤ 900) (hl : l.Wf) (he : EnIns e) (hs : e.core.letter.size ≤ lots) : Spec Tryz.prog 36 [.agg l.abs, .agg (entA e), int n] [] (fun _ : Unit => []) (fun _ => .tup [.agg (l.doF e n).1.abs, int (l.doF e n).2]) := by
 have hf : l.Few := ⟨by omega, by omega⟩
 have hrl := fQ_ (l := l) (e := e) (n := n)
 have hf2 : (l.res e n).1.Few := ⟨by omega, by rw [hrl.2]; omega⟩
 refine F_ Tryz.func36 rfl Tryz.ntmps36 rfl fun G w =>d_<|a_<|eb_ (R_ (cs := l.abs) rfl) rfl rfl fun b3=>?_
 refine eb_ (R_ (cs := entA e) rfl) rfl rfl fun b4=>?_
 refine eb_ (H_ tabOk rfl) rfl rfl fun b6=>?_
 refine q_ 1 rfl<|g_<|c_<|d_<|d_<|a_<|b_ (l_ (C := .agg l.abs) (x_ tabOk rfl rfl rfl l2_ List.not_mem_nil (Nat.le_of_ble_eq_true rfl)) rfl) rfl rfl<|q_ 1 rfl<|b_ (l_ (C := coreA e.core) (x_ tabOk rfl rfl rfl l1_ List.not_mem_nil (Nat.le_of_ble_eq_true rfl)) rfl) rfl rfl<|s_ (rstale_s (l := l) (c := e.core)) Casts.refl (by kernel_rfl) rfl rfl rfl ?_
 refine ap_<|fun _=>g_<|c_<|X_ rfl ?_ ?_
 ·intro hc13
  refine d_<|a_<|b_ (l_ (C := .agg l.abs) (x_ tabOk rfl rfl rfl l2_ List.not_mem_nil (Nat.le_of_ble_eq_true rfl)) rfl) rfl rfl<|e_ (n_ (L' := l.abs) tabOk rfl rfl rfl u0_ rfl (Nat.le_of_ble_eq_true rfl) rfl (by exact t_ rfl)) rfl rfl ?_
  refine q_ 1 rfl<|g_<|c_<|m_<|h_ nofun<|f_ (rs := [.cell 6 30, .tmp 7]) rfl (RV.cell rfl (RV.cellA tabOk rfl rfl l0_ (by rfl)) (RV.tmp rfl RV.nil)) (()) sn_ ?_
  unfold Lg.doF
  rw [if_pos hc13]
  rfl
 intro hc13
 refine p_<|c_<|d_<|a_<|q_ 1 rfl<|b_ (l_ (C := coreA e.core) (x_ tabOk rfl rfl rfl l1_ List.not_mem_nil (Nat.le_of_ble_eq_true rfl)) rfl) rfl rfl<|q_ 1 rfl<|s_ (j7_ (c := e.core) (n := n) hs) Casts.refl (by kernel_rfl) rfl rfl rfl ?_
 refine ap_<|fun _=>q_ 1 rfl<|g_<|c_<|d_<|d_<|a_<|q_ 2 rfl<|g_<|c_<|o_ rfl ?_ ?_
 ·intro hc20
  refine d_<|a_<|b_ (l_ (C := .agg l.abs) (x_ tabOk rfl rfl rfl l2_ List.not_mem_nil (Nat.le_of_ble_eq_true rfl)) rfl) rfl rfl<|q_ 1 rfl<|e_ (n_ (L' := l.abs) tabOk rfl rfl rfl u0_ rfl (Nat.le_of_ble_eq_true rfl) rfl (by exact t_ rfl)) rfl rfl ?_
  refine q_ 1 rfl<|g_<|c_<|m_<|h_ nofun<|f_ (rs := [.cell 6 30, .tmp 7]) rfl (RV.cell rfl (RV.cellA tabOk rfl rfl l0_ (by rfl)) (RV.tmp rfl RV.nil)) (()) sn_ ?_
  unfold Lg.doF
  rw [if_neg (by rw [hc13]; decide), if_pos hc20]
  rfl
 intro hc20
 refine p_<|c_<|d_<|a_<|b_ (l_ (C := .agg l.abs) (x_ tabOk rfl rfl rfl l2_ List.not_mem_nil (Nat.le_of_ble_eq_true rfl)) rfl) rfl rfl<|b_ (l_ (C := .agg (entA e)) (x_ tabOk rfl rfl rfl l1_ List.not_mem_nil (Nat.le_of_ble_eq_true rfl)) rfl) rfl rfl<|q_ 1 rfl<|s_ (jT_ (n := n) hf hl he.a (by have := he.text; unfold maxLen at this; omega) he.mask hs) Casts.refl (by kernel_rfl) rfl rfl rfl ?_
 refine ap_<|fun _=>q_ 3 rfl<|eb_ (H_ tabOk rfl) rfl rfl fun b9=>?_
 refine e_ (n_ (L' := (l.res e n).1.abs) tabOk rfl rfl rfl u0_ rfl (Nat.le_of_ble_eq_true rfl) rfl (by exact t_ rfl)) rfl rfl ?_
 refine q_ 1 rfl<|g_<|c_<|d_<|a_<|b_ (l_ (C := .agg (l.res e n).1.abs) (x_ tabOk rfl rfl rfl l0_ List.not_mem_nil (Nat.le_of_ble_eq_true rfl)) rfl) rfl rfl<|q_ 2 rfl<|b_ (l_ (C := int e.core.client) (i_ tabOk rfl rfl l2_ List.not_mem_nil rfl) rfl) rfl rfl<|q_ 2 rfl<|b_ (l_ (C := int e.core.stamp) (i_ tabOk rfl rfl l2_ List.not_mem_nil rfl) rfl) rfl rfl<|q_ 1 rfl<|b_ (D_ (L := Oc.abs ⟨e.core.client, e.core.stamp, (l.res e n).2⟩) tabOk rfl rfl rfl rfl) rfl rfl<|s_ (rtold_s (l := (l.res e n).1) (x := ⟨e.core.client, e.core.stamp, (l.res e n).2⟩) hf2) Casts.refl (by kernel_rfl) rfl rfl rfl ?_
 refine ap_<|fun _=>q_ 1 rfl<|e_ (n_ (L' := ((l.res e n).1.told ⟨e.core.client, e.core.stamp, (l.res e n).2⟩).abs) tabOk rfl rfl rfl u1_ rfl (Nat.le_of_ble_eq_true rfl) rfl (by exact t_ rfl)) rfl rfl ?_
 refine q_ 1 rfl<|g_<|c_<|m_<|f_ (rs := [.cell 6 30, .tmp 7]) rfl (RV.cell rfl (RV.cellA tabOk rfl rfl l1_ (by rfl)) (RV.tmp rfl RV.nil)) (()) sn_ ?_
 unfold Lg.doF
 rw [if_neg (by rw [hc13]; decide), if_neg hc20]
 rfl
set_option maxHeartbeats 2000000 in
theorem jZ_ (hes : ∀ e ∈ es, EnIns e) (hss : ∀ e ∈ es, e.core.letter.size ≤ lots) (hl : l.Wf) (h1 : l.ls.length ≤ 500) (h2 : l.os.length ≤ 500) (h3 : es.length ≤ 300) (hsq : l.seq ≤ 1000000000) : Spec Tryz.prog 16 [.agg l.abs, entsR es, int n] [] (fun _ : Unit => []) (fun _ => .tup [.agg (l.foldF es n).1.abs, errsR (l.foldF es n).2]) := by
 have hseq0 : -9223372036854775808 ≤ l.seq ∧ l.seq ≤ 9223372036854775807 := hl.seq
 have hseq1 := dt_ n l es
 refine F_ Tryz.func16 rfl Tryz.ntmps16 rfl fun G w =>d_<|a_<|eb_ (R_ (cs := l.abs) rfl) rfl rfl fun b3=>?_
 refine eb_ (H_ tabOk rfl) rfl rfl fun b6=>?_
 refine q_ 1 rfl<|g_<|c_<|d_<|a_<|q_ 1 rfl<|g_<|c_<|d_<|d_<|a_<|q_ 1 rfl<|b_ (B_ rfl Tryz.underlying26 (List.length_map _)) rfl rfl<|q_ 1 rfl<|g_<|c_<|y_<|br_ 35 1<|ae_ (ι := Nat × Value) (fun z => (own 35 1 z.2 ((Lg.goes n l (es.take (z.1))).2.map fun x => [int x]) :: .blk b6 30 (zabs [.int .i64 0, .int .i64 0, .slice none 0 0, .slice none 0 0]) :: .blk b3 30 (Lg.goes n l (es.take (z.1))).1.abs :: [])) (fun z => [(2, int n), (3, ptr b3), (6, ptr b6), (8, .v z.2), (12, entsR es), (13, int (es.length : Nat)), (14, int (z.1 : Nat))]) (fun z => z.1 ≤ es.length) (fun z => es.length - z.1) (0, .slice none 0 0) (Nat.zero_le _) (by exact ⟨rfl, rfl, rfl, rfl, rfl, rfl, rfl, trivial⟩) sr_ ?_
 intro z hz
 refine d_<|a_<|q_ 1 rfl<|g_<|c_<|d_<|o_ rfl ?_ ?_
 rotate_left
 ·intro hc15
  have htk : es.take z.1 = es := List.take_of_length_le (by omega)
  rw [htk]
  refine W_<|h_ nofun<|h_ nofun<|V_<|c_<|d_<|a_<|q_ 1 rfl<|b_ (l_ (C := int (Lg.goes n l es).1.seq) (i_ tabOk rfl rfl l2_ List.not_mem_nil rfl) rfl) rfl rfl<|b_ (C_ rfl rfl (by simp only [InR, lo, hi]; omega)) rfl rfl ?_
  refine q_ 1 rfl<|e_ (n_ (L' := (l.foldF es n).1.abs) tabOk rfl rfl rfl u2_ rfl (Nat.le_of_ble_eq_true rfl) rfl rfl) rfl rfl<|g_<|c_<|d_<|a_<|b_ (l_ (C := .agg (l.foldF es n).1.abs) (x_ tabOk rfl rfl rfl l2_ List.not_mem_nil (Nat.le_of_ble_eq_true rfl)) rfl) rfl rfl<|q_ 1 rfl<|e_ (n_ (L' := (l.foldF es n).1.abs) tabOk rfl rfl rfl u1_ rfl (Nat.le_of_ble_eq_true rfl) rfl (by exact t_ rfl)) rfl rfl ?_
  refine q_ 1 rfl<|g_<|c_<|m_<|bi_ [] (t := 7) rfl rfl<|f_ (rs := [.cell 6 30, .tmp 7]) rfl (RV.cell rfl (RV.cellA tabOk rfl rfl l0_ (by rfl)) (RV.tmp rfl RV.nil)) (()) sn_ ?_
  exact rfl
 intro hc15
 have hlt : z.1 < es.length := by omega
 have hen := hes _ (List.getElem_mem hlt)
 have hgf := ea_ n l (es.take z.1)
 rw [List.length_take] at hgf
 have hgl : (Lg.goes n l (es.take z.1)).2.length = z.1 := by rw [cM_, List.length_take]; omega
 refine p_<|c_<|d_<|y_<|d_<|a_<|b_ (J_ tabOk Tryz.underlying26 rfl rfl rfl rfl (aN_ (by omega)) rfl rfl) rfl rfl ?_
 refine b_ (Y_ tabOk rfl rfl rfl rfl) rfl rfl<|eb_ (H_ tabOk rfl) rfl rfl fun b10=>?_
 refine e_ (n_ (L' := entA (es[z.1]'hlt)) tabOk rfl rfl rfl u0_ rfl (Nat.le_of_ble_eq_true rfl) rfl (by exact t_ rfl)) rfl rfl ?_
 refine g_<|c_<|d_<|a_<|q_ 1 rfl<|g_<|c_<|d_<|a_<|b_ (l_ (C := .agg (Lg.goes n l (es.take (z.1))).1.abs) (x_ tabOk rfl rfl rfl l3_ List.not_mem_nil (Nat.le_of_ble_eq_true rfl)) rfl) rfl rfl<|b_ (l_ (C := .agg (entA (es[z.1]'hlt))) (x_ tabOk rfl rfl rfl l0_ List.not_mem_nil (Nat.le_of_ble_eq_true rfl)) rfl) rfl rfl<|q_ 1 rfl<|s_ (rdo_s (l := (Lg.goes n l (es.take (z.1))).1) (e := (es[z.1]'hlt)) (n := n) ⟨by omega, by omega⟩ (hM_ n hl) hen (hss _ (List.getElem_mem hlt))) Casts.refl (by kernel_rfl) rfl rfl rfl ?_
 refine ap_<|fun _=>q_ 3 rfl<|e_ (n_ (L' := ((Lg.goes n l (es.take (z.1))).1.doF (es[z.1]'hlt) n).1.abs) tabOk rfl rfl rfl u3_ rfl (Nat.le_of_ble_eq_true rfl) rfl (by exact t_ rfl)) rfl rfl ?_
 refine q_ 1 rfl<|g_<|c_<|a_<|q_ 2 rfl<|e_ (T_ tabOk Tryz.underlying50 rfl rfl rfl rfl rfl rfl rfl) rfl rfl<|eb_ (L_ (zs := ((Lg.goes n l (es.take (z.1))).2 ++ [((Lg.goes n l (es.take (z.1))).1.doF (es[z.1]'hlt) n).2]).map fun x => [int x]) tabOk [_] (by simp only [List.map_append]; rfl) Tryz.underlying50 rfl rfl rfl rfl rfl rfl (by intro c hc; rw [List.mem_singleton] at hc; subst hc; rfl) (by unfold maxLen; simp only [List.length_map, List.length_append, List.length_cons, List.length_nil]; omega) (by rw [show Tryz.prog.bytesOf 35 = 8 by kernel_rfl]; simp only [List.length_map, List.length_append, List.length_cons, List.length_nil]; omega)) rfl rfl fun r28=>?_
 refine q_ 1 rfl<|g_<|u_<|c_<|a_<|b_ (C_ rfl rfl (by simp only [InR, lo, hi]; omega)) rfl rfl ?_
 refine q_ 1 rfl<|g_<|G_ (z.1 + 1, r28) (by omega) (by dsimp only; omega) (by exact ⟨rfl, rfl, rfl, rfl, rfl, rfl, rfl, trivial⟩) (by rw [eO_ hlt]; repeat (first | exact List.nil_sublist _ | exact List.Sublist.refl _ | apply List.Sublist.cons_cons | apply List.Sublist.cons))
end
abbrev reA (n : Int) (x : Ex) : List Abs := [int n, int x.l.seq, int x.l.total, ltrsA x.l.ls, outA x.l.os, ddsA x.ds]
section
variable {x : Ex} {n seq k : Int} {es : List Ent} {m : List UInt8} {b : Nat} {r e1 e2 : Value} {c : Core} {xs : List Dd} {v : Value}
theorem rstale_x  : Spec Tryz.prog 25 [.agg x.l.abs, coreA c] [] (fun _ : Unit => []) (fun _ => boo (x.l.stale c)) := by
 refine F_ Tryz.func25 rfl Tryz.ntmps25 rfl fun G w =>d_<|a_<|eb_ (R_ (cs := x.l.abs) rfl) rfl rfl fun b2=>?_
 refine eb_ (R_ (cs := c.cells.map .v) rfl) rfl rfl fun b3=>?_
 refine q_ 1 rfl<|g_<|c_<|d_<|a_<|b_ (l_ (C := .agg x.l.abs) (x_ tabOk rfl rfl rfl l1_ List.not_mem_nil (Nat.le_of_ble_eq_true rfl)) rfl) rfl rfl<|q_ 1 rfl<|b_ (l_ (C := int c.client) (i_ tabOk rfl rfl l0_ List.not_mem_nil rfl) rfl) rfl rfl<|s_ (ew_ (l := x.l) (k := c.client)) Casts.refl (by kernel_rfl) rfl rfl rfl ?_
 refine ap_<|fun _=>q_ 3 rfl<|eb_ (H_ tabOk rfl) rfl rfl fun b5=>?_
 refine e_ (n_ (L' := Oc.abs ((x.l.last c.client).getD Oc.zero)) tabOk rfl rfl rfl u0_ rfl (Nat.le_of_ble_eq_true rfl) rfl (by exact t_ rfl)) rfl rfl ?_
 refine q_ 1 rfl<|g_<|c_<|d_<|a_<|q_ 2 rfl<|aL_ (t := 15) rfl ?_ ?_
 ·intro hc15
  refine q_ 1 rfl<|b_ (l_ (C := int ((x.l.last c.client).getD Oc.zero).stamp) (i_ tabOk rfl rfl l0_ List.not_mem_nil rfl) rfl) rfl rfl<|q_ 1 rfl<|b_ (l_ (C := int c.stamp) (i_ tabOk rfl rfl l1_ List.not_mem_nil rfl) rfl) rfl rfl<|q_ 3 rfl<|g_<|c_<|m_<|f_ (rs := [.tmp 4]) rfl (RV.tmp rfl RV.nil) (()) sn_<|congrArg (fun b => Abs.v (Value.bool b)) ?_
  unfold Lg.stale
  cases hq : x.l.last c.client with
  | none => simp [hq] at *
  | some o => simp [hq] at *
 intro hc15
 refine q_ 7 rfl<|g_<|c_<|m_<|f_ (rs := [.tmp 4]) rfl (RV.tmp rfl RV.nil) (()) sn_<|congrArg (fun b => Abs.v (Value.bool b)) ?_
 unfold Lg.stale
 cases hq : x.l.last c.client with
 | none => simp [hq] at *
 | some o => simp [hq] at *
set_option maxHeartbeats 4000000 in
theorem rexdo_s {j : Nat} (hes : ∀ e ∈ es, EnIns e) (hss : ∀ e ∈ es, e.core.letter.size ≤ lots) (hb : es.length ≤ 10) (hsq : i64ok seq) (hk : j ≤ 45) (hx : x.Ok j) : Spec Tryz.prog 21 [ptr b, int seq, entsR es] [.blk b 62 (reA n x)] (fun _ : Unit => [.blk b 62 (reA n (x.doX n seq es))]) (fun _ => .tup [outA (x.doO n seq es), int (x.doE n seq es)]) := by
 have hs0 := hx.seq
 have hl0 := hx.ls
 have ho0 := hx.os
 have hd0 := hx.few
 have hrl : ((x.l.foldF es n)).2.length = es.length := cM_ n x.l es
 unfold i64ok at hsq
 refine F_ Tryz.func21 rfl Tryz.ntmps21 rfl fun G w =>d_<|a_<|q_ 2 rfl<|g_<|c_<|d_<|d_<|a_<|q_ 3 rfl<|z_ (t := 16) rfl ?_ ?_
 ·intro hc16
  refine q_ 13 rfl<|g_<|c_<|M_ rfl<|d_<|a_<|q_ 2 rfl<|g_<|c_<|m_<|h_ nofun ?_
  obtain ⟨g1, g2, g3⟩ := eV_ (x := x) (n := n) (b := es) (seq := seq) (by omega)
  rw [g1, g2, g3]
  exact fC_ (rs := [.tmp 6, .tmp 7]) rfl (RV.tmp rfl (RV.tmp rfl RV.nil)) (Casts.nils (s := 3) Casts.refl) (()) sr_<|rfl
 intro hc16
 refine q_ 4 rfl<|z_ (t := 20) rfl ?_ ?_
 ·intro hc20
  refine q_ 9 rfl<|g_<|c_<|M_ rfl<|d_<|a_<|q_ 2 rfl<|g_<|c_<|m_<|h_ nofun ?_
  obtain ⟨g1, g2, g3⟩ := eV_ (x := x) (n := n) (b := es) (seq := seq) (by omega)
  rw [g1, g2, g3]
  exact fC_ (rs := [.tmp 6, .tmp 7]) rfl (RV.tmp rfl (RV.tmp rfl RV.nil)) (Casts.nils (s := 3) Casts.refl) (()) sr_<|rfl
 intro hc20
 refine q_ 1 rfl<|b_ (aC_ rfl rfl (by simp only [InR, lo, hi]; omega)) rfl rfl ?_
 refine q_ 4 rfl<|b_ (l_ (C := int x.l.seq) (i_ tabOk rfl rfl l0_ List.not_mem_nil rfl) rfl) rfl rfl<|q_ 2 rfl<|g_<|c_<|o_ rfl ?_ ?_
 ·intro hc29
  refine d_<|a_<|q_ 2 rfl<|g_<|c_<|m_<|h_ nofun ?_
  obtain ⟨g1, g2, g3⟩ := eV_ (x := x) (n := n) (b := es) (seq := seq) (by omega)
  rw [g1, g2, g3]
  exact fC_ (rs := [.tmp 6, .tmp 7]) rfl (RV.tmp rfl (RV.tmp rfl RV.nil)) (Casts.nils (s := 3) Casts.refl) (()) sr_<|rfl
 intro hc29
 refine p_<|c_<|d_<|d_<|a_<|q_ 4 rfl<|b_ (l_ (C := int n) (i_ tabOk rfl rfl l0_ List.not_mem_nil rfl) rfl) rfl rfl<|s_ (j8_ (es := es) (n := n) (by omega) hss) Casts.refl (by kernel_rfl) rfl rfl rfl ?_
 refine ap_<|fun _=>q_ 1 rfl<|g_<|c_<|d_<|a_<|q_ 2 rfl<|g_<|c_<|o_ rfl ?_ ?_
 ·intro hc37
  refine d_<|a_<|q_ 3 rfl<|g_<|c_<|m_<|h_ nofun ?_
  obtain ⟨g1, g2, g3⟩ := do_odd (x := x) (n := n) (b := es) (seq := seq) (by omega) hc37
  rw [g1, g2, g3]
  exact fC_ (rs := [.tmp 6, .tmp 7]) rfl (RV.tmp rfl (RV.tmp rfl RV.nil)) (Casts.nils (s := 3) Casts.refl) (()) sr_<|rfl
 intro hc37
 refine p_<|c_<|a1_ (ι := Nat) (fun q9 => (.blk q9 30 (x.l.foldF es n).1.abs :: .blk b 62 (reA n x) :: [])) (fun q9 => [(0, ptr b), (1, int seq), (2, entsR es), (9, ptr q9), (10, errsR (x.l.foldF es n).2)]) (fun q9 => True) ?_ ?_
 ·skip
  refine aa_ [] (.q 0 (.q 1 (.q 2 (.q 3 (.q 4 (.q 5 (.q 6 (.q 7 (.q 8 (.two 9 13 (.q 10 (.q 11 (.q 12 (.e 13 (.e 14 (.q 15 .nil)))))) (.e 9 (.q 10 (.q 11 (.q 12 (.e 14 (.q 15 .nil)))))))))))))))) (by kernel_rfl) (by kernel_rfl) ?_
  refine qs_ 3 rfl<|hx_ fun hx9 =>r_ rfl (l_ (C := .agg x.l.abs) (x_ tabOk rfl rfl rfl l0_ List.not_mem_nil (Nat.le_of_ble_eq_true rfl)) rfl) hx9 rfl rfl<|qs_ 4 rfl<|r_ rfl (l_ (C := int n) (i_ tabOk rfl rfl l0_ List.not_mem_nil rfl) rfl) hx9 rfl rfl<|aR_ ?_ ?_
  ·skip
   refine I_ rfl (jZ_ (l := x.l) (es := es) (n := n) hes hss hx.ins.wf (by omega) (by omega) (by omega) (by omega)) (by simp [mids, It.mids]) Casts.refl (by kernel_rfl) rfl rfl rfl ?_
   refine ap_<|fun _=>qs_ 3 rfl<|aM_ tabOk rfl rfl rfl rfl fun b9 =>ex_ rfl (n_ (L' := (x.l.foldF es n).1.abs) tabOk rfl rfl rfl u0_ rfl (Nat.le_of_ble_eq_true rfl) rfl (by exact t_ rfl)) (by simp) rfl rfl ?_
   refine hx_ fun hx9 =>qx_ 1 hx9 rfl<|Q_<|ab_ (b9) (trivial) (by exact ⟨rfl, rfl, rfl, rfl, rfl, trivial⟩) sr_
  skip
  refine aM_ tabOk rfl rfl rfl rfl fun b9 =>I_ rfl (jZ_ (l := x.l) (es := es) (n := n) hes hss hx.ins.wf (by omega) (by omega) (by omega) (by omega)) (by simp [mids, It.mids]) Casts.refl (by kernel_rfl) rfl rfl rfl ?_
  refine ap_<|fun _=>hx_ fun hx9 =>qx_ 3 hx9 rfl<|ex_ rfl (n_ (L' := (x.l.foldF es n).1.abs) tabOk rfl rfl rfl u0_ rfl (Nat.le_of_ble_eq_true rfl) rfl (by exact t_ rfl)) (by simp) rfl rfl ?_
  refine hx_ fun hx9 =>qx_ 1 hx9 rfl<|Q_<|ab_ (b9) (trivial) (by exact ⟨rfl, rfl, rfl, rfl, rfl, trivial⟩) sr_
 intro q9 hq9
 refine d_<|a_<|q_ 1 rfl<|g_<|c_<|d_<|d_<|a_<|q_ 1 rfl<|b_ (B_ rfl Tryz.underlying50 (List.length_map _)) rfl rfl<|q_ 1 rfl<|g_<|c_<|y_<|br_ 40 3<|ae_ (ι := Nat × List Oc × Value) (fun z => (own 40 3 z.2.2 (z.2.1.map Oc.abs) :: .blk q9 30 (x.l.foldF es n).1.abs :: .blk b 62 (reA n x) :: [])) (fun z => [(0, ptr b), (1, int seq), (2, entsR es), (9, ptr q9), (11, .v z.2.2), (52, errsR (x.l.foldF es n).2), (53, int ((x.l.foldF es n).2.length : Nat)), (54, int (z.1 : Nat))]) (fun z => z.1 ≤ (x.l.foldF es n).2.length ∧ z.2.1.length ≤ z.1 ∧ z.2.1 ++ outF (es.drop z.1) ((x.l.foldF es n).2.drop z.1) = outF es (x.l.foldF es n).2) (fun z => (x.l.foldF es n).2.length - z.1) (0, [], .slice none 0 0) (⟨Nat.zero_le _, Nat.le_refl _, rfl⟩) (by exact ⟨rfl, rfl, rfl, rfl, rfl, rfl, rfl, rfl, trivial⟩) sr_ ?_
 intro z hz
 refine d_<|a_<|q_ 1 rfl<|g_<|c_<|d_<|o_ rfl ?_ ?_
 rotate_left
 ·intro hc55
  refine W_<|h_ nofun<|h_ nofun<|V_<|c_<|d_<|a_<|q_ 1 rfl<|b_ (l_ (C := .agg (x.l.foldF es n).1.abs) (x_ tabOk rfl rfl rfl l1_ List.not_mem_nil (Nat.le_of_ble_eq_true rfl)) rfl) rfl rfl<|q_ 2 rfl<|e_ (n_ (L' := reA n (⟨(x.l.foldF es n).1, x.ds⟩ : Ex)) tabOk rfl rfl rfl u2_ rfl (Nat.le_of_ble_eq_true rfl) rfl rfl) rfl rfl<|g_<|c_<|d_<|a_<|q_ 1 rfl<|eb_ (aK_ tabOk Tryz.underlying46 rfl rfl rfl rfl rfl rfl rfl) rfl rfl fun r84=>?_
  refine q_ 3 rfl<|b_ (l_ (C := ddsA x.ds) (i_ tabOk rfl rfl l3_ List.not_mem_nil rfl) rfl) rfl rfl<|eb_ (L_ (zs := x.ds.map Dd.abs) tabOk [] rfl Tryz.underlying46 rfl rfl rfl rfl rfl rfl (dw_ x.ds) (by unfold maxLen; simp only [List.length_nil, List.length_append, List.length_map, List.length_cons]; omega) (by rw [show Tryz.prog.bytesOf 49 = 40 by kernel_rfl]; simp only [List.length_nil, List.length_append, List.length_map, List.length_cons]; omega)) rfl rfl fun r89=>?_
  refine q_ 1 rfl<|eb_ (aK_ tabOk Tryz.underlying26 rfl rfl rfl rfl rfl rfl rfl) rfl rfl fun r91=>?_
  refine q_ 1 rfl<|eb_ (L_ (zs := es.map entA) tabOk [] rfl Tryz.underlying26 rfl rfl rfl rfl rfl rfl (du_ es) (by unfold maxLen; simp only [List.length_nil, List.length_append, List.length_map, List.length_cons]; omega) (by rw [show Tryz.prog.bytesOf 66 = 80 by kernel_rfl]; simp only [List.length_nil, List.length_append, List.length_map, List.length_cons]; omega)) rfl rfl fun r93=>?_
  refine dA_ [] (t := 93) rfl rfl<|b_ (D_ (L := Dd.abs ⟨seq, es, false⟩) tabOk rfl rfl rfl rfl) rfl rfl<|e_ (T_ tabOk Tryz.underlying46 rfl rfl rfl rfl rfl rfl rfl) rfl rfl<|eb_ (L_ (zs := (x.ds ++ [(⟨seq, es, false⟩ : Dd)]).map Dd.abs) tabOk [] (by rw [List.map_append]; rfl) Tryz.underlying46 rfl rfl rfl rfl rfl rfl (by intro c hc; rw [List.mem_singleton] at hc; subst hc; rfl) (by unfold maxLen; simp only [List.length_nil, List.length_append, List.length_map, List.length_cons]; omega) (by rw [show Tryz.prog.bytesOf 49 = 40 by kernel_rfl]; simp only [List.length_nil, List.length_append, List.length_map, List.length_cons]; omega)) rfl rfl fun r96=>?_
  refine dA_ [] (t := 96) rfl rfl<|q_ 2 rfl<|e_ (n_ (L' := reA n (⟨(x.l.foldF es n).1, x.ds ++ [⟨seq, es, false⟩]⟩ : Ex)) tabOk rfl rfl rfl u2_ rfl (Nat.le_of_ble_eq_true rfl) rfl rfl) rfl rfl<|g_<|c_<|d_<|a_<|q_ 3 rfl<|g_<|c_<|m_ ?_
  obtain ⟨g1, g2, g3⟩ := do_ok (x := x) (n := n) (b := es) (seq := seq) (by omega) hc37
  have hfe := hz.2.2
  rw [is_ (show (x.l.foldF es n).2.length ≤ z.1 by omega), List.append_nil] at hfe
  rw [g1, g2, g3, ← hfe]
  exact bi_ [] (t := 6) rfl rfl<|f_ (rs := [.tmp 6, .tmp 7]) rfl (RV.tmp rfl (RV.tmp rfl RV.nil)) (()) (sk_ sr_)<|rfl
 intro hc55
 have hrz : z.1 < (x.l.foldF es n).2.length := by omega
 have hez : z.1 < es.length := by omega
 have hst := gF_ hez hrz
 refine p_<|c_<|d_<|y_<|d_<|a_<|q_ 1 rfl<|b_ (J_ (q := z.1) (cs := [int ((x.l.foldF es n).2[z.1]'hrz)]) tabOk Tryz.underlying50 rfl rfl rfl rfl (by rw [List.getElem?_map, List.getElem?_eq_getElem hrz]; rfl) rfl rfl) rfl rfl ?_
 refine b_ (l_ (C := int ((x.l.foldF es n).2[z.1]'hrz)) (aJ_ tabOk rfl rfl rfl) rfl) rfl rfl<|q_ 2 rfl<|g_<|c_<|d_<|a_<|q_ 2 rfl<|g_<|c_<|o_ rfl ?_ ?_
 rotate_left
 ·intro hc60
  refine p_<|u_<|c_<|a_<|b_ (C_ rfl rfl (by simp only [InR, lo, hi]; omega)) rfl rfl ?_
  refine q_ 1 rfl<|g_<|G_ (z.1 + 1, z.2) (by omega) (⟨by dsimp only; omega, by dsimp only; omega, by rw [if_neg hc60] at hst; have h9 := hz.2.2; rw [hst] at h9; exact h9⟩) (by exact ⟨rfl, rfl, rfl, rfl, rfl, rfl, rfl, rfl, trivial⟩) sr_
 intro hc60
 refine aa_ z.2.2.ownBlock.toList (.q 0 (.q 1 (.q 2 (.q 3 (.q 4 (.q 5 (.q 6 (.q 7 (.q 8 (.q 9 (.q 10 (.q 11 (.q 12 (.q 13 (.q 14 (.e 15 (.e 16 (.q 17 .nil)))))))))))))))))) (by kernel_rfl) (by kernel_rfl) ?_
 refine hx_ fun hx9 =>qx_ 3 hx9 rfl<|r_ rfl (J_ (q := z.1) (cs := entA (es[z.1]'hez)) tabOk Tryz.underlying26 rfl rfl rfl rfl (by rw [List.getElem?_map, List.getElem?_eq_getElem hez]; rfl) rfl rfl) hx9 rfl rfl ?_
 refine r_ rfl (ai_ tabOk rfl rfl rfl rfl rfl) hx9 rfl rfl<|r_ rfl (ai_ tabOk rfl rfl rfl rfl rfl) hx9 rfl rfl<|r_ rfl (l_ (C := int (es[z.1]'hez).core.client) (aJ_ tabOk rfl rfl rfl) rfl) hx9 rfl rfl<|qx_ 2 hx9 rfl<|r_ rfl (J_ (q := z.1) (cs := entA (es[z.1]'hez)) tabOk Tryz.underlying26 rfl rfl rfl rfl (by rw [List.getElem?_map, List.getElem?_eq_getElem hez]; rfl) rfl rfl) hx9 rfl rfl ?_
 refine r_ rfl (ai_ tabOk rfl rfl rfl rfl rfl) hx9 rfl rfl<|r_ rfl (ai_ tabOk rfl rfl rfl rfl rfl) hx9 rfl rfl<|r_ rfl (l_ (C := int (es[z.1]'hez).core.stamp) (aJ_ tabOk rfl rfl rfl) rfl) hx9 rfl rfl<|qx_ 1 hx9 rfl<|r_ rfl (D_ (L := Oc.abs (⟨(es[z.1]'hez).core.client, (es[z.1]'hez).core.stamp, ((x.l.foldF es n).2[z.1]'hrz)⟩ : Oc)) tabOk rfl rfl rfl rfl) hx9 rfl rfl<|ex_ rfl (T_ tabOk Tryz.underlying28 rfl rfl rfl rfl rfl rfl rfl) (by simp) rfl rfl ?_
 refine bd_ [] rfl (L_ (zs := (z.2.1 ++ [(⟨(es[z.1]'hez).core.client, (es[z.1]'hez).core.stamp, ((x.l.foldF es n).2[z.1]'hrz)⟩ : Oc)]).map Oc.abs) tabOk [] (by rw [List.map_append]; rfl) Tryz.underlying28 rfl rfl rfl rfl rfl rfl (by intro c hc; rw [List.mem_singleton] at hc; subst hc; rfl) (by unfold maxLen; simp only [List.length_map, List.length_cons, List.length_nil]; omega) (by rw [show Tryz.prog.bytesOf 40 = 24 by kernel_rfl]; simp only [List.length_map, List.length_cons, List.length_nil]; omega)) (fun k hk => hk) (by simp) rfl rfl ?_
 rintro _ _ ⟨r77, rfl, rfl⟩
 refine hx_ fun hx9 =>qx_ 1 hx9 rfl<|Q_<|u_<|c_<|a_<|b_ (C_ rfl rfl (by simp only [InR, lo, hi]; omega)) rfl rfl ?_
 refine q_ 1 rfl<|g_<|G_ (z.1 + 1, z.2.1 ++ [(⟨(es[z.1]'hez).core.client, (es[z.1]'hez).core.stamp, ((x.l.foldF es n).2[z.1]'hrz)⟩ : Oc)], r77) (by omega) (⟨by dsimp only; omega, by simp only [List.length_append, List.length_singleton]; omega, by rw [if_pos hc60] at hst; have h9 := hz.2.2; rw [hst] at h9; rw [← h9]; exact (List.append_assoc _ [_] _)⟩) (by exact ⟨rfl, rfl, rfl, rfl, rfl, rfl, rfl, rfl, trivial⟩) sr_
set_option maxHeartbeats 4000000 in
theorem j3_ {j : Nat} (hm : m.length ≤ 10000000) (hk : j ≤ 45) (hx : x.Ok j) : Spec Tryz.prog 22 [ptr b, byt m] [.blk b 62 (reA n x)] (fun _ : Unit => [.blk b 62 (reA n (x.adX m))]) (fun _ => int (x.adE m)) := by
 have hd0 := hx.few
 have hp2 := jn_ m
 refine F_ Tryz.func22 rfl Tryz.ntmps22 rfl fun G w =>d_<|a_<|q_ 1 rfl<|g_<|c_<|d_<|a_<|q_ 1 rfl<|s_ (jX_ (m := m) hm) Casts.refl (by kernel_rfl) rfl rfl rfl ?_
 refine ap_ ?_
 intro _
 rw [jm_]
 refine q_ 1 rfl<|b_ (l_ (C := .agg (parseL m).1.abs) (az_ rfl rfl) rfl) rfl rfl<|b_ (l_ (C := boo (decide ((parseL m).2 = 0))) (az_ rfl rfl) rfl) rfl rfl<|eb_ (H_ tabOk rfl) rfl rfl fun b5=>?_
 refine e_ (n_ (L' := (parseL m).1.abs) tabOk rfl rfl rfl u0_ rfl (Nat.le_of_ble_eq_true rfl) rfl (by exact t_ rfl)) rfl rfl ?_
 refine q_ 1 rfl<|g_<|c_<|d_<|d_<|a_<|q_ 1 rfl<|b_ (aH_ rfl) rfl rfl<|g_<|c_<|o_ rfl ?_ ?_
 ·intro hc13
  refine d_<|a_<|q_ 1 rfl<|g_<|c_<|m_<|h_ nofun ?_
  have hp3 : (parseL m).2 ≠ 0 := by assumption
  have hp4 : (parseL m).2 = 2 := by omega
  obtain ⟨g1, g2⟩ := la_ (x := x) (m := m) hp3
  rw [g1, g2, hp4]
  exact f_ (rs := [.tmp 4]) rfl (RV.tmp rfl RV.nil) (()) (sk_ sr_)<|rfl
 intro hc13
 refine p_<|c_<|d_<|d_<|aa_ [] (.q 0 (.q 1 (.q 2 (.q 3 (.q 4 (.q 5 (.q 6 (.q 7 .nil)))))))) (by kernel_rfl) (by kernel_rfl) ?_
 refine qs_ 1 rfl<|hx_ fun hx9 =>r_ rfl (l_ (C := int (parseL m).1.seq) (i_ tabOk rfl rfl l0_ List.not_mem_nil rfl) rfl) hx9 rfl rfl<|qs_ 4 rfl<|r_ rfl (l_ (C := int x.l.seq) (i_ tabOk rfl rfl l1_ List.not_mem_nil rfl) rfl) hx9 rfl rfl<|qs_ 1 rfl<|Q_<|c_<|o_ rfl ?_ ?_
 ·intro hc21
  refine d_<|a_<|q_ 1 rfl<|g_<|c_<|m_<|h_ nofun ?_
  obtain ⟨g1, g2⟩ := h0_ (x := x) (m := m) (by assumption) (by assumption)
  rw [g1, g2]
  exact f_ (rs := [.tmp 4]) rfl (RV.tmp rfl RV.nil) (()) (sk_ sr_)<|rfl
 intro hc21
 refine p_<|c_<|d_<|a_<|q_ 1 rfl<|b_ (l_ (C := .agg (parseL m).1.abs) (x_ tabOk rfl rfl rfl l0_ List.not_mem_nil (Nat.le_of_ble_eq_true rfl)) rfl) rfl rfl<|q_ 2 rfl<|e_ (n_ (L' := reA n (⟨(parseL m).1, x.ds⟩ : Ex)) tabOk rfl rfl rfl u1_ rfl (Nat.le_of_ble_eq_true rfl) rfl rfl) rfl rfl<|g_<|c_<|d_<|SC.drawZ [] (.q 0 (.q 2 (.q 3 (.q 4 (.q 5 (.q 7 (.q 8 (.q 9 (.two 1 10 (.two 6 10 (.e 10 (.e 11 (.q 12 (.q 13 .nil)))) (.e 6 (.e 11 (.q 12 (.q 13 .nil))))) (.e 1 (.e 6 (.e 11 (.q 12 (.q 13 .nil)))))))))))))) (by kernel_rfl) (by kernel_rfl) ?_
 refine hx_ fun hx9 =>qx_ 4 hx9 rfl<|r_ rfl (l_ (C := ddsA x.ds) (i_ tabOk rfl rfl l1_ List.not_mem_nil rfl) rfl) hx9 rfl rfl<|qx_ 1 hx9 rfl<|r_ rfl (l_ (C := int (parseL m).1.seq) (i_ tabOk rfl rfl l0_ List.not_mem_nil rfl) rfl) hx9 rfl rfl<|r_ rfl (D_ (L := [int (parseL m).1.seq, .v (.slice none 0 0), boo true]) tabOk rfl rfl rfl rfl) hx9 rfl rfl<|lf_ (t := 35) (.agg (Dd.abs ⟨(parseL m).1.seq, [], true⟩)) rfl (as_ (Casts.keep (Casts.nils (s := 8) Casts.refl)))<|aR_ ?_ ?_
 ·skip
  refine cE_ [] [] rfl (aK_ tabOk Tryz.underlying46 rfl rfl rfl rfl rfl rfl rfl) rfl (by (simp; done)) rfl rfl ?_
  rintro _ _ ⟨r27, rfl, rfl⟩
  refine ⟨[own 49 3 r27 ([])], rfl, aR_ ?_ ?_⟩
  ·skip
   refine cE_ [own 49 3 r27 ([])] [] rfl (L_ (zs := x.ds.map Dd.abs) tabOk [] rfl Tryz.underlying46 rfl rfl rfl rfl rfl rfl (dw_ x.ds) (by unfold maxLen; simp only [List.length_nil, List.length_append, List.length_map, List.length_cons]; omega) (by rw [show Tryz.prog.bytesOf 49 = 40 by kernel_rfl]; simp only [List.length_nil, List.length_append, List.length_map, List.length_cons]; omega)) rfl (by exact dK_ List.mem_cons_self) rfl rfl ?_
   rintro _ _ ⟨r32, rfl, rfl⟩
   refine ⟨[own 49 3 r32 (x.ds.map Dd.abs)], rfl, ex_ rfl (T_ tabOk Tryz.underlying46 rfl rfl rfl rfl rfl rfl rfl) (by simp) rfl rfl ?_⟩
   refine cE_ [own 49 3 r32 (x.ds.map Dd.abs)] [] rfl (dU_ [] (L_ (zs := ((⟨(parseL m).1, x.ds ++ [⟨(parseL m).1.seq, [], true⟩]⟩ : Ex).ds).map Dd.abs) tabOk [] (by rw [List.map_append]; rfl) Tryz.underlying46 rfl rfl rfl rfl rfl rfl (by intro c hc; rw [List.mem_singleton] at hc; subst hc; rfl) (by unfold maxLen; simp only [List.length_nil, List.length_append, List.length_map, List.length_cons]; omega) (by rw [show Tryz.prog.bytesOf 49 = 40 by kernel_rfl]; simp only [List.length_nil, List.length_append, List.length_map, List.length_cons]; omega))) rfl (by exact dK_ List.mem_cons_self) rfl rfl ?_
   rintro _ _ ⟨rfl, rfl⟩
   refine ⟨[], rfl, hx_ fun hx9 =>qx_ 2 hx9 rfl<|Q_<|h7_ rfl (n_ (L' := reA n (⟨(parseL m).1, x.ds ++ [⟨(parseL m).1.seq, [], true⟩]⟩ : Ex)) tabOk rfl rfl rfl u1_ rfl (lb_ (by rfl)) rfl (by rfl)) rfl rfl ?_⟩
   rintro _ _ ⟨rfl, rfl⟩
   refine c_<|d_<|a_<|q_ 1 rfl<|g_<|c_<|m_ ?_
   obtain ⟨g1, g2⟩ := jF_ (x := x) (m := m) (by assumption) (by assumption)
   rw [g1, g2]
   exact f_ (rs := [.tmp 4]) rfl (RV.tmp rfl RV.nil) (()) (sk_ sr_)<|rfl
  skip
  refine ex_ rfl (T_ tabOk Tryz.underlying46 rfl rfl rfl rfl rfl rfl rfl) (by simp) rfl rfl ?_
  refine cE_ [own 49 3 r27 ([])] [] rfl (L_ (zs := x.ds.map Dd.abs) tabOk [] rfl Tryz.underlying46 rfl rfl rfl rfl rfl rfl (dw_ x.ds) (by unfold maxLen; simp only [List.length_nil, List.length_append, List.length_map, List.length_cons]; omega) (by rw [show Tryz.prog.bytesOf 49 = 40 by kernel_rfl]; simp only [List.length_nil, List.length_append, List.length_map, List.length_cons]; omega)) rfl (by exact dK_ List.mem_cons_self) rfl rfl ?_
  rintro _ _ ⟨r32, rfl, rfl⟩
  refine ⟨[own 49 3 r32 (x.ds.map Dd.abs)], rfl, cE_ [own 49 3 r32 (x.ds.map Dd.abs)] [] rfl (dU_ [] (L_ (zs := ((⟨(parseL m).1, x.ds ++ [⟨(parseL m).1.seq, [], true⟩]⟩ : Ex).ds).map Dd.abs) tabOk [] (by rw [List.map_append]; rfl) Tryz.underlying46 rfl rfl rfl rfl rfl rfl (by intro c hc; rw [List.mem_singleton] at hc; subst hc; rfl) (by unfold maxLen; simp only [List.length_nil, List.length_append, List.length_map, List.length_cons]; omega) (by rw [show Tryz.prog.bytesOf 49 = 40 by kernel_rfl]; simp only [List.length_nil, List.length_append, List.length_map, List.length_cons]; omega))) rfl (by exact dK_ List.mem_cons_self) rfl rfl ?_⟩
  rintro _ _ ⟨rfl, rfl⟩
  refine ⟨[], rfl, hx_ fun hx9 =>qx_ 2 hx9 rfl<|Q_<|h7_ rfl (n_ (L' := reA n (⟨(parseL m).1, x.ds ++ [⟨(parseL m).1.seq, [], true⟩]⟩ : Ex)) tabOk rfl rfl rfl u1_ rfl (lb_ (by rfl)) rfl (by rfl)) rfl rfl ?_⟩
  rintro _ _ ⟨rfl, rfl⟩
  refine c_<|d_<|a_<|q_ 1 rfl<|g_<|c_<|m_ ?_
  obtain ⟨g1, g2⟩ := jF_ (x := x) (m := m) (by assumption) (by assumption)
  rw [g1, g2]
  exact f_ (rs := [.tmp 4]) rfl (RV.tmp rfl RV.nil) (()) (sk_ sr_)<|rfl
 skip
 refine ex_ rfl (T_ tabOk Tryz.underlying46 rfl rfl rfl rfl rfl rfl rfl) (by simp) rfl rfl ?_
 refine cE_ [] [] rfl (aK_ tabOk Tryz.underlying46 rfl rfl rfl rfl rfl rfl rfl) rfl (by (simp; done)) rfl rfl ?_
 rintro _ _ ⟨r27, rfl, rfl⟩
 refine ⟨[own 49 3 r27 ([])], rfl, cE_ [own 49 3 r27 ([])] [] rfl (L_ (zs := x.ds.map Dd.abs) tabOk [] rfl Tryz.underlying46 rfl rfl rfl rfl rfl rfl (dw_ x.ds) (by unfold maxLen; simp only [List.length_nil, List.length_append, List.length_map, List.length_cons]; omega) (by rw [show Tryz.prog.bytesOf 49 = 40 by kernel_rfl]; simp only [List.length_nil, List.length_append, List.length_map, List.length_cons]; omega)) rfl (by exact dK_ List.mem_cons_self) rfl rfl ?_⟩
 rintro _ _ ⟨r32, rfl, rfl⟩
 refine ⟨[own 49 3 r32 (x.ds.map Dd.abs)], rfl, cE_ [own 49 3 r32 (x.ds.map Dd.abs)] [] rfl (dU_ [] (L_ (zs := ((⟨(parseL m).1, x.ds ++ [⟨(parseL m).1.seq, [], true⟩]⟩ : Ex).ds).map Dd.abs) tabOk [] (by rw [List.map_append]; rfl) Tryz.underlying46 rfl rfl rfl rfl rfl rfl (by intro c hc; rw [List.mem_singleton] at hc; subst hc; rfl) (by unfold maxLen; simp only [List.length_nil, List.length_append, List.length_map, List.length_cons]; omega) (by rw [show Tryz.prog.bytesOf 49 = 40 by kernel_rfl]; simp only [List.length_nil, List.length_append, List.length_map, List.length_cons]; omega))) rfl (by exact dK_ List.mem_cons_self) rfl rfl ?_⟩
 rintro _ _ ⟨rfl, rfl⟩
 refine ⟨[], rfl, hx_ fun hx9 =>qx_ 2 hx9 rfl<|Q_<|h7_ rfl (n_ (L' := reA n (⟨(parseL m).1, x.ds ++ [⟨(parseL m).1.seq, [], true⟩]⟩ : Ex)) tabOk rfl rfl rfl u1_ rfl (lb_ (by rfl)) rfl (by rfl)) rfl rfl ?_⟩
 rintro _ _ ⟨rfl, rfl⟩
 refine c_<|d_<|a_<|q_ 1 rfl<|g_<|c_<|m_ ?_
 obtain ⟨g1, g2⟩ := jF_ (x := x) (m := m) (by assumption) (by assumption)
 rw [g1, g2]
 exact f_ (rs := [.tmp 4]) rfl (RV.tmp rfl RV.nil) (()) (sk_ sr_)<|rfl
end
section
variable {x : Ex} {n seq k : Int} {es : List Ent} {m : List UInt8} {b : Nat} {r e1 e2 : Value} {c : Core} {xs : List Dd} {v : Value}
set_option maxHeartbeats 1000000 in
theorem few29_s  : Spec Tryz.prog 8 [entsR es] [] (fun _ : Unit => []) (fun _ => boo (decide (FewX es))) := by
 refine F_ Tryz.func8 rfl Tryz.ntmps8 rfl fun G w =>d_<|a_<|q_ 1 rfl<|g_<|c_<|d_<|d_<|a_<|q_ 1 rfl<|b_ (B_ rfl Tryz.underlying26 (List.length_map _)) rfl rfl<|q_ 1 rfl<|g_<|c_<|y_<|bk_ (i := 5) rfl fun hrow => ?_
 rw [List.length_map] at hrow
 unfold maxLen at hrow
 refine ae_ (ι := Nat) (fun z => []) (fun z => [(0, entsR es), (5, entsR es), (6, int (es.length : Nat)), (7, int (z : Nat))]) (fun z => z ≤ es.length ∧ ∀ i (hi9 : i < es.length), i < z → es[i].core.letter.size ≤ 100 ∧ es[i].core.text.size ≤ 300) (fun z => es.length - z) (0) (⟨Nat.zero_le _, fun j h h2 => by omega⟩) (by exact ⟨rfl, rfl, rfl, rfl, trivial⟩) sn_ ?_
 intro z hz
 refine d_<|a_<|q_ 1 rfl<|g_<|c_<|d_<|o_ rfl ?_ ?_
 rotate_left
 ·intro hc8
  refine W_<|h_ nofun<|h_ nofun<|V_<|c_<|d_<|a_<|q_ 1 rfl<|b_ (B_ rfl Tryz.underlying26 (List.length_map _)) rfl rfl<|q_ 2 rfl<|g_<|c_<|m_<|f_ (rs := [.tmp 2]) rfl (RV.tmp rfl RV.nil) (()) sn_<|congrArg (fun b => Abs.v (Value.bool b)) ?_
  rw [decide_eq_decide]
  exact ⟨fun h9 => ⟨fun i h1 => hz.2 i h1 (by omega), by omega⟩, fun h9 => by have := h9.len; omega⟩
 intro hc8
 have hlt : z < es.length := by omega
 refine p_<|c_<|d_<|y_<|d_<|a_<|b_ (J_ tabOk Tryz.underlying26 rfl rfl rfl rfl (aN_ (by omega)) rfl rfl) rfl rfl ?_
 refine b_ (Y_ tabOk rfl rfl rfl rfl) rfl rfl<|eb_ (H_ tabOk rfl) rfl rfl fun b4=>?_
 refine e_ (n_ (L' := entA (es[z]'hlt)) tabOk rfl rfl rfl u0_ rfl (Nat.le_of_ble_eq_true rfl) rfl (by exact t_ rfl)) rfl rfl ?_
 refine g_<|c_<|d_<|a_<|q_ 2 rfl<|b_ (l_ (C := st (es[z]'hlt).core.letter) (i_ tabOk rfl rfl l0_ List.not_mem_nil rfl) rfl) rfl rfl<|b_ (ao_ rfl Tryz.underlying9) rfl rfl<|q_ 2 rfl<|z_ (t := 16) rfl ?_ ?_
 ·intro hc16
  refine q_ 6 rfl<|g_<|c_<|M_ rfl<|d_<|a_<|q_ 1 rfl<|g_<|c_<|m_<|E_<|h_ nofun<|h_ nofun<|E_<|h_ nofun<|f_ (rs := [.tmp 2]) rfl (RV.tmp rfl RV.nil) (()) sn_<|ac_ fun he => ?_
  have := he.en z hlt
  omega
 intro hc16
 refine q_ 2 rfl<|b_ (l_ (C := st (es[z]'hlt).core.text) (i_ tabOk rfl rfl l0_ List.not_mem_nil rfl) rfl) rfl rfl<|b_ (ao_ rfl Tryz.underlying9) rfl rfl<|q_ 2 rfl<|g_<|c_<|o_ rfl ?_ ?_
 rotate_left
 ·intro hc22
  refine p_<|u_<|c_<|a_<|b_ (C_ rfl rfl (by simp only [InR, lo, hi]; omega)) rfl rfl ?_
  refine q_ 1 rfl<|g_<|G_ (z + 1) (by omega) (⟨by omega, fun j h1 h2 => by rcases Nat.lt_or_ge j z with h3 | h3; exact hz.2 j h1 h3; obtain rfl : j = z := (by omega); omega⟩) (by exact ⟨rfl, rfl, rfl, rfl, trivial⟩) sn_
 intro hc22
 refine d_<|a_<|q_ 1 rfl<|g_<|c_<|m_<|E_<|h_ nofun<|h_ nofun<|E_<|h_ nofun<|f_ (rs := [.tmp 2]) rfl (RV.tmp rfl RV.nil) (()) sn_<|ac_ fun he => ?_
 have := he.en z hlt
 omega
set_option maxHeartbeats 2000000 in
theorem sameDs_s (hd : ∀ d ∈ x.ds, DdIns d ∧ d.batch.length ≤ 10) : Spec Tryz.prog 23 [ddsA x.ds, ddsA x.ds] [] (fun _ : Unit => []) (fun _ => boo true) := by
 refine F_ Tryz.func23 rfl Tryz.ntmps23 rfl fun G w =>d_<|a_<|q_ 1 rfl<|g_<|c_<|d_<|d_<|a_<|q_ 1 rfl<|b_ (B_ rfl Tryz.underlying46 (List.length_map _)) rfl rfl<|q_ 1 rfl<|b_ (B_ rfl Tryz.underlying46 (List.length_map _)) rfl rfl<|b_ (l_ (C := boo false) (aQ_ rfl rfl) (congrArg (fun b => Abs.v (Value.bool b)) (by simp))) rfl rfl ?_
 refine g_<|c_<|ad_ rfl<|p_<|c_<|d_<|d_<|a_<|q_ 1 rfl<|b_ (B_ rfl Tryz.underlying46 (List.length_map _)) rfl rfl<|q_ 1 rfl<|g_<|c_<|y_<|bk_ (i := 11) rfl fun hrow => ?_
 rw [List.length_map] at hrow
 unfold maxLen at hrow
 refine ae_ (ι := Nat) (fun z => []) (fun z => [(0, ddsA x.ds), (1, ddsA x.ds), (12, int (x.ds.length : Nat)), (13, int (z : Nat))]) (fun z => z ≤ x.ds.length) (fun z => x.ds.length - z) (0) (Nat.zero_le _) (by exact ⟨rfl, rfl, rfl, rfl, trivial⟩) sn_ ?_
 intro z hz
 refine d_<|a_<|q_ 1 rfl<|g_<|c_<|d_<|o_ rfl ?_ ?_
 rotate_left
 ·intro hc14
  exact W_<|h_ nofun<|h_ nofun<|V_<|c_<|d_<|a_<|q_ 1 rfl<|g_<|c_<|m_<|f_ (rs := [.tmp 4]) rfl (RV.tmp rfl RV.nil) (()) sn_<|rfl
 intro hc14
 have hlt : z < x.ds.length := by omega
 refine p_<|c_<|d_<|y_<|d_<|a_<|q_ 2 rfl<|g_<|c_<|d_<|aa_ [] (.q 0 (.q 1 (.q 2 (.q 3 (.q 4 (.q 5 (.q 6 (.q 7 (.q 8 (.q 9 (.q 10 (.q 11 (.q 12 (.q 13 (.q 14 (.q 15 (.q 16 (.q 17 (.q 18 (.q 19 (.q 20 (.q 21 (.q 22 (.q 23 (.q 24 (.q 25 (.q 26 (.q 27 (.q 28 (.q 29 (.q 30 (.q 31 (.q 32 (.q 33 (.q 34 (.e 35 (.q 36 (.q 37 .nil)))))))))))))))))))))))))))))))))))))) (by kernel_rfl) (by kernel_rfl) ?_
 refine qs_ 2 rfl<|hx_ fun hx9 =>r_ rfl (J_ (q := z) (cs := Dd.abs (x.ds[z]'hlt)) tabOk Tryz.underlying46 rfl rfl rfl rfl (by rw [List.getElem?_map, List.getElem?_eq_getElem hlt]; rfl) rfl rfl) hx9 rfl rfl ?_
 refine r_ rfl (ai_ tabOk rfl rfl rfl rfl rfl) (by simp) rfl rfl ?_
 refine r_ rfl (l_ (C := int (x.ds[z]'hlt).seq) (aJ_ tabOk rfl rfl rfl) rfl) hx9 rfl rfl<|qs_ 2 rfl<|r_ rfl (J_ (q := z) (cs := Dd.abs (x.ds[z]'hlt)) tabOk Tryz.underlying46 rfl rfl rfl rfl (by rw [List.getElem?_map, List.getElem?_eq_getElem hlt]; rfl) rfl rfl) hx9 rfl rfl ?_
 refine r_ rfl (ai_ tabOk rfl rfl rfl rfl rfl) (by simp) rfl rfl ?_
 refine r_ rfl (l_ (C := int (x.ds[z]'hlt).seq) (aJ_ tabOk rfl rfl rfl) rfl) hx9 rfl rfl<|r_ rfl (l_ (C := boo false) (aQ_ rfl rfl) (congrArg (fun b => Abs.v (Value.bool b)) (by simp))) hx9 rfl rfl ?_
 refine qs_ 3 rfl<|r_ rfl (J_ (q := z) (cs := Dd.abs (x.ds[z]'hlt)) tabOk Tryz.underlying46 rfl rfl rfl rfl (by rw [List.getElem?_map, List.getElem?_eq_getElem hlt]; rfl) rfl rfl) hx9 rfl rfl ?_
 refine r_ rfl (ai_ tabOk rfl rfl rfl rfl rfl) (by simp) rfl rfl ?_
 refine r_ rfl (l_ (C := boo (x.ds[z]'hlt).adopted) (aJ_ tabOk rfl rfl rfl) rfl) hx9 rfl rfl<|qs_ 2 rfl<|r_ rfl (J_ (q := z) (cs := Dd.abs (x.ds[z]'hlt)) tabOk Tryz.underlying46 rfl rfl rfl rfl (by rw [List.getElem?_map, List.getElem?_eq_getElem hlt]; rfl) rfl rfl) hx9 rfl rfl ?_
 refine r_ rfl (ai_ tabOk rfl rfl rfl rfl rfl) (by simp) rfl rfl ?_
 refine r_ rfl (l_ (C := boo (x.ds[z]'hlt).adopted) (aJ_ tabOk rfl rfl rfl) rfl) hx9 rfl rfl<|r_ rfl (l_ (C := boo false) (gk_ rfl rfl (by kernel_rfl)) (congrArg (fun b => Abs.v (Value.bool b)) (by simp))) hx9 rfl rfl ?_
 refine qs_ 4 rfl<|r_ rfl (J_ (q := z) (cs := Dd.abs (x.ds[z]'hlt)) tabOk Tryz.underlying46 rfl rfl rfl rfl (by rw [List.getElem?_map, List.getElem?_eq_getElem hlt]; rfl) rfl rfl) hx9 rfl rfl ?_
 refine r_ rfl (ai_ tabOk rfl rfl rfl rfl rfl) (by simp) rfl rfl ?_
 refine r_ rfl (l_ (C := entsR (x.ds[z]'hlt).batch) (aJ_ tabOk rfl rfl rfl) rfl) hx9 rfl rfl<|qs_ 2 rfl<|r_ rfl (J_ (q := z) (cs := Dd.abs (x.ds[z]'hlt)) tabOk Tryz.underlying46 rfl rfl rfl rfl (by rw [List.getElem?_map, List.getElem?_eq_getElem hlt]; rfl) rfl rfl) hx9 rfl rfl ?_
 refine r_ rfl (ai_ tabOk rfl rfl rfl rfl rfl) (by simp) rfl rfl ?_
 refine r_ rfl (l_ (C := entsR (x.ds[z]'hlt).batch) (aJ_ tabOk rfl rfl rfl) rfl) hx9 rfl rfl<|I_ rfl (rbsame_s (es := (x.ds[z]'hlt).batch) (fs := (x.ds[z]'hlt).batch) (by have := (hd _ (List.getElem_mem hlt)).2; omega) (fun e he => ((hd _ (List.getElem_mem hlt)).1.batch e he).lits) (fun e he => ((hd _ (List.getElem_mem hlt)).1.batch e he).lits)) (by simp [mids, It.mids]) Casts.refl (by kernel_rfl) rfl rfl rfl ?_
 refine ap_ ?_
 intro _
 rw [decide_eq_true rfl]
 refine r_ rfl (bn_ rfl) (by simp) rfl rfl ?_
 refine qs_ 1 rfl<|Q_<|c_<|ad_ rfl<|p_<|u_<|c_<|a_<|b_ (C_ rfl rfl (by simp only [InR, lo, hi]; omega)) rfl rfl ?_
 refine q_ 1 rfl<|g_<|G_ (z + 1) (by omega) (by omega) (by exact ⟨rfl, rfl, rfl, rfl, trivial⟩) sn_
end
def XA1 : Ex := ⟨⟨1, 0, [], []⟩, [⟨1, [], false⟩]⟩
def XA2 : Ex := ⟨⟨1, 0, [], []⟩, [⟨1, [], true⟩]⟩
theorem cA_ : XA1.l.Right := Lg.zero_keep.right (s := 1) (by omega)
theorem XA1_ok : XA1.Ok 1 := ⟨cA_.ins, by show (0 : Int) ≤ 1 ∧ (1 : Int) ≤ _; omega, Nat.zero_le _, Nat.zero_le _, Nat.le_refl _, fun d hd => by
  rw [List.mem_singleton.1 hd]
  exact ⟨⟨by show i64ok 1; unfold i64ok; omega, fun e he => (by cases he)⟩, Nat.zero_le _, fun e he => (by cases he)⟩⟩
theorem XA2_ok : XA2.Ok 1 := ⟨cA_.ins, by show (0 : Int) ≤ 1 ∧ (1 : Int) ≤ _; omega, Nat.zero_le _, Nat.zero_le _, Nat.le_refl _, fun d hd => by
  rw [List.mem_singleton.1 hd]
  exact ⟨⟨by show i64ok 1; unfold i64ok; omega, fun e he => (by cases he)⟩, Nat.zero_le _, fun e he => (by cases he)⟩⟩
theorem fx29a : Ex.zero.doX 4 1 [] = XA1 := by kernel_rfl
theorem fx29b : Ex.zero.doE 4 1 [] = 0 := by kernel_rfl
theorem fx29c : XA1.doX 4 3 [] = XA1 := by kernel_rfl
theorem fx29d : XA1.doE 4 3 [] = 14 := by kernel_rfl
theorem fx29e : Ex.zero.adX XA1.l.bytesR = XA2 ∧ Ex.zero.adE XA1.l.bytesR = 0 := by
  have hp := ks_ cA_
  rw [dx_ cA_]
  obtain ⟨g1, g2⟩ := jF_ (x := Ex.zero) (m := XA1.l.bytes) (by rw [hp]; simp) (by rw [hp]; show ¬ (1 : Int) ≤ 0; omega)
  exact ⟨by rw [g1, hp]; rfl, g2⟩
theorem fx29f : XA2.adE XA1.l.bytesR = 14 := by
  have hp := ks_ cA_
  rw [dx_ cA_]
  exact (h0_ (x := XA2) (m := XA1.l.bytes) (by rw [hp]; simp) (by rw [hp]; show (1 : Int) ≤ 1; omega)).2
theorem fx29g : XA1.l.bytesR.length ≤ 10000000 := by
  rw [dx_ cA_]
  have := cA_.bytes
  omega
section
variable {e1 e2 : Value}
set_option maxHeartbeats 4000000 in
theorem gW_ (he : isIf e1) (hr : isIf e2) : Spec Tryz.prog 6 [] (globs e1 e2) (fun _ : Unit => []) (fun _ => boo true) := by
 refine F_ Tryz.func6 rfl Tryz.ntmps6 rfl fun G w =>d_<|a_<|q_ 1 rfl<|g_<|c_<|d_<|a_<|s_ (hP_ (n := 4) (by omega)) Casts.refl (by kernel_rfl) rfl rfl rfl ?_
 refine bB_ (by repeat first|exact .nil|refine .blk (by repeat first|assumption|exact m0_|apply m1_) ?_|refine .rd (by repeat first|assumption|exact m0_|apply m1_) ?_|refine .pc (by repeat first|assumption|exact m0_|apply m1_) ?_|refine .rdpc (by repeat first|assumption|exact m0_|apply m1_) ?_) (fun _ => rfl) ?_
 intro b8
 refine q_ 1 rfl<|g_<|c_<|d_<|a_<|q_ 1 rfl<|s_ (kM_ (b := b8) (x := Ex.zero) (r := (.slice none 0 0)) (n := 4) (seq := 1) (es := []) (j := 0) he hr (fun e he => (by cases he)) (Nat.zero_le _) (by omega) Ex.zero_ok) (Casts.keep (Casts.keep (Casts.nils (s := 8) Casts.refl))) (by kernel_rfl) rfl rfl rfl ?_
 refine bb_ (ys := (globs e1 e2)) rfl i0_ (by intro y hy; simp only [globs, List.mem_cons, List.not_mem_nil, or_false] at hy; rcases hy with rfl | rfl | rfl <;> exact ⟨by repeat first|assumption|exact m0_|apply m1_, by intro h; cases h⟩) rfl (fun _ => rfl) ?_
 intro r1
 refine ⟨_, u0_, ?_⟩
 rw [fx29a, fx29b]
 refine q_ 2 rfl<|b_ (l_ (C := int 0) (az_ rfl rfl) rfl) rfl rfl<|q_ 2 rfl<|g_<|c_<|d_<|a_<|q_ 1 rfl<|s_ (kM_ (b := b8) (x := XA1) (r := r1) (n := 4) (seq := 3) (es := []) (j := 1) he hr (fun e he => (by cases he)) (Nat.zero_le _) (by omega) XA1_ok) (Casts.keep (Casts.keep (Casts.nils (s := 8) Casts.refl))) (by kernel_rfl) rfl rfl rfl ?_
 refine bb_ (ys := (globs e1 e2)) rfl i0_ (by intro y hy; simp only [globs, List.mem_cons, List.not_mem_nil, or_false] at hy; rcases hy with rfl | rfl | rfl <;> exact ⟨by repeat first|assumption|exact m0_|apply m1_, by intro h; cases h⟩) rfl (fun _ => rfl) ?_
 intro r2
 refine ⟨_, u0_, ?_⟩
 rw [fx29c, fx29d]
 refine q_ 2 rfl<|b_ (l_ (C := int 14) (az_ rfl rfl) rfl) rfl rfl<|q_ 2 rfl<|g_<|c_<|d_<|a_<|s_ (hP_ (n := 4) (by omega)) Casts.refl (by kernel_rfl) rfl rfl rfl ?_
 refine bB_ (by repeat first|exact .nil|refine .blk (by repeat first|assumption|exact m0_|apply m1_) ?_|refine .rd (by repeat first|assumption|exact m0_|apply m1_) ?_|refine .pc (by repeat first|assumption|exact m0_|apply m1_) ?_|refine .rdpc (by repeat first|assumption|exact m0_|apply m1_) ?_) (fun _ => rfl) ?_
 intro b19
 refine q_ 1 rfl<|g_<|c_<|d_<|a_<|q_ 2 rfl<|s_ (eU_ (b := b8) (x := XA1) (r := r2) (n := 4) XA1_ok.ins.total) Casts.refl (by kernel_rfl) rfl rfl rfl ?_
 refine A_ rfl i1_ (fun _ => rfl)<|fun _=>⟨_, u1_, s_ (iL_ (b := b19) (x := Ex.zero) (r := (.slice none 0 0)) (n := 4) (m := XA1.l.bytesR) (j := 0) fx29g (by omega) Ex.zero_ok) Casts.refl (by kernel_rfl) rfl rfl rfl ?_⟩
 refine A_ rfl i0_ (fun _ => rfl)<|fun r3=>⟨_, u0_, ?_⟩
 rw [fx29e.1, fx29e.2]
 refine q_ 1 rfl<|g_<|c_<|d_<|a_<|q_ 1 rfl<|b_ (l_ (C := boo true) (al_ rfl rfl) (congrArg (fun b => Abs.v (Value.bool b)) (decide_eq_true (rfl)))) rfl rfl<|q_ 2 rfl<|b_ (l_ (C := boo true) (al_ rfl rfl) (congrArg (fun b => Abs.v (Value.bool b)) (decide_eq_true (rfl)))) rfl rfl<|q_ 3 rfl<|b_ (l_ (C := boo true) (al_ rfl rfl) (congrArg (fun b => Abs.v (Value.bool b)) (decide_eq_true (rfl)))) rfl rfl<|q_ 3 rfl<|s_ (hQ_ (b := b8) (x := XA1) (r := r2) (n := 4)) Casts.refl (by kernel_rfl) rfl rfl rfl ?_
 refine A_ rfl i1_ (fun _ => rfl)<|fun _=>⟨_, u1_, b_ (l_ (C := boo true) (al_ rfl rfl) (congrArg (fun b => Abs.v (Value.bool b)) (decide_eq_true (rfl)))) rfl rfl<|q_ 3 rfl<|s_ (hQ_ (b := b19) (x := XA2) (r := r3) (n := 4)) Casts.refl (by kernel_rfl) rfl rfl rfl ?_⟩
 refine A_ rfl i0_ (fun _ => rfl)<|fun _=>⟨_, u0_, b_ (l_ (C := boo true) (al_ rfl rfl) (congrArg (fun b => Abs.v (Value.bool b)) (decide_eq_true (rfl)))) rfl rfl<|q_ 3 rfl<|s_ (eT_ (b := b19) (x := XA2) (r := r3) (n := 4) (by show (1 : Nat) ≤ _; omega) (fun d hd => Nat.le_trans (XA2_ok.ds d hd).2.1 (by omega))) Casts.refl (by kernel_rfl) rfl rfl rfl ?_⟩
 refine A_ rfl i0_ (fun _ => rfl)<|fun _=>⟨_, u0_, b_ (l_ (C := int ((1 : Nat) : Int)) (B_ (m := 1) rfl Tryz.underlying46 rfl) rfl) rfl rfl<|b_ (l_ (C := boo true) (al_ rfl rfl) (congrArg (fun b => Abs.v (Value.bool b)) (decide_eq_true (rfl)))) rfl rfl<|q_ 3 rfl<|s_ (eT_ (b := b19) (x := XA2) (r := r3) (n := 4) (by show (1 : Nat) ≤ _; omega) (fun d hd => Nat.le_trans (XA2_ok.ds d hd).2.1 (by omega))) Casts.refl (by kernel_rfl) rfl rfl rfl ?_⟩
 refine A_ rfl i0_ (fun _ => rfl)<|fun _=>⟨_, u0_, b_ (J_ (q := 0) (cs := Dd.abs ⟨1, [], true⟩) tabOk Tryz.underlying46 rfl rfl rfl rfl rfl rfl rfl) rfl rfl<|b_ (ai_ tabOk rfl rfl rfl rfl rfl) rfl rfl<|b_ (l_ (C := boo true) (aJ_ tabOk rfl rfl rfl) rfl) rfl rfl<|q_ 4 rfl<|s_ (eU_ (b := b8) (x := XA1) (r := r2) (n := 4) XA1_ok.ins.total) Casts.refl (by kernel_rfl) rfl rfl rfl ?_⟩
 refine A_ rfl i1_ (fun _ => rfl)<|fun _=>⟨_, u1_, s_ (iL_ (b := b19) (x := XA2) (r := r3) (n := 4) (m := XA1.l.bytesR) (j := 1) fx29g (by omega) XA2_ok) Casts.refl (by kernel_rfl) rfl rfl rfl ?_⟩
 refine A_ rfl i0_ (fun _ => rfl)<|fun r4=>⟨_, u0_, ?_⟩
 rw [fx29f]
 exact b_ (l_ (C := boo true) (al_ rfl rfl) (congrArg (fun b => Abs.v (Value.bool b)) (decide_eq_true (rfl)))) rfl rfl<|q_ 2 rfl<|g_<|c_<|m_<|f_ (rs := [.tmp 0]) rfl (RV.tmp rfl RV.nil) (()) sn_<|rfl
end
theorem nod_head {b : Nat} {t : TypeId} {cs : List Abs} {x : It} {σ : Blks} (h : (mids (It.blk b t cs :: σ)).Nodup) (hx : x ∈ σ) : b ∉ x.mids := fun hm => by
  rw [aB_, List.nodup_append] at h
  exact h.2.2 b (by simp [It.mids]) b (a2_.2 ⟨x, hx, hm⟩) rfl
theorem ds_ {x : It} : ∀ k ∈ mids [x], k ∈ x.mids := fun k hk => by
  obtain ⟨y, hy, hk⟩ := a2_.1 hk
  rw [List.mem_singleton.1 hy] at hk
  exact hk
theorem doF_e64 {l : Lg} {e : Ent} {n : Int} : i64ok (l.doF e n).2 := by
  unfold Lg.doF
  split
  · show i64ok 10; unfold i64ok; omega
  · split
    · show i64ok (e.core.check n)
      unfold Core.check
      repeat' split
      all_goals (unfold i64ok; omega)
    · exact gq_ j4_
theorem iG_ (n : Int) : ∀ (l : Lg) (es : List Ent), ∀ r ∈ (Lg.goes n l es).2, i64ok r
  | l, [], r, h => by cases h
  | l, e :: es, r, h => by
    rcases List.mem_cons.1 h with rfl | h
    · exact doF_e64
    · exact iG_ n _ es r h
theorem doO_ins {x : Ex} {n seq : Int} {es : List Ent} (he : ∀ e ∈ es, EnIns e) : ∀ o ∈ x.doO n seq es, OcIns o := by
  unfold Ex.doO
  split
  · intro o ho; cases ho
  · exact ir_ he (iG_ n x.l es)
end Go.Proofs.YtickdhjljpnlpaaGreatDoor.A
