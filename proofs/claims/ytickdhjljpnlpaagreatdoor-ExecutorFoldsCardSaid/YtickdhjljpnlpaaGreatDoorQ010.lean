/-
  Packed out of the texts: CO6, CO7, EX1, EX2, EX3, EX4, ClE, A29.
-/
import Derived.Test.YtickdhjljpnlpaaGreatDoorQ09
set_option maxRecDepth 100000
set_option linter.unusedSimpArgs false
set_option linter.unusedVariables false
namespace Go.Proofs.YtickdhjljpnlpaaGreatDoor.A
open Go.RowKit
section
variable {l a b : Lg} {x : Ltr} {o : Oc} {k n : Int} {s : ByteArray} {c : Core} {e : Ent} {p : Nat} {es : List Ent} {ls : List Ltr}
set_option maxHeartbeats 2000000 in
theorem jP_ (hs : ∀ x ∈ ls, x.name.size ≤ maxLen) : Spec Tryz.prog 32 [ltrsA ls] [] (fun _ : Unit => []) (fun _ => boo (decide (LtsR ls ∧ ls.length ≤ 16))) := by
 refine C_ Tryz.func32 rfl Tryz.ntmps32 rfl fun G w =>d_<|a_<|q_ 1 rfl<|g_<|b_<|d_<|d_<|a_<|q_ 1 rfl<|c_ (E_ rfl Tryz.underlying27 (List.length_map _)) rfl rfl<|q_ 1 rfl<|g_<|b_<|w_<|bp_ (i := 5) rfl fun hrow => ?_
 rw [List.length_map] at hrow
 unfold maxLen at hrow
 refine aa_ (ι := Nat) (fun y => []) (fun y => [(0, ltrsA ls), (5, ltrsA ls), (6, int (ls.length : Nat)), (7, int (y : Nat))]) (fun y => y ≤ ls.length ∧ ∀ j (h : j < ls.length), j < y → LtR ls[j] ∧ (0 < j → ltB (ls[j - 1]'(by omega)).name ls[j].name)) (fun y => ls.length - y) (0) (⟨Nat.zero_le _, fun j h h2 => by omega⟩) (by exact ⟨rfl, rfl, rfl, rfl, trivial⟩) sn_ ?_
 intro y hy
 refine d_<|a_<|q_ 1 rfl<|g_<|b_<|d_<|p_ rfl ?_ ?_
 rotate_left
 ·intro hc8
  refine X_<|h_ nofun<|h_ nofun<|W_<|b_<|d_<|a_<|q_ 1 rfl<|c_ (E_ rfl Tryz.underlying27 (List.length_map _)) rfl rfl<|q_ 2 rfl<|g_<|b_<|l_<|f_ (rs := [.tmp 2]) rfl (RV.tmp rfl RV.nil) (()) sn_ ?_
  have hr : LtsR ls := ⟨fun j h => (hy.2 j h (by omega)).1, fun j h => (hy.2 j h (by omega)).2⟩
  refine congrArg (fun b => Abs.v (Value.bool b)) ?_
  rw [decide_eq_decide]
  exact ⟨fun h => ⟨hr, by omega⟩, fun h => by have := h.2; omega⟩
 intro hc8
 have hlt : y < ls.length := by omega
 refine o_<|b_<|d_<|w_<|d_<|a_<|q_ 1 rfl<|c_ (H_ tabOk Tryz.underlying27 rfl rfl rfl rfl (aw_ (by omega)) rfl rfl) rfl rfl ?_
 refine c_ (T_ tabOk rfl rfl rfl rfl) rfl rfl<|eb_ (B_ tabOk rfl) rfl rfl fun b4=>?_
 refine q_ 1 rfl<|e_ (m_ (L' := ltrA (ls[y]'hlt)) tabOk rfl rfl rfl u0_ rfl (Nat.le_of_ble_eq_true rfl) rfl (by exact s_ rfl)) rfl rfl ?_
 refine g_<|b_<|a8_ (ι := Unit) (fun z => [.blk b4 81 (ltrA (ls[y]'hlt))]) (fun z => [(0, ltrsA ls), (5, ltrsA ls), (6, int (ls.length : Nat)), (7, int (y : Nat)), (4, ptr b4)]) (fun z => 0 < y → ltB (ls[y - 1]'(by omega)).name (ls[y]'hlt).name) ?_ ?_
 ·skip
  refine d_<|Y_ [] (.q 0 (.q 1 (.q 2 (.q 3 (.q 4 (.q 5 (.q 6 (.q 7 (.q 8 (.q 9 (.q 10 (.q 11 (.q 12 .nil))))))))))))) (by kernel_rfl) (by kernel_rfl) ?_
  refine qs_ 3 rfl<|aM_ (t := 14) rfl ?_ ?_
  rotate_left
  ·intro hc14
   refine qs_ 10 rfl<|R_<|b_<|ah_ rfl<|o_<|ad_ (()) (fun h0 => by omega) (by exact ⟨rfl, rfl, rfl, rfl, rfl, trivial⟩) sr_
  intro hc14
  refine qs_ 2 rfl<|hx_ fun hx9 =>v_ rfl (bc_ rfl rfl (by simp only [InR, lo, hi]; omega)) hx9 rfl rfl ?_
  refine v_ rfl (H_ (q := y - 1) tabOk Tryz.underlying27 rfl rfl rfl (by omega) (aw_ (by omega)) rfl rfl) hx9 rfl rfl ?_
  refine v_ rfl (aR_ tabOk rfl rfl rfl rfl rfl) (by simp) rfl rfl ?_
  refine v_ rfl (bs_ tabOk rfl rfl rfl) (by simp) rfl rfl ?_
  refine qs_ 1 rfl<|v_ rfl (k_ (C := st (ls[y]'hlt).name) (i_ tabOk rfl rfl l0_ List.not_mem_nil rfl) rfl) hx9 rfl rfl<|v_ rfl (Val.geS rfl rfl) hx9 rfl rfl<|qs_ 1 rfl<|R_<|b_<|p_ rfl ?_ ?_
  rotate_left
  ·intro hc24
   refine o_<|ad_ (()) (fun h0 => by exact Classical.byContradiction hc24) (by exact ⟨rfl, rfl, rfl, rfl, rfl, trivial⟩) sr_
  intro hc24
  exact d_<|a_<|q_ 1 rfl<|g_<|b_<|l_<|h_ nofun<|A_<|h_ nofun<|h_ nofun<|A_<|h_ nofun<|f_ (rs := [.tmp 2]) rfl (RV.tmp rfl RV.nil) (()) sn_<|U_ fun he =>hc24 (he.1.rise y hlt (by omega))
 intro z hz
 refine d_<|a_<|q_ 1 rfl<|c_ (k_ (C := st (ls[y]'hlt).name) (i_ tabOk rfl rfl l0_ List.not_mem_nil rfl) rfl) rfl rfl<|r_ (f4_ (s := (ls[y]'hlt).name) (hs _ (List.getElem_mem hlt))) Casts.refl (by kernel_rfl) rfl rfl rfl ?_
 refine ap_<|fun _=>c_ (ab_ rfl) rfl rfl<|q_ 1 rfl<|aC_ (t := 29) rfl ?_ ?_
 ·intro hc29
  refine q_ 38 rfl<|g_<|b_<|K_ rfl<|d_<|a_<|q_ 1 rfl<|g_<|b_<|l_<|A_<|h_ nofun<|h_ nofun<|A_<|h_ nofun<|f_ (rs := [.tmp 2]) rfl (RV.tmp rfl RV.nil) (()) sn_<|U_ fun he => ?_
  obtain ⟨g1, ⟨g2, g3⟩, ⟨g4, g5⟩, g6, g7, g8⟩ := he.1.each y hlt
  have g9 : isAmt (ls[y]'hlt).amount = true := aK_ (by omega) g5
  (simp [g1] at hc29; done)
 intro hc29
 refine q_ 1 rfl<|c_ (k_ (C := int (ls[y]'hlt).state) (i_ tabOk rfl rfl l0_ List.not_mem_nil rfl) rfl) rfl rfl<|q_ 3 rfl<|z_ (t := 34) rfl ?_ ?_
 ·intro hc34
  refine q_ 33 rfl<|g_<|b_<|K_ rfl<|d_<|a_<|q_ 1 rfl<|g_<|b_<|l_<|A_<|h_ nofun<|h_ nofun<|A_<|h_ nofun<|f_ (rs := [.tmp 2]) rfl (RV.tmp rfl RV.nil) (()) sn_<|U_ fun he => ?_
  obtain ⟨g1, ⟨g2, g3⟩, ⟨g4, g5⟩, g6, g7, g8⟩ := he.1.each y hlt
  have g9 : isAmt (ls[y]'hlt).amount = true := aK_ (by omega) g5
  omega
 intro hc34
 refine q_ 1 rfl<|c_ (k_ (C := int (ls[y]'hlt).state) (i_ tabOk rfl rfl l0_ List.not_mem_nil rfl) rfl) rfl rfl<|q_ 3 rfl<|z_ (t := 39) rfl ?_ ?_
 ·intro hc39
  refine q_ 28 rfl<|g_<|b_<|K_ rfl<|d_<|a_<|q_ 1 rfl<|g_<|b_<|l_<|A_<|h_ nofun<|h_ nofun<|A_<|h_ nofun<|f_ (rs := [.tmp 2]) rfl (RV.tmp rfl RV.nil) (()) sn_<|U_ fun he => ?_
  obtain ⟨g1, ⟨g2, g3⟩, ⟨g4, g5⟩, g6, g7, g8⟩ := he.1.each y hlt
  have g9 : isAmt (ls[y]'hlt).amount = true := aK_ (by omega) g5
  omega
 intro hc39
 refine q_ 1 rfl<|c_ (k_ (C := int (ls[y]'hlt).amount) (i_ tabOk rfl rfl l0_ List.not_mem_nil rfl) rfl) rfl rfl<|q_ 3 rfl<|z_ (t := 44) rfl ?_ ?_
 ·intro hc44
  refine q_ 23 rfl<|g_<|b_<|K_ rfl<|d_<|a_<|q_ 1 rfl<|g_<|b_<|l_<|A_<|h_ nofun<|h_ nofun<|A_<|h_ nofun<|f_ (rs := [.tmp 2]) rfl (RV.tmp rfl RV.nil) (()) sn_<|U_ fun he => ?_
  obtain ⟨g1, ⟨g2, g3⟩, ⟨g4, g5⟩, g6, g7, g8⟩ := he.1.each y hlt
  have g9 : isAmt (ls[y]'hlt).amount = true := aK_ (by omega) g5
  omega
 intro hc44
 refine q_ 1 rfl<|c_ (k_ (C := int (ls[y]'hlt).amount) (i_ tabOk rfl rfl l0_ List.not_mem_nil rfl) rfl) rfl rfl<|r_ (rmis_s (a := (ls[y]'hlt).amount)) Casts.refl (by kernel_rfl) rfl rfl rfl ?_
 refine ap_<|fun _=>c_ (ab_ rfl) rfl rfl<|q_ 2 rfl<|aC_ (t := 50) rfl ?_ ?_
 ·intro hc50
  refine q_ 17 rfl<|g_<|b_<|K_ rfl<|d_<|a_<|q_ 1 rfl<|g_<|b_<|l_<|A_<|h_ nofun<|h_ nofun<|A_<|h_ nofun<|f_ (rs := [.tmp 2]) rfl (RV.tmp rfl RV.nil) (()) sn_<|U_ fun he => ?_
  obtain ⟨g1, ⟨g2, g3⟩, ⟨g4, g5⟩, g6, g7, g8⟩ := he.1.each y hlt
  have g9 : isAmt (ls[y]'hlt).amount = true := aK_ (by omega) g5
  (simp [g9] at hc50; done)
 intro hc50
 refine q_ 1 rfl<|c_ (k_ (C := int (ls[y]'hlt).due) (i_ tabOk rfl rfl l0_ List.not_mem_nil rfl) rfl) rfl rfl<|r_ (rday_s (a := (ls[y]'hlt).due)) Casts.refl (by kernel_rfl) rfl rfl rfl ?_
 refine ap_<|fun _=>c_ (ab_ rfl) rfl rfl<|q_ 2 rfl<|aC_ (t := 56) rfl ?_ ?_
 ·intro hc56
  refine q_ 11 rfl<|g_<|b_<|K_ rfl<|d_<|a_<|q_ 1 rfl<|g_<|b_<|l_<|A_<|h_ nofun<|h_ nofun<|A_<|h_ nofun<|f_ (rs := [.tmp 2]) rfl (RV.tmp rfl RV.nil) (()) sn_<|U_ fun he => ?_
  obtain ⟨g1, ⟨g2, g3⟩, ⟨g4, g5⟩, g6, g7, g8⟩ := he.1.each y hlt
  have g9 : isAmt (ls[y]'hlt).amount = true := aK_ (by omega) g5
  (simp [g6] at hc56; done)
 intro hc56
 refine q_ 1 rfl<|c_ (k_ (C := st (ls[y]'hlt).policy) (i_ tabOk rfl rfl l0_ List.not_mem_nil rfl) rfl) rfl rfl<|c_ (ag_ rfl Tryz.underlying9) rfl rfl<|q_ 3 rfl<|z_ (t := 62) rfl ?_ ?_
 ·intro hc62
  refine q_ 5 rfl<|g_<|b_<|K_ rfl<|d_<|a_<|q_ 1 rfl<|g_<|b_<|l_<|A_<|h_ nofun<|h_ nofun<|A_<|h_ nofun<|f_ (rs := [.tmp 2]) rfl (RV.tmp rfl RV.nil) (()) sn_<|U_ fun he => ?_
  obtain ⟨g1, ⟨g2, g3⟩, ⟨g4, g5⟩, g6, g7, g8⟩ := he.1.each y hlt
  have g9 : isAmt (ls[y]'hlt).amount = true := aK_ (by omega) g5
  omega
 intro hc62
 refine q_ 1 rfl<|c_ (k_ (C := st (ls[y]'hlt).papers) (i_ tabOk rfl rfl l0_ List.not_mem_nil rfl) rfl) rfl rfl<|c_ (ag_ rfl Tryz.underlying9) rfl rfl<|q_ 2 rfl<|g_<|b_<|p_ rfl ?_ ?_
 rotate_left
 ·intro hc67
  refine o_<|u_<|b_<|a_<|c_ (y_ rfl rfl (by simp only [InR, lo, hi]; omega)) rfl rfl ?_
  refine q_ 1 rfl<|g_ ?_
  have hok : LtR (ls[y]'hlt) := ⟨by simpa using hc29, by omega, ⟨by omega, (aB_ (by simpa using hc50)).2⟩, by simpa using hc56, by omega, by omega⟩
  refine D_ (y + 1) (by omega) (⟨by omega, fun j h h2 => by rcases Nat.lt_or_ge j y with h3 | h3; exact hy.2 j h h3; obtain rfl : j = y := (by omega); exact ⟨hok, hz⟩⟩) (by exact ⟨rfl, rfl, rfl, rfl, trivial⟩) sn_
 intro hc67
 refine d_<|a_<|q_ 1 rfl<|g_<|b_<|l_<|A_<|h_ nofun<|h_ nofun<|A_<|h_ nofun<|f_ (rs := [.tmp 2]) rfl (RV.tmp rfl RV.nil) (()) sn_<|U_ fun he => ?_
 obtain ⟨g1, ⟨g2, g3⟩, ⟨g4, g5⟩, g6, g7, g8⟩ := he.1.each y hlt
 have g9 : isAmt (ls[y]'hlt).amount = true := aK_ (by omega) g5
 omega
set_option maxHeartbeats 2000000 in
theorem rright_w (hs : ∀ x ∈ l.ls, x.name.size ≤ maxLen) : Spec Tryz.prog 13 [.agg l.abs] [] (fun _ : Unit => []) (fun _ => boo (decide l.Right)) := by
 refine C_ Tryz.func13 rfl Tryz.ntmps13 rfl fun G w =>d_<|a_<|eb_ (L_ (cs := l.abs) rfl) rfl rfl fun b1=>?_
 refine q_ 1 rfl<|g_<|b_<|d_<|d_<|a_<|q_ 1 rfl<|c_ (k_ (C := .sl 3 (l.os.map Oc.abs)) (i_ tabOk rfl rfl l0_ List.not_mem_nil rfl) rfl) rfl rfl<|c_ (E_ rfl Tryz.underlying28 (List.length_map _)) rfl rfl<|q_ 1 rfl<|g_<|b_<|w_<|bp_ (i := 6) rfl fun hrow => ?_
 rw [List.length_map] at hrow
 unfold maxLen at hrow
 refine aa_ (ι := Nat) (fun y => [.blk b1 30 l.abs]) (fun y => [(1, ptr b1), (6, outA l.os), (7, int (l.os.length : Nat)), (8, int (y : Nat))]) (fun y => y ≤ l.os.length ∧ ∀ j (h : j < l.os.length), j < y → OcR l.os[j] ∧ (0 < j → (l.os[j - 1]'(by omega)).client < l.os[j].client)) (fun y => l.os.length - y) (0) (⟨Nat.zero_le _, fun j h h2 => by omega⟩) (by exact ⟨rfl, rfl, rfl, rfl, trivial⟩) sr_ ?_
 intro y hy
 refine d_<|a_<|q_ 1 rfl<|g_<|b_<|d_<|p_ rfl ?_ ?_
 rotate_left
 ·intro hc9
  refine X_<|h_ nofun<|h_ nofun<|W_<|b_<|d_<|a_<|q_ 1 rfl<|c_ (k_ (C := int l.seq) (i_ tabOk rfl rfl l0_ List.not_mem_nil rfl) rfl) rfl rfl<|q_ 2 rfl<|z_ (t := 61) rfl ?_ ?_
  rotate_left
  ·intro hc61
   refine q_ 21 rfl<|g_<|b_<|l_ ?_
   have hr : OcsR l.os := ⟨fun j h => (hy.2 j h (by omega)).1, fun j h => (hy.2 j h (by omega)).2⟩
   refine f_ (rs := [.tmp 2]) rfl (RV.tmp rfl RV.nil) (()) sn_ ?_
   (refine U_ fun he => ?_; obtain ⟨g1, ⟨g2, g2'⟩, g3, g4, g5, g6⟩ := he; omega)
  intro hc61
  refine q_ 1 rfl<|c_ (k_ (C := int l.seq) (i_ tabOk rfl rfl l0_ List.not_mem_nil rfl) rfl) rfl rfl<|q_ 3 rfl<|z_ (t := 66) rfl ?_ ?_
  rotate_left
  ·intro hc66
   refine q_ 16 rfl<|g_<|b_<|l_ ?_
   have hr : OcsR l.os := ⟨fun j h => (hy.2 j h (by omega)).1, fun j h => (hy.2 j h (by omega)).2⟩
   refine f_ (rs := [.tmp 2]) rfl (RV.tmp rfl RV.nil) (()) sn_ ?_
   (refine U_ fun he => ?_; obtain ⟨g1, ⟨g2, g2'⟩, g3, g4, g5, g6⟩ := he; omega)
  intro hc66
  refine q_ 1 rfl<|c_ (k_ (C := int l.total) (i_ tabOk rfl rfl l0_ List.not_mem_nil rfl) rfl) rfl rfl<|r_ (rmis_s (a := l.total)) Casts.refl (by kernel_rfl) rfl rfl rfl ?_
  refine ap_<|fun _=>q_ 2 rfl<|aC_ (t := 71) rfl ?_ ?_
  rotate_left
  ·intro hc71
   refine q_ 11 rfl<|g_<|b_<|l_ ?_
   have hr : OcsR l.os := ⟨fun j h => (hy.2 j h (by omega)).1, fun j h => (hy.2 j h (by omega)).2⟩
   refine f_ (rs := [.tmp 2]) rfl (RV.tmp rfl RV.nil) (()) sn_ ?_
   (refine U_ fun he => ?_; obtain ⟨g1, ⟨g2, g2'⟩, g3, g4, g5, g6⟩ := he; (rw [g3] at hc71; cases hc71; done))
  intro hc71
  refine q_ 1 rfl<|c_ (k_ (C := .sl 3 (l.os.map Oc.abs)) (i_ tabOk rfl rfl l0_ List.not_mem_nil rfl) rfl) rfl rfl<|c_ (E_ rfl Tryz.underlying28 (List.length_map _)) rfl rfl<|q_ 3 rfl<|z_ (t := 77) rfl ?_ ?_
  rotate_left
  ·intro hc77
   refine q_ 5 rfl<|g_<|b_<|l_ ?_
   have hr : OcsR l.os := ⟨fun j h => (hy.2 j h (by omega)).1, fun j h => (hy.2 j h (by omega)).2⟩
   refine f_ (rs := [.tmp 2]) rfl (RV.tmp rfl RV.nil) (()) sn_ ?_
   (refine U_ fun he => ?_; obtain ⟨g1, ⟨g2, g2'⟩, g3, g4, g5, g6⟩ := he; omega)
  intro hc77
  refine q_ 1 rfl<|c_ (k_ (C := .sl 6 (l.ls.map ltrA)) (i_ tabOk rfl rfl l0_ List.not_mem_nil rfl) rfl) rfl rfl<|r_ (jP_ hs) Casts.refl (by kernel_rfl) rfl rfl rfl ?_
  refine ap_<|fun _=>q_ 2 rfl<|g_<|b_<|l_ ?_
  have hr : OcsR l.os := ⟨fun j h => (hy.2 j h (by omega)).1, fun j h => (hy.2 j h (by omega)).2⟩
  refine f_ (rs := [.tmp 2]) rfl (RV.tmp rfl RV.nil) (()) sn_ ?_
  (refine congrArg (fun b => Abs.v (Value.bool b)) ?_; rw [decide_eq_decide]; exact ⟨fun h => ⟨hr, by omega, by assumption, by omega, h.1, h.2⟩, fun h => ⟨h.ls, h.lsFew⟩⟩)
 intro hc9
 have hlt : y < l.os.length := by omega
 refine o_<|b_<|d_<|w_<|d_<|a_<|q_ 1 rfl<|c_ (H_ tabOk Tryz.underlying28 rfl rfl rfl rfl (aw_ (by omega)) rfl rfl) rfl rfl ?_
 refine c_ (T_ tabOk rfl rfl rfl rfl) rfl rfl<|eb_ (B_ tabOk rfl) rfl rfl fun b4=>?_
 refine q_ 1 rfl<|e_ (m_ (L' := Oc.abs (l.os[y]'hlt)) tabOk rfl rfl rfl u0_ rfl (Nat.le_of_ble_eq_true rfl) rfl (by exact s_ rfl)) rfl rfl ?_
 refine g_<|b_<|d_<|Y_ [] (.q 0 (.q 1 (.q 2 (.q 3 (.q 4 (.q 5 (.q 6 (.q 7 (.q 8 (.q 9 (.q 10 (.q 11 (.q 12 (.q 13 (.q 14 (.q 15 (.q 16 (.q 17 (.q 18 (.q 19 (.q 20 (.q 21 (.q 22 (.q 23 (.q 24 (.q 25 (.q 26 (.q 27 (.q 28 (.q 29 (.q 30 (.q 31 (.q 32 (.q 33 (.q 34 (.q 35 (.q 36 (.q 37 (.q 38 (.q 39 (.q 40 (.q 41 (.q 42 (.q 43 .nil)))))))))))))))))))))))))))))))))))))))))))) (by kernel_rfl) (by kernel_rfl) ?_
 refine qs_ 3 rfl<|aM_ (t := 15) rfl ?_ ?_
 rotate_left
 ·intro hc15
  refine qs_ 13 rfl<|hx_ fun hx9 =>v_ rfl (k_ (C := int (l.os[y]'hlt).client) (i_ tabOk rfl rfl l0_ List.not_mem_nil rfl) rfl) hx9 rfl rfl<|qs_ 3 rfl<|aM_ (t := 32) rfl ?_ ?_
  ·intro hc32
   refine qs_ 24 rfl<|R_<|b_<|K_ rfl<|d_<|a_<|q_ 1 rfl<|g_<|b_<|l_<|A_<|h_ nofun<|h_ nofun<|A_<|h_ nofun<|f_ (rs := [.tmp 2]) rfl (RV.tmp rfl RV.nil) (()) sn_<|U_ fun he => ?_
   obtain ⟨g1, g2, g3⟩ := he.os.each y hlt
   have g4 := he.os.rise y hlt
   omega
  intro hc32
  refine qs_ 1 rfl<|v_ rfl (k_ (C := int (l.os[y]'hlt).client) (i_ tabOk rfl rfl l0_ List.not_mem_nil rfl) rfl) hx9 rfl rfl<|qs_ 3 rfl<|aM_ (t := 37) rfl ?_ ?_
  ·intro hc37
   refine qs_ 19 rfl<|R_<|b_<|K_ rfl<|d_<|a_<|q_ 1 rfl<|g_<|b_<|l_<|A_<|h_ nofun<|h_ nofun<|A_<|h_ nofun<|f_ (rs := [.tmp 2]) rfl (RV.tmp rfl RV.nil) (()) sn_<|U_ fun he => ?_
   obtain ⟨g1, g2, g3⟩ := he.os.each y hlt
   have g4 := he.os.rise y hlt
   omega
  intro hc37
  refine qs_ 1 rfl<|v_ rfl (k_ (C := int (l.os[y]'hlt).stamp) (i_ tabOk rfl rfl l0_ List.not_mem_nil rfl) rfl) hx9 rfl rfl<|qs_ 3 rfl<|aM_ (t := 42) rfl ?_ ?_
  ·intro hc42
   refine qs_ 14 rfl<|R_<|b_<|K_ rfl<|d_<|a_<|q_ 1 rfl<|g_<|b_<|l_<|A_<|h_ nofun<|h_ nofun<|A_<|h_ nofun<|f_ (rs := [.tmp 2]) rfl (RV.tmp rfl RV.nil) (()) sn_<|U_ fun he => ?_
   obtain ⟨g1, g2, g3⟩ := he.os.each y hlt
   have g4 := he.os.rise y hlt
   omega
  intro hc42
  refine qs_ 1 rfl<|v_ rfl (k_ (C := int (l.os[y]'hlt).stamp) (i_ tabOk rfl rfl l0_ List.not_mem_nil rfl) rfl) hx9 rfl rfl<|qs_ 3 rfl<|aM_ (t := 47) rfl ?_ ?_
  ·intro hc47
   refine qs_ 9 rfl<|R_<|b_<|K_ rfl<|d_<|a_<|q_ 1 rfl<|g_<|b_<|l_<|A_<|h_ nofun<|h_ nofun<|A_<|h_ nofun<|f_ (rs := [.tmp 2]) rfl (RV.tmp rfl RV.nil) (()) sn_<|U_ fun he => ?_
   obtain ⟨g1, g2, g3⟩ := he.os.each y hlt
   have g4 := he.os.rise y hlt
   omega
  intro hc47
  refine qs_ 1 rfl<|v_ rfl (k_ (C := int (l.os[y]'hlt).result) (i_ tabOk rfl rfl l0_ List.not_mem_nil rfl) rfl) hx9 rfl rfl<|qs_ 3 rfl<|aM_ (t := 52) rfl ?_ ?_
  ·intro hc52
   refine qs_ 4 rfl<|R_<|b_<|K_ rfl<|d_<|a_<|q_ 1 rfl<|g_<|b_<|l_<|A_<|h_ nofun<|h_ nofun<|A_<|h_ nofun<|f_ (rs := [.tmp 2]) rfl (RV.tmp rfl RV.nil) (()) sn_<|U_ fun he => ?_
   obtain ⟨g1, g2, g3⟩ := he.os.each y hlt
   have g4 := he.os.rise y hlt
   omega
  intro hc52
  refine qs_ 1 rfl<|v_ rfl (k_ (C := int (l.os[y]'hlt).result) (i_ tabOk rfl rfl l0_ List.not_mem_nil rfl) rfl) hx9 rfl rfl<|qs_ 2 rfl<|R_<|b_<|p_ rfl ?_ ?_
  rotate_left
  ·intro hc56
   refine o_<|u_<|b_<|a_<|c_ (y_ rfl rfl (by simp only [InR, lo, hi]; omega)) rfl rfl ?_
   refine q_ 1 rfl<|g_ ?_
   have hok : OcR (l.os[y]'hlt) := ⟨by omega, by omega, by omega⟩
   have hri : 0 < y → (l.os[y - 1]'(by omega)).client < (l.os[y]'hlt).client := fun h => by omega
   refine D_ (y + 1) (by omega) (⟨by omega, fun j h h2 => by rcases Nat.lt_or_ge j y with h3 | h3; exact hy.2 j h h3; obtain rfl : j = y := (by omega); exact ⟨hok, hri⟩⟩) (by exact ⟨rfl, rfl, rfl, rfl, trivial⟩) (sk_ sr_)
  intro hc56
  refine d_<|a_<|q_ 1 rfl<|g_<|b_<|l_<|A_<|h_ nofun<|h_ nofun<|A_<|h_ nofun<|f_ (rs := [.tmp 2]) rfl (RV.tmp rfl RV.nil) (()) sn_<|U_ fun he => ?_
  obtain ⟨g1, g2, g3⟩ := he.os.each y hlt
  have g4 := he.os.rise y hlt
  omega
 intro hc15
 refine qs_ 1 rfl<|hx_ fun hx9 =>v_ rfl (k_ (C := .sl 3 (l.os.map Oc.abs)) (i_ tabOk rfl rfl l1_ List.not_mem_nil rfl) rfl) hx9 rfl rfl<|qs_ 1 rfl<|v_ rfl (bc_ rfl rfl (by simp only [InR, lo, hi]; omega)) hx9 rfl rfl ?_
 refine v_ rfl (H_ (q := y - 1) tabOk Tryz.underlying28 rfl rfl rfl (by omega) (aw_ (by omega)) rfl rfl) hx9 rfl rfl ?_
 refine v_ rfl (aR_ tabOk rfl rfl rfl rfl rfl) (by simp) rfl rfl ?_
 refine v_ rfl (k_ (C := int (l.os[y - 1]'(by omega)).client) (bs_ tabOk rfl rfl rfl) rfl) hx9 rfl rfl ?_
 refine qs_ 1 rfl<|v_ rfl (k_ (C := int (l.os[y]'hlt).client) (i_ tabOk rfl rfl l0_ List.not_mem_nil rfl) rfl) hx9 rfl rfl<|qs_ 3 rfl<|aM_ (t := 27) rfl ?_ ?_
 ·intro hc27
  refine qs_ 29 rfl<|R_<|b_<|K_ rfl<|d_<|a_<|q_ 1 rfl<|g_<|b_<|l_<|A_<|h_ nofun<|h_ nofun<|A_<|h_ nofun<|f_ (rs := [.tmp 2]) rfl (RV.tmp rfl RV.nil) (()) sn_<|U_ fun he => ?_
  obtain ⟨g1, g2, g3⟩ := he.os.each y hlt
  have g4 := he.os.rise y hlt
  omega
 intro hc27
 refine qs_ 1 rfl<|v_ rfl (k_ (C := int (l.os[y]'hlt).client) (i_ tabOk rfl rfl l0_ List.not_mem_nil rfl) rfl) hx9 rfl rfl<|qs_ 3 rfl<|aM_ (t := 32) rfl ?_ ?_
 ·intro hc32
  refine qs_ 24 rfl<|R_<|b_<|K_ rfl<|d_<|a_<|q_ 1 rfl<|g_<|b_<|l_<|A_<|h_ nofun<|h_ nofun<|A_<|h_ nofun<|f_ (rs := [.tmp 2]) rfl (RV.tmp rfl RV.nil) (()) sn_<|U_ fun he => ?_
  obtain ⟨g1, g2, g3⟩ := he.os.each y hlt
  have g4 := he.os.rise y hlt
  omega
 intro hc32
 refine qs_ 1 rfl<|v_ rfl (k_ (C := int (l.os[y]'hlt).client) (i_ tabOk rfl rfl l0_ List.not_mem_nil rfl) rfl) hx9 rfl rfl<|qs_ 3 rfl<|aM_ (t := 37) rfl ?_ ?_
 ·intro hc37
  refine qs_ 19 rfl<|R_<|b_<|K_ rfl<|d_<|a_<|q_ 1 rfl<|g_<|b_<|l_<|A_<|h_ nofun<|h_ nofun<|A_<|h_ nofun<|f_ (rs := [.tmp 2]) rfl (RV.tmp rfl RV.nil) (()) sn_<|U_ fun he => ?_
  obtain ⟨g1, g2, g3⟩ := he.os.each y hlt
  have g4 := he.os.rise y hlt
  omega
 intro hc37
 refine qs_ 1 rfl<|v_ rfl (k_ (C := int (l.os[y]'hlt).stamp) (i_ tabOk rfl rfl l0_ List.not_mem_nil rfl) rfl) hx9 rfl rfl<|qs_ 3 rfl<|aM_ (t := 42) rfl ?_ ?_
 ·intro hc42
  refine qs_ 14 rfl<|R_<|b_<|K_ rfl<|d_<|a_<|q_ 1 rfl<|g_<|b_<|l_<|A_<|h_ nofun<|h_ nofun<|A_<|h_ nofun<|f_ (rs := [.tmp 2]) rfl (RV.tmp rfl RV.nil) (()) sn_<|U_ fun he => ?_
  obtain ⟨g1, g2, g3⟩ := he.os.each y hlt
  have g4 := he.os.rise y hlt
  omega
 intro hc42
 refine qs_ 1 rfl<|v_ rfl (k_ (C := int (l.os[y]'hlt).stamp) (i_ tabOk rfl rfl l0_ List.not_mem_nil rfl) rfl) hx9 rfl rfl<|qs_ 3 rfl<|aM_ (t := 47) rfl ?_ ?_
 ·intro hc47
  refine qs_ 9 rfl<|R_<|b_<|K_ rfl<|d_<|a_<|q_ 1 rfl<|g_<|b_<|l_<|A_<|h_ nofun<|h_ nofun<|A_<|h_ nofun<|f_ (rs := [.tmp 2]) rfl (RV.tmp rfl RV.nil) (()) sn_<|U_ fun he => ?_
  obtain ⟨g1, g2, g3⟩ := he.os.each y hlt
  have g4 := he.os.rise y hlt
  omega
 intro hc47
 refine qs_ 1 rfl<|v_ rfl (k_ (C := int (l.os[y]'hlt).result) (i_ tabOk rfl rfl l0_ List.not_mem_nil rfl) rfl) hx9 rfl rfl<|qs_ 3 rfl<|aM_ (t := 52) rfl ?_ ?_
 ·intro hc52
  refine qs_ 4 rfl<|R_<|b_<|K_ rfl<|d_<|a_<|q_ 1 rfl<|g_<|b_<|l_<|A_<|h_ nofun<|h_ nofun<|A_<|h_ nofun<|f_ (rs := [.tmp 2]) rfl (RV.tmp rfl RV.nil) (()) sn_<|U_ fun he => ?_
  obtain ⟨g1, g2, g3⟩ := he.os.each y hlt
  have g4 := he.os.rise y hlt
  omega
 intro hc52
 refine qs_ 1 rfl<|v_ rfl (k_ (C := int (l.os[y]'hlt).result) (i_ tabOk rfl rfl l0_ List.not_mem_nil rfl) rfl) hx9 rfl rfl<|qs_ 2 rfl<|R_<|b_<|p_ rfl ?_ ?_
 rotate_left
 ·intro hc56
  refine o_<|u_<|b_<|a_<|c_ (y_ rfl rfl (by simp only [InR, lo, hi]; omega)) rfl rfl ?_
  refine q_ 1 rfl<|g_ ?_
  have hok : OcR (l.os[y]'hlt) := ⟨by omega, by omega, by omega⟩
  have hri : 0 < y → (l.os[y - 1]'(by omega)).client < (l.os[y]'hlt).client := fun h => by omega
  refine D_ (y + 1) (by omega) (⟨by omega, fun j h h2 => by rcases Nat.lt_or_ge j y with h3 | h3; exact hy.2 j h h3; obtain rfl : j = y := (by omega); exact ⟨hok, hri⟩⟩) (by exact ⟨rfl, rfl, rfl, rfl, trivial⟩) (sk_ sr_)
 intro hc56
 refine d_<|a_<|q_ 1 rfl<|g_<|b_<|l_<|A_<|h_ nofun<|h_ nofun<|A_<|h_ nofun<|f_ (rs := [.tmp 2]) rfl (RV.tmp rfl RV.nil) (()) sn_<|U_ fun he => ?_
 obtain ⟨g1, g2, g3⟩ := he.os.each y hlt
 have g4 := he.os.rise y hlt
 omega
end
section
variable {l a b : Lg} {x : Ltr} {o : Oc} {k n : Int} {s : ByteArray} {c : Core} {e : Ent} {p : Nat} {es : List Ent} {e1 e2 : Value}
set_option maxHeartbeats 2000000 in
theorem jN_ (he : isIf e1) (hr : isIf e2) (hes : ∀ e ∈ es, EnIns e) (hl : l.Wf) (h1 : l.ls.length ≤ 500) (h2 : l.os.length ≤ 500) (h3 : es.length ≤ 300) (hsq : l.seq ≤ 1000000000) : Spec Tryz.prog 27 [.agg l.abs, entsR es, int n] (globs e1 e2) (fun _ : Unit => []) (fun _ => .tup [.agg (l.foldF es n).1.abs, errsR (l.foldF es n).2]) := by
 have hseq0 : -9223372036854775808 ≤ l.seq ∧ l.seq ≤ 9223372036854775807 := hl.seq
 have hseq1 := db_ n l es
 refine C_ Tryz.func27 rfl Tryz.ntmps27 rfl fun G w =>d_<|a_<|eb_ (L_ (cs := l.abs) rfl) rfl rfl fun b3=>?_
 refine eb_ (B_ tabOk rfl) rfl rfl fun b6=>?_
 refine q_ 1 rfl<|g_<|b_<|d_<|a_<|q_ 1 rfl<|c_ (E_ rfl Tryz.underlying26 (List.length_map _)) rfl rfl<|eb_ (hG_ (m := es.length) tabOk Tryz.underlying50 rfl rfl rfl rfl rfl rfl (by unfold maxLen; omega) (by rw [show Tryz.prog.bytesOf 35 = 8 by kernel_rfl]; omega)) rfl rfl fun v13=>?_
 rw [show List.replicate es.length [Abs.v (Value.int .i64 0)] = errsA n l es 0 from (List.nil_append _).symm]
 refine q_ 1 rfl<|g_<|b_<|d_<|d_<|a_<|q_ 1 rfl<|c_ (E_ rfl Tryz.underlying26 (List.length_map _)) rfl rfl<|q_ 1 rfl<|g_<|b_<|w_<|aa_ (ι := Nat) (fun z => (own 35 1 v13 (errsA n l es (z)) :: .blk b6 30 (zabs [.int .i64 0, .int .i64 0, .slice none 0 0, .slice none 0 0]) :: .blk b3 30 (Lg.goes n l (es.take (z))).1.abs :: (globs e1 e2))) (fun z => [(2, int n), (3, ptr b3), (6, ptr b6), (8, .v v13), (14, entsR es), (15, int (es.length : Nat)), (16, int (z : Nat))]) (fun z => z ≤ es.length) (fun z => es.length - z) (0) (Nat.zero_le _) (by exact ⟨rfl, rfl, rfl, rfl, rfl, rfl, rfl, trivial⟩) sr_ ?_
 intro z hz
 refine d_<|a_<|q_ 1 rfl<|g_<|b_<|d_<|p_ rfl ?_ ?_
 rotate_left
 ·intro hc17
  obtain rfl : z = es.length := by omega
  refine X_<|h_ nofun<|h_ nofun<|W_<|b_<|d_ ?_
  rw [j8_]
  have htk : es.take es.length = es := List.take_length
  rw [htk]
  refine a_<|q_ 1 rfl<|c_ (k_ (C := int (Lg.goes n l es).1.seq) (i_ tabOk rfl rfl l2_ List.not_mem_nil rfl) rfl) rfl rfl<|c_ (y_ rfl rfl (by simp only [InR, lo, hi]; omega)) rfl rfl ?_
  refine q_ 1 rfl<|e_ (m_ (L' := (l.foldF es n).1.abs) tabOk rfl rfl rfl u2_ rfl (Nat.le_of_ble_eq_true rfl) rfl rfl) rfl rfl<|g_<|b_<|d_<|a_<|c_ (k_ (C := .agg (l.foldF es n).1.abs) (x_ tabOk rfl rfl rfl l2_ List.not_mem_nil (Nat.le_of_ble_eq_true rfl)) rfl) rfl rfl<|q_ 1 rfl<|e_ (m_ (L' := (l.foldF es n).1.abs) tabOk rfl rfl rfl u1_ rfl (Nat.le_of_ble_eq_true rfl) rfl (by exact s_ rfl)) rfl rfl ?_
  refine q_ 1 rfl<|g_<|b_<|l_<|bb_ [] (t := 7) rfl rfl<|f_ (rs := [.cell 6 30, .tmp 7]) rfl (RV.cell rfl (RV.cellA tabOk rfl rfl l0_ (by rfl)) (RV.tmp rfl RV.nil)) (()) sn_ ?_
  exact rfl
 intro hc17
 have hlt : z < es.length := by omega
 have hen := hes _ (List.getElem_mem hlt)
 have hgf := dd_ n l (es.take z)
 rw [List.length_take] at hgf
 refine o_<|b_<|d_<|w_<|d_<|a_<|q_ 1 rfl<|c_ (H_ tabOk Tryz.underlying26 rfl rfl rfl rfl (aw_ (by omega)) rfl rfl) rfl rfl ?_
 refine c_ (T_ tabOk rfl rfl rfl rfl) rfl rfl<|eb_ (B_ tabOk rfl) rfl rfl fun b10=>?_
 refine q_ 1 rfl<|e_ (m_ (L' := entA (es[z]'hlt)) tabOk rfl rfl rfl u0_ rfl (Nat.le_of_ble_eq_true rfl) rfl (by exact s_ rfl)) rfl rfl ?_
 refine g_<|b_<|a_<|q_ 2 rfl<|c_ (k_ (C := .agg (Lg.goes n l (es.take (z))).1.abs) (x_ tabOk rfl rfl rfl l3_ List.not_mem_nil (Nat.le_of_ble_eq_true rfl)) rfl) rfl rfl<|c_ (k_ (C := .agg (entA (es[z]'hlt))) (x_ tabOk rfl rfl rfl l0_ List.not_mem_nil (Nat.le_of_ble_eq_true rfl)) rfl) rfl rfl<|q_ 1 rfl<|r_ (do_s (l := (Lg.goes n l (es.take (z))).1) (e := (es[z]'hlt)) (n := n) he hr hen.mask ⟨by omega, by omega⟩ (hl_ n hl) hen.a (by have := hen.text; unfold maxLen at this; omega)) Casts.refl (by kernel_rfl) rfl rfl rfl ?_
 refine ap_<|fun _=>q_ 3 rfl<|e_ (m_ (L' := (((Lg.goes n l (es.take (z))).1.doF (es[z]'hlt) n)).1.abs) tabOk rfl rfl rfl u3_ rfl (Nat.le_of_ble_eq_true rfl) rfl (by exact s_ rfl)) rfl rfl ?_
 refine c_ (a4_ (q := z) tabOk Tryz.underlying50 rfl rfl (.inl i1_) rfl rfl (by rw [h8_ (by omega)]; exact hlt) rfl rfl) rfl rfl ?_
 refine e_ (dy_ (q := z) (ys := [int (((Lg.goes n l (es.take (z))).1.doF (es[z]'hlt) n)).2]) tabOk rfl rfl rfl u1_ rfl rfl rfl (by rw [h8_ (by omega)]; exact hlt) rfl) rfl rfl ?_
 refine g_<|u_<|b_<|a_<|c_ (y_ rfl rfl (by simp only [InR, lo, hi]; omega)) rfl rfl ?_
 refine q_ 1 rfl<|g_<|D_ (z + 1) (by omega) (by omega) (by exact ⟨rfl, rfl, rfl, rfl, rfl, rfl, rfl, trivial⟩) (by rw [errs_set hlt, en_ hlt]; repeat (first | exact List.nil_sublist _ | exact List.Sublist.refl _ | apply List.Sublist.cons_cons | apply List.Sublist.cons))
end
section
variable {l : Lg} {x y : Ltr} {o q : Oc} {a b c k n : Int} {ls : List Ltr} {os : List Oc} {m : List UInt8}
theorem b1_  : Spec Tryz.prog 80 [int a, int b, int c] [] (fun _ : Unit => []) (fun _ => boo (decide (b ≤ a ∧ a ≤ c))) := by
 refine C_ Tryz.func80 rfl Tryz.ntmps80 rfl fun G w =>d_<|a_<|q_ 1 rfl<|g_<|b_<|d_<|a_<|q_ 4 rfl<|z_ (t := 10) rfl ?_ ?_
 ·intro hc10
  refine q_ 5 rfl<|g_<|b_<|l_<|f_ (rs := [.tmp 6]) rfl (RV.tmp rfl RV.nil) (()) sn_<|congrArg (fun b => Abs.v (Value.bool b)) ?_
  (rw [decide_eq_decide]; omega)
 intro hc10
 refine q_ 5 rfl<|g_<|b_<|l_<|f_ (rs := [.tmp 6]) rfl (RV.tmp rfl RV.nil) (()) sn_<|congrArg (fun b => Abs.v (Value.bool b)) ?_
 (refine (decide_eq_false ?_).symm; omega)
theorem lessL_s  : Spec Tryz.prog 78 [.agg (ltrA x), .agg (ltrA y)] [] (fun _ : Unit => []) (fun _ => boo (decide (ltB x.name y.name))) := by
 refine C_ Tryz.func78 rfl Tryz.ntmps78 rfl fun G w =>d_<|a_<|eb_ (L_ (cs := ltrA x) rfl) rfl rfl fun b2=>?_
 refine eb_ (L_ (cs := ltrA y) rfl) rfl rfl fun b3=>?_
 exact q_ 1 rfl<|g_<|b_<|d_<|a_<|q_ 1 rfl<|c_ (k_ (C := st x.name) (i_ tabOk rfl rfl l1_ List.not_mem_nil rfl) rfl) rfl rfl<|q_ 1 rfl<|c_ (k_ (C := st y.name) (i_ tabOk rfl rfl l0_ List.not_mem_nil rfl) rfl) rfl rfl<|c_ (Val.ltS rfl rfl) rfl rfl<|q_ 1 rfl<|g_<|b_<|l_<|f_ (rs := [.tmp 4]) rfl (RV.tmp rfl RV.nil) (()) sn_<|rfl
theorem lessO_s  : Spec Tryz.prog 79 [.agg o.abs, .agg q.abs] [] (fun _ : Unit => []) (fun _ => boo (decide (o.client < q.client))) := by
 refine C_ Tryz.func79 rfl Tryz.ntmps79 rfl fun G w =>d_<|a_<|eb_ (L_ (cs := o.abs) rfl) rfl rfl fun b2=>?_
 refine eb_ (L_ (cs := q.abs) rfl) rfl rfl fun b3=>?_
 exact q_ 1 rfl<|g_<|b_<|d_<|a_<|q_ 1 rfl<|c_ (k_ (C := int o.client) (i_ tabOk rfl rfl l1_ List.not_mem_nil rfl) rfl) rfl rfl<|q_ 1 rfl<|c_ (k_ (C := int q.client) (i_ tabOk rfl rfl l0_ List.not_mem_nil rfl) rfl) rfl rfl<|q_ 2 rfl<|g_<|b_<|l_<|f_ (rs := [.tmp 4]) rfl (RV.tmp rfl RV.nil) (()) sn_<|rfl
theorem eY_  : Spec Tryz.prog 83 [.agg (ltrA x)] [] (fun _ : Unit => []) (fun _ => boo (decide (LtR x))) := by
 refine C_ Tryz.func83 rfl Tryz.ntmps83 rfl fun G w =>d_<|a_<|eb_ (L_ (cs := ltrA x) rfl) rfl rfl fun b1=>?_
 refine q_ 1 rfl<|g_<|b_<|d_<|a_<|q_ 1 rfl<|c_ (k_ (C := st x.name) (i_ tabOk rfl rfl l0_ List.not_mem_nil rfl) rfl) rfl rfl<|r_ (h2_ (s := x.name)) Casts.refl (by kernel_rfl) rfl rfl rfl ?_
 refine ap_<|fun _=>q_ 1 rfl<|aC_ (t := 6) rfl ?_ ?_
 rotate_left
 ·intro hc6
  refine q_ 27 rfl<|g_<|b_<|l_<|f_ (rs := [.tmp 2]) rfl (RV.tmp rfl RV.nil) (()) sn_ ?_
  (refine U_ fun he => ?_; obtain ⟨g1, g2, g3, g4, g5, g6⟩ := he; have g7 := aB_ g4; (rw [g1] at hc6; cases hc6; done))
 intro hc6
 refine q_ 1 rfl<|c_ (k_ (C := int x.state) (i_ tabOk rfl rfl l0_ List.not_mem_nil rfl) rfl) rfl rfl<|r_ (b1_ (a := x.state) (b := 1) (c := 7)) Casts.refl (by kernel_rfl) rfl rfl rfl ?_
 refine ap_<|fun _=>q_ 2 rfl<|z_ (t := 11) rfl ?_ ?_
 rotate_left
 ·intro hc11
  refine q_ 22 rfl<|g_<|b_<|l_<|f_ (rs := [.tmp 2]) rfl (RV.tmp rfl RV.nil) (()) sn_ ?_
  (refine U_ fun he => ?_; obtain ⟨g1, g2, g3, g4, g5, g6⟩ := he; have g7 := aB_ g4; omega)
 intro hc11
 refine q_ 1 rfl<|c_ (k_ (C := int x.amount) (i_ tabOk rfl rfl l0_ List.not_mem_nil rfl) rfl) rfl rfl<|r_ (b1_ (a := x.amount) (b := 1) (c := 1099511627776)) Casts.refl (by kernel_rfl) rfl rfl rfl ?_
 refine ap_<|fun _=>q_ 2 rfl<|z_ (t := 16) rfl ?_ ?_
 rotate_left
 ·intro hc16
  refine q_ 17 rfl<|g_<|b_<|l_<|f_ (rs := [.tmp 2]) rfl (RV.tmp rfl RV.nil) (()) sn_ ?_
  (refine U_ fun he => ?_; obtain ⟨g1, g2, g3, g4, g5, g6⟩ := he; have g7 := aB_ g4; omega)
 intro hc16
 refine q_ 1 rfl<|c_ (k_ (C := int x.due) (i_ tabOk rfl rfl l0_ List.not_mem_nil rfl) rfl) rfl rfl<|r_ (b1_ (a := x.due) (b := 0) (c := 1099511627776)) Casts.refl (by kernel_rfl) rfl rfl rfl ?_
 refine ap_<|fun _=>q_ 2 rfl<|z_ (t := 21) rfl ?_ ?_
 rotate_left
 ·intro hc21
  refine q_ 12 rfl<|g_<|b_<|l_<|f_ (rs := [.tmp 2]) rfl (RV.tmp rfl RV.nil) (()) sn_ ?_
  (refine U_ fun he => ?_; obtain ⟨g1, g2, g3, g4, g5, g6⟩ := he; have g7 := aB_ g4; omega)
 intro hc21
 refine q_ 1 rfl<|c_ (k_ (C := st x.policy) (i_ tabOk rfl rfl l0_ List.not_mem_nil rfl) rfl) rfl rfl<|c_ (ag_ rfl Tryz.underlying9) rfl rfl<|q_ 3 rfl<|z_ (t := 27) rfl ?_ ?_
 ·intro hc27
  refine q_ 1 rfl<|c_ (k_ (C := st x.papers) (i_ tabOk rfl rfl l0_ List.not_mem_nil rfl) rfl) rfl rfl<|c_ (ag_ rfl Tryz.underlying9) rfl rfl<|q_ 3 rfl<|g_<|b_<|l_<|f_ (rs := [.tmp 2]) rfl (RV.tmp rfl RV.nil) (()) sn_ ?_
  (refine congrArg (fun b => Abs.v (Value.bool b)) ?_; rw [decide_eq_decide]; exact ⟨fun h => ⟨hc6, hc11, hc16, aK_ hc21.1 hc21.2, by omega, by omega⟩, fun h => by have := h.papers; omega⟩)
 intro hc27
 refine q_ 6 rfl<|g_<|b_<|l_<|f_ (rs := [.tmp 2]) rfl (RV.tmp rfl RV.nil) (()) sn_ ?_
 (refine U_ fun he => ?_; obtain ⟨g1, g2, g3, g4, g5, g6⟩ := he; have g7 := aB_ g4; omega)
theorem gh_  : Spec Tryz.prog 85 [.agg o.abs] [] (fun _ : Unit => []) (fun _ => boo (decide (OcR o))) := by
 refine C_ Tryz.func85 rfl Tryz.ntmps85 rfl fun G w =>d_<|a_<|eb_ (L_ (cs := o.abs) rfl) rfl rfl fun b1=>?_
 refine q_ 1 rfl<|g_<|b_<|d_<|a_<|q_ 1 rfl<|c_ (k_ (C := int o.client) (i_ tabOk rfl rfl l0_ List.not_mem_nil rfl) rfl) rfl rfl<|r_ (b1_ (a := o.client) (b := 0) (c := 63)) Casts.refl (by kernel_rfl) rfl rfl rfl ?_
 refine ap_<|fun _=>q_ 1 rfl<|z_ (t := 6) rfl ?_ ?_
 rotate_left
 ·intro hc6
  refine q_ 10 rfl<|g_<|b_<|l_<|f_ (rs := [.tmp 2]) rfl (RV.tmp rfl RV.nil) (()) sn_ ?_
  (refine U_ fun he => ?_; obtain ⟨g1, g2, g3⟩ := he; omega)
 intro hc6
 refine q_ 1 rfl<|c_ (k_ (C := int o.stamp) (i_ tabOk rfl rfl l0_ List.not_mem_nil rfl) rfl) rfl rfl<|r_ (b1_ (a := o.stamp) (b := 1) (c := 1099511627776)) Casts.refl (by kernel_rfl) rfl rfl rfl ?_
 refine ap_<|fun _=>q_ 2 rfl<|z_ (t := 11) rfl ?_ ?_
 rotate_left
 ·intro hc11
  refine q_ 5 rfl<|g_<|b_<|l_<|f_ (rs := [.tmp 2]) rfl (RV.tmp rfl RV.nil) (()) sn_ ?_
  (refine U_ fun he => ?_; obtain ⟨g1, g2, g3⟩ := he; omega)
 intro hc11
 refine q_ 1 rfl<|c_ (k_ (C := int o.result) (i_ tabOk rfl rfl l0_ List.not_mem_nil rfl) rfl) rfl rfl<|r_ (b1_ (a := o.result) (b := 0) (c := 99)) Casts.refl (by kernel_rfl) rfl rfl rfl ?_
 refine ap_<|fun _=>q_ 2 rfl<|g_<|b_<|l_<|f_ (rs := [.tmp 2]) rfl (RV.tmp rfl RV.nil) (()) sn_ ?_
 (refine congrArg (fun b => Abs.v (Value.bool b)) ?_; rw [decide_eq_decide]; exact ⟨fun h => ⟨hc6, hc11, h⟩, fun h => h.result⟩)
set_option maxHeartbeats 1000000 in
theorem risesL_s  : Spec Tryz.prog 82 [.sl 6 (ls.map ltrA), .fn (.func 78) [] [], .fn (.func 83) [] []] [] (fun _ : Unit => []) (fun _ => boo (decide (LtsR ls))) := by
 refine C_ Tryz.func82 rfl Tryz.ntmps82 rfl fun G w =>d_<|a_<|q_ 1 rfl<|g_<|b_<|d_<|d_<|a_<|q_ 1 rfl<|c_ (E_ rfl Tryz.underlying27 (List.length_map _)) rfl rfl<|q_ 1 rfl<|g_<|b_<|w_<|bp_ (i := 9) rfl fun hrow => ?_
 rw [List.length_map] at hrow
 unfold maxLen at hrow
 refine aa_ (ι := Nat) (fun z => []) (fun z => [(0, .sl 6 (ls.map ltrA)), (1, .fn (.func 78) [] []), (2, .fn (.func 83) [] []), (9, .sl 6 (ls.map ltrA)), (10, int (ls.length : Nat)), (11, int (z : Nat))]) (fun z => z ≤ ls.length ∧ ∀ j (h : j < ls.length), j < z → LtR ls[j] ∧ (0 < j → ltB (ls[j - 1]'(by omega)).name ls[j].name)) (fun z => ls.length - z) (0) (⟨Nat.zero_le _, fun j h h2 => by omega⟩) (by exact ⟨rfl, rfl, rfl, rfl, rfl, rfl, trivial⟩) sn_ ?_
 intro z hz
 refine d_<|a_<|q_ 1 rfl<|g_<|b_<|d_<|p_ rfl ?_ ?_
 rotate_left
 ·intro hc12
  refine X_<|h_ nofun<|h_ nofun<|W_<|b_<|d_<|a_<|q_ 1 rfl<|g_<|b_<|l_<|f_ (rs := [.tmp 6]) rfl (RV.tmp rfl RV.nil) (()) sn_<|congrArg (fun b => Abs.v (Value.bool b)) (Eq.symm (decide_eq_true ?_))
  exact ⟨fun j h => (hz.2 j h (by omega)).1, fun j h => (hz.2 j h (by omega)).2⟩
 intro hc12
 have hlt : z < ls.length := by omega
 refine o_<|b_<|d_<|w_<|d_<|a_<|q_ 1 rfl<|c_ (H_ tabOk Tryz.underlying27 rfl rfl rfl rfl (aw_ (by omega)) rfl rfl) rfl rfl ?_
 refine c_ (T_ tabOk rfl rfl rfl rfl) rfl rfl<|eb_ (B_ tabOk rfl) rfl rfl fun b8=>?_
 refine q_ 1 rfl<|e_ (m_ (L' := ltrA (ls[z]'hlt)) tabOk rfl rfl rfl u0_ rfl (Nat.le_of_ble_eq_true rfl) rfl (by exact s_ rfl)) rfl rfl ?_
 refine g_<|b_<|d_<|Y_ [] (.q 0 (.q 1 (.q 2 (.q 3 (.q 4 (.q 5 (.q 6 (.q 7 (.q 8 (.q 9 (.e 10 (.q 11 (.q 12 (.q 13 (.q 14 (.q 15 (.e 16 (.q 17 (.q 18 .nil))))))))))))))))))) (by kernel_rfl) (by kernel_rfl) ?_
 refine qs_ 3 rfl<|aM_ (t := 18) rfl ?_ ?_
 rotate_left
 ·intro hc18
  iterate 7 refine cY_ rfl rfl rfl ?_
  refine dh_ rfl rfl rfl<|qs_ 4 rfl<|hx_ fun hx9 =>v_ rfl (k_ (C := .agg (ltrA (ls[z]'hlt))) (x_ tabOk rfl rfl rfl l0_ List.not_mem_nil (Nat.le_of_ble_eq_true rfl)) rfl) hx9 rfl rfl<|aS_ rfl (eY_ (x := (ls[z]'hlt))) (by simp [mids, It.mids]) rfl Casts.refl (by kernel_rfl) rfl rfl rfl ?_
  refine ap_<|fun _=>v_ rfl (aD_ rfl) (by simp) rfl rfl ?_
  refine qs_ 1 rfl<|R_<|b_<|p_ rfl ?_ ?_
  rotate_left
  ·intro hc34
   refine o_<|u_<|b_<|a_<|c_ (y_ rfl rfl (by simp only [InR, lo, hi]; omega)) rfl rfl ?_
   refine q_ 1 rfl<|g_<|D_ (z + 1) (by omega) (⟨by omega, fun j h h2 => by rcases Nat.lt_or_ge j z with h3 | h3; exact hz.2 j h h3; obtain rfl : j = z := (by omega); exact ⟨Classical.not_not.1 hc34, fun h0 => by omega⟩⟩) (by exact ⟨rfl, rfl, rfl, rfl, rfl, rfl, trivial⟩) sn_
  intro hc34
  refine d_<|a_<|q_ 1 rfl<|g_<|b_<|l_<|A_<|h_ nofun<|h_ nofun<|A_<|h_ nofun<|f_ (rs := [.tmp 6]) rfl (RV.tmp rfl RV.nil) (()) sn_<|U_ fun he => ?_
  have g1 := he.each z hlt
  have g2 := he.rise z hlt
  exact hc34 g1
 intro hc18
 refine qs_ 3 rfl<|hx_ fun hx9 =>v_ rfl (bc_ rfl rfl (by simp only [InR, lo, hi]; omega)) hx9 rfl rfl ?_
 refine v_ rfl (H_ (q := z - 1) tabOk Tryz.underlying27 rfl rfl rfl (by omega) (aw_ (by omega)) rfl rfl) hx9 rfl rfl ?_
 refine v_ rfl (k_ (C := .agg (ltrA (ls[z - 1]'(by omega)))) (T_ tabOk rfl rfl rfl rfl) rfl) hx9 rfl rfl ?_
 refine v_ rfl (k_ (C := .agg (ltrA (ls[z]'hlt))) (x_ tabOk rfl rfl rfl l0_ List.not_mem_nil (Nat.le_of_ble_eq_true rfl)) rfl) hx9 rfl rfl<|aS_ rfl (lessL_s (x := (ls[z - 1]'(by omega))) (y := (ls[z]'hlt))) (by simp [mids, It.mids]) rfl Casts.refl (by kernel_rfl) rfl rfl rfl ?_
 refine ap_<|fun _=>v_ rfl (aD_ rfl) (by simp) rfl rfl ?_
 refine qs_ 2 rfl<|aM_ (t := 29) rfl ?_ ?_
 ·intro hc29
  iterate 2 refine cY_ rfl rfl rfl ?_
  refine dh_ rfl rfl rfl<|qs_ 2 rfl<|R_<|b_<|K_ rfl<|d_<|a_<|q_ 1 rfl<|g_<|b_<|l_<|A_<|h_ nofun<|h_ nofun<|A_<|h_ nofun<|f_ (rs := [.tmp 6]) rfl (RV.tmp rfl RV.nil) (()) sn_<|U_ fun he => ?_
  have g1 := he.each z hlt
  have g2 := he.rise z hlt
  exact hc29 (g2 (by omega))
 intro hc29
 refine qs_ 1 rfl<|hx_ fun hx9 =>v_ rfl (k_ (C := .agg (ltrA (ls[z]'hlt))) (x_ tabOk rfl rfl rfl l0_ List.not_mem_nil (Nat.le_of_ble_eq_true rfl)) rfl) hx9 rfl rfl<|aS_ rfl (eY_ (x := (ls[z]'hlt))) (by simp [mids, It.mids]) rfl Casts.refl (by kernel_rfl) rfl rfl rfl ?_
 refine ap_<|fun _=>v_ rfl (aD_ rfl) (by simp) rfl rfl ?_
 refine qs_ 1 rfl<|R_<|b_<|p_ rfl ?_ ?_
 rotate_left
 ·intro hc34
  refine o_<|u_<|b_<|a_<|c_ (y_ rfl rfl (by simp only [InR, lo, hi]; omega)) rfl rfl ?_
  refine q_ 1 rfl<|g_<|D_ (z + 1) (by omega) (⟨by omega, fun j h h2 => by rcases Nat.lt_or_ge j z with h3 | h3; exact hz.2 j h h3; obtain rfl : j = z := (by omega); exact ⟨Classical.not_not.1 hc34, fun h0 => by exact Classical.not_not.1 hc29⟩⟩) (by exact ⟨rfl, rfl, rfl, rfl, rfl, rfl, trivial⟩) sn_
 intro hc34
 refine d_<|a_<|q_ 1 rfl<|g_<|b_<|l_<|A_<|h_ nofun<|h_ nofun<|A_<|h_ nofun<|f_ (rs := [.tmp 6]) rfl (RV.tmp rfl RV.nil) (()) sn_<|U_ fun he => ?_
 have g1 := he.each z hlt
 have g2 := he.rise z hlt
 exact hc34 g1
set_option maxHeartbeats 1000000 in
theorem risesO_s  : Spec Tryz.prog 84 [.sl 3 (os.map Oc.abs), .fn (.func 79) [] [], .fn (.func 85) [] []] [] (fun _ : Unit => []) (fun _ => boo (decide (OcsR os))) := by
 refine C_ Tryz.func84 rfl Tryz.ntmps84 rfl fun G w =>d_<|a_<|q_ 1 rfl<|g_<|b_<|d_<|d_<|a_<|q_ 1 rfl<|c_ (E_ rfl Tryz.underlying28 (List.length_map _)) rfl rfl<|q_ 1 rfl<|g_<|b_<|w_<|bp_ (i := 9) rfl fun hrow => ?_
 rw [List.length_map] at hrow
 unfold maxLen at hrow
 refine aa_ (ι := Nat) (fun z => []) (fun z => [(0, .sl 3 (os.map Oc.abs)), (1, .fn (.func 79) [] []), (2, .fn (.func 85) [] []), (9, .sl 3 (os.map Oc.abs)), (10, int (os.length : Nat)), (11, int (z : Nat))]) (fun z => z ≤ os.length ∧ ∀ j (h : j < os.length), j < z → OcR os[j] ∧ (0 < j → (os[j - 1]'(by omega)).client < os[j].client)) (fun z => os.length - z) (0) (⟨Nat.zero_le _, fun j h h2 => by omega⟩) (by exact ⟨rfl, rfl, rfl, rfl, rfl, rfl, trivial⟩) sn_ ?_
 intro z hz
 refine d_<|a_<|q_ 1 rfl<|g_<|b_<|d_<|p_ rfl ?_ ?_
 rotate_left
 ·intro hc12
  refine X_<|h_ nofun<|h_ nofun<|W_<|b_<|d_<|a_<|q_ 1 rfl<|g_<|b_<|l_<|f_ (rs := [.tmp 6]) rfl (RV.tmp rfl RV.nil) (()) sn_<|congrArg (fun b => Abs.v (Value.bool b)) (Eq.symm (decide_eq_true ?_))
  exact ⟨fun j h => (hz.2 j h (by omega)).1, fun j h => (hz.2 j h (by omega)).2⟩
 intro hc12
 have hlt : z < os.length := by omega
 refine o_<|b_<|d_<|w_<|d_<|a_<|q_ 1 rfl<|c_ (H_ tabOk Tryz.underlying28 rfl rfl rfl rfl (aw_ (by omega)) rfl rfl) rfl rfl ?_
 refine c_ (T_ tabOk rfl rfl rfl rfl) rfl rfl<|eb_ (B_ tabOk rfl) rfl rfl fun b8=>?_
 refine q_ 1 rfl<|e_ (m_ (L' := Oc.abs (os[z]'hlt)) tabOk rfl rfl rfl u0_ rfl (Nat.le_of_ble_eq_true rfl) rfl (by exact s_ rfl)) rfl rfl ?_
 refine g_<|b_<|d_<|Y_ [] (.q 0 (.q 1 (.q 2 (.q 3 (.q 4 (.q 5 (.q 6 (.q 7 (.q 8 (.q 9 (.e 10 (.q 11 (.q 12 (.q 13 (.q 14 (.q 15 (.e 16 (.q 17 (.q 18 .nil))))))))))))))))))) (by kernel_rfl) (by kernel_rfl) ?_
 refine qs_ 3 rfl<|aM_ (t := 18) rfl ?_ ?_
 rotate_left
 ·intro hc18
  iterate 7 refine cY_ rfl rfl rfl ?_
  refine dh_ rfl rfl rfl<|qs_ 4 rfl<|hx_ fun hx9 =>v_ rfl (k_ (C := .agg (Oc.abs (os[z]'hlt))) (x_ tabOk rfl rfl rfl l0_ List.not_mem_nil (Nat.le_of_ble_eq_true rfl)) rfl) hx9 rfl rfl<|aS_ rfl (gh_ (o := (os[z]'hlt))) (by simp [mids, It.mids]) rfl Casts.refl (by kernel_rfl) rfl rfl rfl ?_
  refine ap_<|fun _=>v_ rfl (aD_ rfl) (by simp) rfl rfl ?_
  refine qs_ 1 rfl<|R_<|b_<|p_ rfl ?_ ?_
  rotate_left
  ·intro hc34
   refine o_<|u_<|b_<|a_<|c_ (y_ rfl rfl (by simp only [InR, lo, hi]; omega)) rfl rfl ?_
   refine q_ 1 rfl<|g_<|D_ (z + 1) (by omega) (⟨by omega, fun j h h2 => by rcases Nat.lt_or_ge j z with h3 | h3; exact hz.2 j h h3; obtain rfl : j = z := (by omega); exact ⟨Classical.not_not.1 hc34, fun h0 => by omega⟩⟩) (by exact ⟨rfl, rfl, rfl, rfl, rfl, rfl, trivial⟩) sn_
  intro hc34
  refine d_<|a_<|q_ 1 rfl<|g_<|b_<|l_<|A_<|h_ nofun<|h_ nofun<|A_<|h_ nofun<|f_ (rs := [.tmp 6]) rfl (RV.tmp rfl RV.nil) (()) sn_<|U_ fun he => ?_
  have g1 := he.each z hlt
  have g2 := he.rise z hlt
  exact hc34 g1
 intro hc18
 refine qs_ 3 rfl<|hx_ fun hx9 =>v_ rfl (bc_ rfl rfl (by simp only [InR, lo, hi]; omega)) hx9 rfl rfl ?_
 refine v_ rfl (H_ (q := z - 1) tabOk Tryz.underlying28 rfl rfl rfl (by omega) (aw_ (by omega)) rfl rfl) hx9 rfl rfl ?_
 refine v_ rfl (k_ (C := .agg (Oc.abs (os[z - 1]'(by omega)))) (T_ tabOk rfl rfl rfl rfl) rfl) hx9 rfl rfl ?_
 refine v_ rfl (k_ (C := .agg (Oc.abs (os[z]'hlt))) (x_ tabOk rfl rfl rfl l0_ List.not_mem_nil (Nat.le_of_ble_eq_true rfl)) rfl) hx9 rfl rfl<|aS_ rfl (lessO_s (o := (os[z - 1]'(by omega))) (q := (os[z]'hlt))) (by simp [mids, It.mids]) rfl Casts.refl (by kernel_rfl) rfl rfl rfl ?_
 refine ap_<|fun _=>v_ rfl (aD_ rfl) (by simp) rfl rfl ?_
 refine qs_ 2 rfl<|aM_ (t := 29) rfl ?_ ?_
 ·intro hc29
  iterate 2 refine cY_ rfl rfl rfl ?_
  refine dh_ rfl rfl rfl<|qs_ 2 rfl<|R_<|b_<|K_ rfl<|d_<|a_<|q_ 1 rfl<|g_<|b_<|l_<|A_<|h_ nofun<|h_ nofun<|A_<|h_ nofun<|f_ (rs := [.tmp 6]) rfl (RV.tmp rfl RV.nil) (()) sn_<|U_ fun he => ?_
  have g1 := he.each z hlt
  have g2 := he.rise z hlt
  exact hc29 (g2 (by omega))
 intro hc29
 refine qs_ 1 rfl<|hx_ fun hx9 =>v_ rfl (k_ (C := .agg (Oc.abs (os[z]'hlt))) (x_ tabOk rfl rfl rfl l0_ List.not_mem_nil (Nat.le_of_ble_eq_true rfl)) rfl) hx9 rfl rfl<|aS_ rfl (gh_ (o := (os[z]'hlt))) (by simp [mids, It.mids]) rfl Casts.refl (by kernel_rfl) rfl rfl rfl ?_
 refine ap_<|fun _=>v_ rfl (aD_ rfl) (by simp) rfl rfl ?_
 refine qs_ 1 rfl<|R_<|b_<|p_ rfl ?_ ?_
 rotate_left
 ·intro hc34
  refine o_<|u_<|b_<|a_<|c_ (y_ rfl rfl (by simp only [InR, lo, hi]; omega)) rfl rfl ?_
  refine q_ 1 rfl<|g_<|D_ (z + 1) (by omega) (⟨by omega, fun j h h2 => by rcases Nat.lt_or_ge j z with h3 | h3; exact hz.2 j h h3; obtain rfl : j = z := (by omega); exact ⟨Classical.not_not.1 hc34, fun h0 => by exact Classical.not_not.1 hc29⟩⟩) (by exact ⟨rfl, rfl, rfl, rfl, rfl, rfl, trivial⟩) sn_
 intro hc34
 refine d_<|a_<|q_ 1 rfl<|g_<|b_<|l_<|A_<|h_ nofun<|h_ nofun<|A_<|h_ nofun<|f_ (rs := [.tmp 6]) rfl (RV.tmp rfl RV.nil) (()) sn_<|U_ fun he => ?_
 have g1 := he.each z hlt
 have g2 := he.rise z hlt
 exact hc34 g1
set_option maxHeartbeats 1000000 in
theorem h0_ (hl : i64ok l.total) : Spec Tryz.prog 51 [.agg l.abs] [] (fun _ : Unit => []) (fun _ => int l.chk) := by
 refine C_ Tryz.func51 rfl Tryz.ntmps51 rfl fun G w =>d_<|a_<|eb_ (L_ (cs := l.abs) rfl) rfl rfl fun b1=>?_
 refine q_ 1 rfl<|g_<|b_<|d_<|a_<|q_ 1 rfl<|g_<|b_<|d_<|a_<|q_ 1 rfl<|g_<|b_<|d_<|d_<|a_<|q_ 1 rfl<|c_ (k_ (C := int l.seq) (i_ tabOk rfl rfl l0_ List.not_mem_nil rfl) rfl) rfl rfl<|r_ (b1_ (a := l.seq) (b := 0) (c := 1048576)) Casts.refl (by kernel_rfl) rfl rfl rfl ?_
 refine ap_<|fun _=>c_ (aD_ rfl) rfl rfl<|q_ 1 rfl<|z_ (t := 9) rfl ?_ ?_
 ·intro hc9
  refine q_ 31 rfl<|g_<|b_<|K_ rfl<|d_<|a_<|q_ 1 rfl<|g_<|b_<|l_<|h_ nofun<|f_ (rs := [.tmp 2]) rfl (RV.tmp rfl RV.nil) (()) sn_ ?_
  show retA [int 2] = int (if l.Right then 0 else 2)
  rw [if_neg (fun he : l.Right => by
   obtain ⟨g1, g2, g3, g4, g5, g6⟩ := he
   omega)]
  rfl
 intro hc9
 refine q_ 1 rfl<|c_ (k_ (C := int l.total) (i_ tabOk rfl rfl l0_ List.not_mem_nil rfl) rfl) rfl rfl<|r_ (mis_s (a := l.total) hl) Casts.refl (by kernel_rfl) rfl rfl rfl ?_
 refine ap_<|fun _=>c_ (ab_ rfl) rfl rfl<|q_ 2 rfl<|aC_ (t := 15) rfl ?_ ?_
 ·intro hc15
  refine q_ 25 rfl<|g_<|b_<|K_ rfl<|d_<|a_<|q_ 1 rfl<|g_<|b_<|l_<|h_ nofun<|f_ (rs := [.tmp 2]) rfl (RV.tmp rfl RV.nil) (()) sn_ ?_
  show retA [int 2] = int (if l.Right then 0 else 2)
  rw [if_neg (fun he : l.Right => by
   obtain ⟨g1, g2, g3, g4, g5, g6⟩ := he
   (rw [g3] at hc15; cases hc15; done))]
  rfl
 intro hc15
 refine q_ 1 rfl<|c_ (k_ (C := .sl 6 (l.ls.map ltrA)) (i_ tabOk rfl rfl l0_ List.not_mem_nil rfl) rfl) rfl rfl<|c_ (E_ rfl Tryz.underlying27 (List.length_map _)) rfl rfl<|q_ 3 rfl<|z_ (t := 21) rfl ?_ ?_
 ·intro hc21
  refine q_ 19 rfl<|g_<|b_<|K_ rfl<|d_<|a_<|q_ 1 rfl<|g_<|b_<|l_<|h_ nofun<|f_ (rs := [.tmp 2]) rfl (RV.tmp rfl RV.nil) (()) sn_ ?_
  show retA [int 2] = int (if l.Right then 0 else 2)
  rw [if_neg (fun he : l.Right => by
   obtain ⟨g1, g2, g3, g4, g5, g6⟩ := he
   omega)]
  rfl
 intro hc21
 refine q_ 1 rfl<|c_ (k_ (C := .sl 3 (l.os.map Oc.abs)) (i_ tabOk rfl rfl l0_ List.not_mem_nil rfl) rfl) rfl rfl<|c_ (E_ rfl Tryz.underlying28 (List.length_map _)) rfl rfl<|q_ 3 rfl<|z_ (t := 27) rfl ?_ ?_
 ·intro hc27
  refine q_ 13 rfl<|g_<|b_<|K_ rfl<|d_<|a_<|q_ 1 rfl<|g_<|b_<|l_<|h_ nofun<|f_ (rs := [.tmp 2]) rfl (RV.tmp rfl RV.nil) (()) sn_ ?_
  show retA [int 2] = int (if l.Right then 0 else 2)
  rw [if_neg (fun he : l.Right => by
   obtain ⟨g1, g2, g3, g4, g5, g6⟩ := he
   omega)]
  rfl
 intro hc27
 refine q_ 1 rfl<|c_ (k_ (C := .sl 6 (l.ls.map ltrA)) (i_ tabOk rfl rfl l0_ List.not_mem_nil rfl) rfl) rfl rfl<|q_ 1 rfl<|r_ (risesL_s (ls := l.ls)) Casts.refl (by kernel_rfl) rfl rfl rfl ?_
 refine ap_<|fun _=>c_ (aD_ rfl) rfl rfl<|q_ 2 rfl<|z_ (t := 34) rfl ?_ ?_
 ·intro hc34
  refine q_ 6 rfl<|g_<|b_<|K_ rfl<|d_<|a_<|q_ 1 rfl<|g_<|b_<|l_<|h_ nofun<|f_ (rs := [.tmp 2]) rfl (RV.tmp rfl RV.nil) (()) sn_ ?_
  show retA [int 2] = int (if l.Right then 0 else 2)
  rw [if_neg (fun he : l.Right => by
   obtain ⟨g1, g2, g3, g4, g5, g6⟩ := he
   exact hc34 g5)]
  rfl
 intro hc34
 refine q_ 1 rfl<|c_ (k_ (C := .sl 3 (l.os.map Oc.abs)) (i_ tabOk rfl rfl l0_ List.not_mem_nil rfl) rfl) rfl rfl<|q_ 1 rfl<|r_ (risesO_s (os := l.os)) Casts.refl (by kernel_rfl) rfl rfl rfl ?_
 refine ap_<|fun _=>c_ (aD_ rfl) rfl rfl<|q_ 1 rfl<|g_<|b_<|p_ rfl ?_ ?_
 rotate_left
 ·intro hc40
  refine o_<|b_<|d_<|a_<|q_ 1 rfl<|g_<|b_<|l_<|f_ (rs := [.tmp 2]) rfl (RV.tmp rfl RV.nil) (()) sn_ ?_
  show retA [int 0] = int (if l.Right then 0 else 2)
  rw [if_pos (show l.Right from ⟨Classical.not_not.1 hc40, Classical.not_not.1 hc9, by simpa using hc15, by omega, Classical.not_not.1 hc34, by omega⟩)]
  rfl
 intro hc40
 refine d_<|a_<|q_ 1 rfl<|g_<|b_<|l_<|h_ nofun<|f_ (rs := [.tmp 2]) rfl (RV.tmp rfl RV.nil) (()) sn_ ?_
 show retA [int 2] = int (if l.Right then 0 else 2)
 rw [if_neg (fun he : l.Right => by
  obtain ⟨g1, g2, g3, g4, g5, g6⟩ := he
  exact hc40 g1)]
 rfl
end
section
variable {l : Lg} {x y : Ltr} {o q : Oc} {a b c k n : Int} {ls : List Ltr} {os : List Oc} {m : List UInt8}
theorem bX_ {H : List UInt8} {z : Nat} (hlt : z < l.ls.length) : H ++ ltrsB (l.ls.take z) ++ beBytes (tx (l.ls[z]'hlt).name).length 4 ++ tx (l.ls[z]'hlt).name ++ beBytes (u64 (l.ls[z]'hlt).state) 1 ++ beBytes (u64 (l.ls[z]'hlt).amount) 8 ++ beBytes (u64 (l.ls[z]'hlt).due) 8 ++ beBytes (tx (l.ls[z]'hlt).policy).length 4 ++ tx (l.ls[z]'hlt).policy ++ beBytes (tx (l.ls[z]'hlt).papers).length 4 ++ tx (l.ls[z]'hlt).papers = H ++ ltrsB (l.ls.take (z + 1)) := by
  rw [List.take_succ_eq_append_getElem hlt]
  unfold ltrsB
  rw [List.flatMap_append]
  simp [ltrByt]
theorem hT_ {H : List UInt8} {z : Nat} (hlt : z < l.os.length) : H ++ ocsB (l.os.take z) ++ beBytes (u64 (l.os[z]'hlt).client) 1 ++ beBytes (u64 (l.os[z]'hlt).stamp) 8 ++ beBytes (u64 (l.os[z]'hlt).result) 1 = H ++ ocsB (l.os.take (z + 1)) := by
  rw [List.take_succ_eq_append_getElem hlt]
  unfold ocsB
  rw [List.flatMap_append]
  simp [Oc.bytes]
theorem gk_ (h : LtR x) : x.name.size ≤ 16 ∧ x.policy.size ≤ 200 ∧ x.papers.size ≤ 200 := by
  have := h.name
  unfold nameB at this
  simp only [Bool.and_eq_true, decide_eq_true_eq] at this
  exact ⟨by omega, h.policy, h.papers⟩
theorem dJ_ (a : Int) : u64 a < 18446744073709551616 := by
  unfold u64
  omega
theorem gj_ (hl : m.length ≤ 100000000) : Spec Tryz.prog 52 [byt m, int a] [] (fun _ : Unit => []) (fun _ => byt (m ++ beBytes (u64 a) 8)) := by
 have hL : lots = 100000000000 := rfl
 refine C_ Tryz.func52 rfl Tryz.ntmps52 rfl fun G w =>d_<|a_<|q_ 1 rfl<|g_<|b_<|d_<|a_<|q_ 2 rfl<|c_ (aV_ rfl Tryz.underlying79 (by kernel_rfl)) rfl rfl ?_
 refine r_ (iy_ (l := m) (x := u64 a) (n := 8) (by omega) (dJ_ a) rfl) Casts.refl (by kernel_rfl) rfl rfl rfl ?_
 exact ap_<|fun _=>q_ 1 rfl<|g_<|b_<|l_<|f_ (rs := [.tmp 4]) rfl (RV.tmp rfl RV.nil) (()) sn_<|rfl
set_option maxHeartbeats 4000000 in
theorem lbytes_s (hl : i64ok l.total) : Spec Tryz.prog 30 [.agg l.abs] [] (fun _ : Unit => []) (fun _ => byt l.bytesR) := by
 have hL : lots = 100000000000 := rfl
 refine C_ Tryz.func30 rfl Tryz.ntmps30 rfl fun G w =>d_<|a_<|eb_ (L_ (cs := l.abs) rfl) rfl rfl fun b1=>?_
 refine q_ 1 rfl<|g_<|b_<|d_<|d_<|a_<|c_ (k_ (C := .agg l.abs) (x_ tabOk rfl rfl rfl l0_ List.not_mem_nil (Nat.le_of_ble_eq_true rfl)) rfl) rfl rfl<|r_ (h0_ (l := l) hl) Casts.refl (by kernel_rfl) rfl rfl rfl ?_
 refine ap_<|fun _=>q_ 1 rfl<|g_<|b_<|p_ rfl ?_ ?_
 ·intro hc11
  refine d_<|a_<|q_ 1 rfl<|g_<|b_<|l_<|h_ nofun<|fC_ (rs := [.tmp 2]) rfl (RV.tmp rfl RV.nil) (Casts.nils (s := 1) Casts.refl) (()) sn_ ?_
  rw [show l.bytesR = [] from if_neg (fun h => hc11 (if_pos h))]
  rfl
 intro hc11
 have hr : l.Right := Classical.byContradiction fun h => hc11 (by unfold Lg.chk; rw [if_neg h]; decide)
 have hl16 := hr.lsFew
 have hl4 := hr.few
 refine o_<|b_<|d_<|a_<|q_ 1 rfl<|g_<|b_<|d_<|Y_ [] (.q 0 (.q 1 (.q 2 (.q 3 (.q 5 (.q 6 (.q 8 (.q 9 (.q 10 (.q 11 (.e 4 (.e 7 (.e 12 (.q 13 .nil)))))))))))))) (by kernel_rfl) (by kernel_rfl) ?_
 refine qs_ 3 rfl<|hx_ fun hx9 =>v_ rfl (k_ (C := int l.seq) (i_ tabOk rfl rfl l0_ List.not_mem_nil rfl) rfl) hx9 rfl rfl<|qs_ 1 rfl<|v_ rfl (k_ (C := int l.total) (i_ tabOk rfl rfl l0_ List.not_mem_nil rfl) rfl) hx9 rfl rfl<|qs_ 1 rfl<|v_ rfl (k_ (C := .sl 6 (l.ls.map ltrA)) (i_ tabOk rfl rfl l0_ List.not_mem_nil rfl) rfl) hx9 rfl rfl<|v_ rfl (E_ rfl Tryz.underlying27 (List.length_map _)) (by simp) rfl rfl ?_
 refine v_ rfl (aE_ rfl Tryz.underlying79 (by kernel_rfl) (by simp only [InR, lo, hi]; omega)) (by simp) rfl rfl ?_
 refine aS_ rfl (gj_ (m := []) (a := l.seq) (by simp only [List.length_append, t_, Lg.head_length, List.length_nil, af_] at *; omega)) (by simp [mids, It.mids]) rfl (Casts.cons (fun _ _ _ h => g5_ h) Casts.refl) (by kernel_rfl) rfl rfl rfl ?_
 refine ap_<|fun _=>aS_ rfl (gj_ (m := ([] ++ beBytes (u64 l.seq) 8)) (a := l.total) (by simp only [List.length_append, t_, Lg.head_length, List.length_nil, af_] at *; omega)) (by simp [mids, It.mids]) rfl Casts.refl (by kernel_rfl) rfl rfl rfl ?_
 refine ap_<|fun _=>Q_ rfl (iy_ (l := ([] ++ beBytes (u64 l.seq) 8 ++ beBytes (u64 l.total) 8)) (x := l.ls.length) (n := 2) (by simp only [List.length_append, t_, Lg.head_length, List.length_nil, af_] at *; omega) (by omega) rfl) (by simp [mids, It.mids]) Casts.refl (by kernel_rfl) rfl rfl rfl ?_
 refine ap_<|fun _=>qs_ 1 rfl<|R_<|b_<|d_<|d_<|a_<|q_ 1 rfl<|c_ (k_ (C := .sl 6 (l.ls.map ltrA)) (i_ tabOk rfl rfl l0_ List.not_mem_nil rfl) rfl) rfl rfl<|c_ (E_ rfl Tryz.underlying27 (List.length_map _)) rfl rfl<|q_ 1 rfl<|g_<|b_<|w_<|aa_ (ι := Nat) (fun z => [.blk b1 30 l.abs]) (fun z => [(1, ptr b1), (3, .fn (.func 52) [] []), (4, byt (l.head ++ ltrsB (l.ls.take z))), (26, ltrsA l.ls), (27, int (l.ls.length : Nat)), (28, int (z : Nat))]) (fun z => z ≤ l.ls.length) (fun z => l.ls.length - z) (0) (Nat.zero_le _) ⟨rfl, rfl, congrArg (fun m => some (byt m)) (by simp [Lg.head, ltrsB]), rfl, rfl, rfl, trivial⟩ sr_ ?_
 intro z hz
 refine d_<|a_<|q_ 1 rfl<|g_<|b_<|d_<|p_ rfl ?_ ?_
 rotate_left
 ·intro hc29
  have htk : l.ls.take z = l.ls := List.take_of_length_le (by omega)
  rw [htk]
  have hq := bf_ hr.ls.all
  refine X_<|h_ nofun<|h_ nofun<|W_<|b_<|d_<|a_<|q_ 2 rfl<|c_ (k_ (C := .sl 3 (l.os.map Oc.abs)) (i_ tabOk rfl rfl l0_ List.not_mem_nil rfl) rfl) rfl rfl<|c_ (E_ rfl Tryz.underlying28 (List.length_map _)) rfl rfl<|c_ (aE_ rfl Tryz.underlying79 (by kernel_rfl) (by simp only [InR, lo, hi]; omega)) rfl rfl ?_
  refine r_ (iy_ (l := (l.head ++ ltrsB l.ls)) (x := l.os.length) (n := 2) (by simp only [List.length_append, t_, Lg.head_length, List.length_nil, af_] at *; omega) (by omega) rfl) Casts.refl (by kernel_rfl) rfl rfl rfl ?_
  refine ap_<|fun _=>q_ 1 rfl<|g_<|b_<|d_<|d_<|a_<|q_ 1 rfl<|c_ (k_ (C := .sl 3 (l.os.map Oc.abs)) (i_ tabOk rfl rfl l0_ List.not_mem_nil rfl) rfl) rfl rfl<|c_ (E_ rfl Tryz.underlying28 (List.length_map _)) rfl rfl<|q_ 1 rfl<|g_<|b_<|w_<|aa_ (ι := Nat) (fun z => [.blk b1 30 l.abs]) (fun z => [(1, ptr b1), (3, .fn (.func 52) [] []), (4, byt (l.head ++ ltrsB l.ls ++ beBytes l.os.length 2 ++ ocsB (l.os.take z))), (67, outA l.os), (68, int (l.os.length : Nat)), (69, int (z : Nat))]) (fun z => z ≤ l.os.length) (fun z => l.os.length - z) (0) (Nat.zero_le _) ⟨rfl, rfl, congrArg (fun m => some (byt m)) (by simp [ocsB]), rfl, rfl, rfl, trivial⟩ sr_ ?_
  intro z hz
  refine d_<|a_<|q_ 1 rfl<|g_<|b_<|d_<|p_ rfl ?_ ?_
  rotate_left
  ·intro hc70
   refine X_<|h_ nofun<|h_ nofun<|W_<|b_<|d_<|a_<|q_ 2 rfl<|g_<|b_<|l_<|f_ (rs := [.tmp 2]) rfl (RV.tmp rfl RV.nil) (()) sn_ ?_
   rw [show l.bytesR = l.bytes from if_pos hr, show l.bytes = (l.head ++ ltrsB l.ls ++ beBytes l.os.length 2 ++ ocsB (l.os.take z)) from by rw [List.take_of_length_le (by omega)]; rfl]
   rfl
  intro hc70
  have hlt : z < l.os.length := by omega
  have hq3 := cV_ (l.os.take z)
  have hq4 : (l.os.take z).length ≤ 4 := by rw [List.length_take]; omega
  refine o_<|b_<|d_<|w_<|d_<|a_<|c_ (H_ tabOk Tryz.underlying28 rfl rfl rfl rfl (aw_ (by omega)) rfl rfl) rfl rfl ?_
  refine c_ (T_ tabOk rfl rfl rfl rfl) rfl rfl<|eb_ (B_ tabOk rfl) rfl rfl fun b8=>?_
  refine e_ (m_ (L' := Oc.abs (l.os[z]'hlt)) tabOk rfl rfl rfl u0_ rfl (Nat.le_of_ble_eq_true rfl) rfl (by exact s_ rfl)) rfl rfl ?_
  refine g_<|b_<|d_<|Y_ [] (.q 0 (.q 1 (.q 2 (.q 3 (.q 4 (.q 6 (.q 7 (.e 5 (.e 8 (.q 9 .nil)))))))))) (by kernel_rfl) (by kernel_rfl) ?_
  refine qs_ 3 rfl<|hx_ fun hx9 =>v_ rfl (k_ (C := int (l.os[z]'hlt).client) (i_ tabOk rfl rfl l0_ List.not_mem_nil rfl) rfl) hx9 rfl rfl<|v_ rfl (aV_ rfl Tryz.underlying79 (by kernel_rfl)) hx9 rfl rfl ?_
  refine qs_ 1 rfl<|v_ rfl (k_ (C := int (l.os[z]'hlt).stamp) (i_ tabOk rfl rfl l0_ List.not_mem_nil rfl) rfl) hx9 rfl rfl<|Q_ rfl (iy_ (l := (l.head ++ ltrsB l.ls ++ beBytes l.os.length 2 ++ ocsB (l.os.take z))) (x := u64 (l.os[z]'hlt).client) (n := 1) (by simp only [List.length_append, t_, Lg.head_length, List.length_nil, af_] at *; omega) (dJ_ _) rfl) (by simp [mids, It.mids]) Casts.refl (by kernel_rfl) rfl rfl rfl ?_
  refine ap_<|fun _=>aS_ rfl (gj_ (m := ((l.head ++ ltrsB l.ls ++ beBytes l.os.length 2 ++ ocsB (l.os.take z)) ++ beBytes (u64 (l.os[z]'hlt).client) 1)) (a := (l.os[z]'hlt).stamp) (by simp only [List.length_append, t_, Lg.head_length, List.length_nil, af_] at *; omega)) (by simp [mids, It.mids]) rfl Casts.refl (by kernel_rfl) rfl rfl rfl ?_
  refine ap_<|fun _=>qs_ 1 rfl<|R_<|b_<|a_<|q_ 2 rfl<|c_ (k_ (C := int (l.os[z]'hlt).result) (i_ tabOk rfl rfl l0_ List.not_mem_nil rfl) rfl) rfl rfl<|c_ (aV_ rfl Tryz.underlying79 (by kernel_rfl)) rfl rfl ?_
  refine r_ (iy_ (l := (((l.head ++ ltrsB l.ls ++ beBytes l.os.length 2 ++ ocsB (l.os.take z)) ++ beBytes (u64 (l.os[z]'hlt).client) 1) ++ beBytes (u64 (l.os[z]'hlt).stamp) 8)) (x := u64 (l.os[z]'hlt).result) (n := 1) (by simp only [List.length_append, t_, Lg.head_length, List.length_nil, af_] at *; omega) (dJ_ _) rfl) Casts.refl (by kernel_rfl) rfl rfl rfl ?_
  refine ap_<|fun _=>q_ 1 rfl<|g_<|u_<|b_<|a_<|c_ (y_ rfl rfl (by simp only [InR, lo, hi]; omega)) rfl rfl ?_
  refine q_ 1 rfl<|g_<|D_ (z + 1) (by omega) (by omega) ⟨rfl, rfl, congrArg (fun m => some (byt m)) (hT_ hlt), rfl, rfl, rfl, trivial⟩ (sk_ sr_)
 intro hc29
 have hlt : z < l.ls.length := by omega
 obtain ⟨s1, s2, s3⟩ := gk_ (hr.ls.all _ (List.getElem_mem hlt))
 have hq := bf_ (ls := l.ls.take z) (fun x hx => hr.ls.all x (List.mem_of_mem_take hx))
 have hq2 : (l.ls.take z).length ≤ 16 := by rw [List.length_take]; omega
 refine o_<|b_<|d_<|w_<|d_<|a_<|c_ (H_ tabOk Tryz.underlying27 rfl rfl rfl rfl (aw_ (by omega)) rfl rfl) rfl rfl ?_
 refine c_ (T_ tabOk rfl rfl rfl rfl) rfl rfl<|eb_ (B_ tabOk rfl) rfl rfl fun b6=>?_
 refine e_ (m_ (L' := ltrA (l.ls[z]'hlt)) tabOk rfl rfl rfl u0_ rfl (Nat.le_of_ble_eq_true rfl) rfl (by exact s_ rfl)) rfl rfl ?_
 refine g_<|b_<|d_<|Y_ [] (.q 0 (.q 1 (.q 2 (.q 5 (.q 6 (.q 7 (.e 3 (.e 4 (.e 8 (.q 9 .nil)))))))))) (by kernel_rfl) (by kernel_rfl) ?_
 refine qs_ 2 rfl<|hx_ fun hx9 =>v_ rfl (k_ (C := st (l.ls[z]'hlt).name) (i_ tabOk rfl rfl l0_ List.not_mem_nil rfl) rfl) hx9 rfl rfl<|qs_ 1 rfl<|v_ rfl (k_ (C := int (l.ls[z]'hlt).state) (i_ tabOk rfl rfl l0_ List.not_mem_nil rfl) rfl) hx9 rfl rfl<|v_ rfl (aV_ rfl Tryz.underlying79 (by kernel_rfl)) hx9 rfl rfl ?_
 refine ex_ rfl (as_ rfl Tryz.underlying9 Tryz.underlying31 (by omega)) (by simp) rfl rfl ?_
 refine Q_ rfl (g3_ (l := (l.head ++ ltrsB (l.ls.take z))) (m := tx (l.ls[z]'hlt).name) (by simp only [List.length_append, t_, Lg.head_length, List.length_nil, af_] at *; omega) (by rw [af_]; omega)) (by simp [mids, It.mids]) Casts.refl (by kernel_rfl) rfl rfl rfl ?_
 refine ap_<|fun _=>Q_ rfl (iy_ (l := ((l.head ++ ltrsB (l.ls.take z)) ++ beBytes (tx (l.ls[z]'hlt).name).length 4 ++ tx (l.ls[z]'hlt).name)) (x := u64 (l.ls[z]'hlt).state) (n := 1) (by simp only [List.length_append, t_, Lg.head_length, List.length_nil, af_] at *; omega) (dJ_ _) rfl) (by simp [mids, It.mids]) Casts.refl (by kernel_rfl) rfl rfl rfl ?_
 refine ap_<|fun _=>qs_ 1 rfl<|R_<|b_<|d_<|Y_ [] (.q 0 (.q 1 (.q 2 (.q 3 (.q 4 (.q 6 (.q 7 (.e 5 (.e 8 (.q 9 .nil)))))))))) (by kernel_rfl) (by kernel_rfl) ?_
 refine qs_ 4 rfl<|hx_ fun hx9 =>v_ rfl (k_ (C := int (l.ls[z]'hlt).amount) (i_ tabOk rfl rfl l0_ List.not_mem_nil rfl) rfl) hx9 rfl rfl<|qs_ 1 rfl<|v_ rfl (k_ (C := int (l.ls[z]'hlt).due) (i_ tabOk rfl rfl l0_ List.not_mem_nil rfl) rfl) hx9 rfl rfl<|aS_ rfl (gj_ (m := (((l.head ++ ltrsB (l.ls.take z)) ++ beBytes (tx (l.ls[z]'hlt).name).length 4 ++ tx (l.ls[z]'hlt).name) ++ beBytes (u64 (l.ls[z]'hlt).state) 1)) (a := (l.ls[z]'hlt).amount) (by simp only [List.length_append, t_, Lg.head_length, List.length_nil, af_] at *; omega)) (by simp [mids, It.mids]) rfl Casts.refl (by kernel_rfl) rfl rfl rfl ?_
 refine ap_<|fun _=>aS_ rfl (gj_ (m := ((((l.head ++ ltrsB (l.ls.take z)) ++ beBytes (tx (l.ls[z]'hlt).name).length 4 ++ tx (l.ls[z]'hlt).name) ++ beBytes (u64 (l.ls[z]'hlt).state) 1) ++ beBytes (u64 (l.ls[z]'hlt).amount) 8)) (a := (l.ls[z]'hlt).due) (by simp only [List.length_append, t_, Lg.head_length, List.length_nil, af_] at *; omega)) (by simp [mids, It.mids]) rfl Casts.refl (by kernel_rfl) rfl rfl rfl ?_
 refine ap_<|fun _=>qs_ 1 rfl<|R_<|b_<|Y_ [] (.q 0 (.q 1 (.q 2 (.q 5 (.q 6 (.two 3 7 (.two 4 7 (.e 7 (.e 8 (.q 9 .nil))) (.e 4 (.e 8 (.q 9 .nil)))) (.e 3 (.e 4 (.e 8 (.q 9 .nil)))))))))) (by kernel_rfl) (by kernel_rfl) ?_
 refine qs_ 2 rfl<|hx_ fun hx9 =>v_ rfl (k_ (C := st (l.ls[z]'hlt).policy) (i_ tabOk rfl rfl l0_ List.not_mem_nil rfl) rfl) hx9 rfl rfl<|qs_ 1 rfl<|v_ rfl (k_ (C := st (l.ls[z]'hlt).papers) (i_ tabOk rfl rfl l0_ List.not_mem_nil rfl) rfl) hx9 rfl rfl<|ba_ ?_ ?_
 ·skip
  refine ex_ rfl (as_ rfl Tryz.underlying9 Tryz.underlying31 (by omega)) (by simp) rfl rfl ?_
  refine ba_ ?_ ?_
  ·skip
   refine Q_ rfl (g3_ (l := (((((l.head ++ ltrsB (l.ls.take z)) ++ beBytes (tx (l.ls[z]'hlt).name).length 4 ++ tx (l.ls[z]'hlt).name) ++ beBytes (u64 (l.ls[z]'hlt).state) 1) ++ beBytes (u64 (l.ls[z]'hlt).amount) 8) ++ beBytes (u64 (l.ls[z]'hlt).due) 8)) (m := tx (l.ls[z]'hlt).policy) (by simp only [List.length_append, t_, Lg.head_length, List.length_nil, af_] at *; omega) (by rw [af_]; omega)) (by simp [mids, It.mids]) Casts.refl (by kernel_rfl) rfl rfl rfl ?_
   refine ap_<|fun _=>ex_ rfl (as_ rfl Tryz.underlying9 Tryz.underlying31 (by omega)) (by simp) rfl rfl ?_
   refine Q_ rfl (g3_ (l := ((((((l.head ++ ltrsB (l.ls.take z)) ++ beBytes (tx (l.ls[z]'hlt).name).length 4 ++ tx (l.ls[z]'hlt).name) ++ beBytes (u64 (l.ls[z]'hlt).state) 1) ++ beBytes (u64 (l.ls[z]'hlt).amount) 8) ++ beBytes (u64 (l.ls[z]'hlt).due) 8) ++ beBytes (tx (l.ls[z]'hlt).policy).length 4 ++ tx (l.ls[z]'hlt).policy)) (m := tx (l.ls[z]'hlt).papers) (by simp only [List.length_append, t_, Lg.head_length, List.length_nil, af_] at *; omega) (by rw [af_]; omega)) (by simp [mids, It.mids]) Casts.refl (by kernel_rfl) rfl rfl rfl ?_
   refine ap_<|fun _=>qs_ 1 rfl<|R_<|u_<|b_<|a_<|c_ (y_ rfl rfl (by simp only [InR, lo, hi]; omega)) rfl rfl ?_
   refine q_ 1 rfl<|g_<|D_ (z + 1) (by omega) (by omega) ⟨rfl, rfl, congrArg (fun m => some (byt m)) (bX_ hlt), rfl, rfl, rfl, trivial⟩ (sk_ sr_)
  skip
  refine ex_ rfl (as_ rfl Tryz.underlying9 Tryz.underlying31 (by omega)) (by simp) rfl rfl ?_
  refine Q_ rfl (g3_ (l := (((((l.head ++ ltrsB (l.ls.take z)) ++ beBytes (tx (l.ls[z]'hlt).name).length 4 ++ tx (l.ls[z]'hlt).name) ++ beBytes (u64 (l.ls[z]'hlt).state) 1) ++ beBytes (u64 (l.ls[z]'hlt).amount) 8) ++ beBytes (u64 (l.ls[z]'hlt).due) 8)) (m := tx (l.ls[z]'hlt).policy) (by simp only [List.length_append, t_, Lg.head_length, List.length_nil, af_] at *; omega) (by rw [af_]; omega)) (by simp [mids, It.mids]) Casts.refl (by kernel_rfl) rfl rfl rfl ?_
  refine ap_<|fun _=>Q_ rfl (g3_ (l := ((((((l.head ++ ltrsB (l.ls.take z)) ++ beBytes (tx (l.ls[z]'hlt).name).length 4 ++ tx (l.ls[z]'hlt).name) ++ beBytes (u64 (l.ls[z]'hlt).state) 1) ++ beBytes (u64 (l.ls[z]'hlt).amount) 8) ++ beBytes (u64 (l.ls[z]'hlt).due) 8) ++ beBytes (tx (l.ls[z]'hlt).policy).length 4 ++ tx (l.ls[z]'hlt).policy)) (m := tx (l.ls[z]'hlt).papers) (by simp only [List.length_append, t_, Lg.head_length, List.length_nil, af_] at *; omega) (by rw [af_]; omega)) (by simp [mids, It.mids]) Casts.refl (by kernel_rfl) rfl rfl rfl ?_
  refine ap_<|fun _=>qs_ 1 rfl<|R_<|u_<|b_<|a_<|c_ (y_ rfl rfl (by simp only [InR, lo, hi]; omega)) rfl rfl ?_
  refine q_ 1 rfl<|g_<|D_ (z + 1) (by omega) (by omega) ⟨rfl, rfl, congrArg (fun m => some (byt m)) (bX_ hlt), rfl, rfl, rfl, trivial⟩ (sk_ sr_)
 skip
 refine ex_ rfl (as_ rfl Tryz.underlying9 Tryz.underlying31 (by omega)) (by simp) rfl rfl ?_
 refine ex_ rfl (as_ rfl Tryz.underlying9 Tryz.underlying31 (by omega)) (by simp) rfl rfl ?_
 refine Q_ rfl (g3_ (l := (((((l.head ++ ltrsB (l.ls.take z)) ++ beBytes (tx (l.ls[z]'hlt).name).length 4 ++ tx (l.ls[z]'hlt).name) ++ beBytes (u64 (l.ls[z]'hlt).state) 1) ++ beBytes (u64 (l.ls[z]'hlt).amount) 8) ++ beBytes (u64 (l.ls[z]'hlt).due) 8)) (m := tx (l.ls[z]'hlt).policy) (by simp only [List.length_append, t_, Lg.head_length, List.length_nil, af_] at *; omega) (by rw [af_]; omega)) (by simp [mids, It.mids]) Casts.refl (by kernel_rfl) rfl rfl rfl ?_
 refine ap_<|fun _=>Q_ rfl (g3_ (l := ((((((l.head ++ ltrsB (l.ls.take z)) ++ beBytes (tx (l.ls[z]'hlt).name).length 4 ++ tx (l.ls[z]'hlt).name) ++ beBytes (u64 (l.ls[z]'hlt).state) 1) ++ beBytes (u64 (l.ls[z]'hlt).amount) 8) ++ beBytes (u64 (l.ls[z]'hlt).due) 8) ++ beBytes (tx (l.ls[z]'hlt).policy).length 4 ++ tx (l.ls[z]'hlt).policy)) (m := tx (l.ls[z]'hlt).papers) (by simp only [List.length_append, t_, Lg.head_length, List.length_nil, af_] at *; omega) (by rw [af_]; omega)) (by simp [mids, It.mids]) Casts.refl (by kernel_rfl) rfl rfl rfl ?_
 refine ap_<|fun _=>qs_ 1 rfl<|R_<|u_<|b_<|a_<|c_ (y_ rfl rfl (by simp only [InR, lo, hi]; omega)) rfl rfl ?_
 refine q_ 1 rfl<|g_<|D_ (z + 1) (by omega) (by omega) ⟨rfl, rfl, congrArg (fun m => some (byt m)) (bX_ hlt), rfl, rfl, rfl, trivial⟩ (sk_ sr_)
set_option maxHeartbeats 4000000 in
theorem jl_ (hr : l.Right) : Spec Tryz.prog 14 [.agg l.abs] [] (fun _ : Unit => []) (fun _ => byt l.bytes) := by
 have hL : lots = 100000000000 := rfl
 have hl16 := hr.lsFew
 have hl4 := hr.few
 refine C_ Tryz.func14 rfl Tryz.ntmps14 rfl fun G w =>d_<|a_<|eb_ (L_ (cs := l.abs) rfl) rfl rfl fun b1=>?_
 refine q_ 1 rfl<|g_<|b_<|d_<|Y_ [] (.q 0 (.q 1 (.q 2 (.q 4 (.q 5 (.q 6 (.e 3 (.e 7 (.q 8 .nil))))))))) (by kernel_rfl) (by kernel_rfl) ?_
 refine qs_ 1 rfl<|hx_ fun hx9 =>v_ rfl (k_ (C := int l.seq) (i_ tabOk rfl rfl l0_ List.not_mem_nil rfl) rfl) hx9 rfl rfl<|v_ rfl (aV_ rfl Tryz.underlying79 (by kernel_rfl)) hx9 rfl rfl ?_
 refine qs_ 1 rfl<|v_ rfl (k_ (C := int l.total) (i_ tabOk rfl rfl l0_ List.not_mem_nil rfl) rfl) hx9 rfl rfl<|v_ rfl (aV_ rfl Tryz.underlying79 (by kernel_rfl)) hx9 rfl rfl ?_
 refine Q_ rfl (cK_ (l := []) (x := u64 l.seq) (n := 8) (by simp only [List.length_append, t_, Lg.head_length, List.length_nil, af_] at *; omega) rfl) (by simp [mids, It.mids]) (Casts.cons (fun _ _ _ h => g5_ h) Casts.refl) (by kernel_rfl) rfl rfl rfl ?_
 refine ap_<|fun _=>Q_ rfl (cK_ (l := ([] ++ beBytes (u64 l.seq) 8)) (x := u64 l.total) (n := 8) (by simp only [List.length_append, t_, Lg.head_length, List.length_nil, af_] at *; omega) rfl) (by simp [mids, It.mids]) Casts.refl (by kernel_rfl) rfl rfl rfl ?_
 refine ap_<|fun _=>qs_ 1 rfl<|R_<|b_<|d_<|a_<|q_ 2 rfl<|c_ (k_ (C := .sl 6 (l.ls.map ltrA)) (i_ tabOk rfl rfl l0_ List.not_mem_nil rfl) rfl) rfl rfl<|c_ (E_ rfl Tryz.underlying27 (List.length_map _)) rfl rfl<|c_ (aE_ rfl Tryz.underlying79 (by kernel_rfl) (by simp only [InR, lo, hi]; omega)) rfl rfl ?_
 refine r_ (cK_ (l := ([] ++ beBytes (u64 l.seq) 8 ++ beBytes (u64 l.total) 8)) (x := l.ls.length) (n := 2) (by simp only [List.length_append, t_, Lg.head_length, List.length_nil, af_] at *; omega) rfl) Casts.refl (by kernel_rfl) rfl rfl rfl ?_
 refine ap_<|fun _=>q_ 1 rfl<|g_<|b_<|d_<|d_<|a_<|q_ 1 rfl<|c_ (k_ (C := .sl 6 (l.ls.map ltrA)) (i_ tabOk rfl rfl l0_ List.not_mem_nil rfl) rfl) rfl rfl<|c_ (E_ rfl Tryz.underlying27 (List.length_map _)) rfl rfl<|q_ 1 rfl<|g_<|b_<|w_<|aa_ (ι := Nat) (fun z => [.blk b1 30 l.abs]) (fun z => [(1, ptr b1), (3, byt (l.head ++ ltrsB (l.ls.take z))), (23, ltrsA l.ls), (24, int (l.ls.length : Nat)), (25, int (z : Nat))]) (fun z => z ≤ l.ls.length) (fun z => l.ls.length - z) (0) (Nat.zero_le _) ⟨rfl, congrArg (fun m => some (byt m)) (by simp [Lg.head, ltrsB]), rfl, rfl, rfl, trivial⟩ sr_ ?_
 intro z hz
 refine d_<|a_<|q_ 1 rfl<|g_<|b_<|d_<|p_ rfl ?_ ?_
 rotate_left
 ·intro hc26
  have htk : l.ls.take z = l.ls := List.take_of_length_le (by omega)
  rw [htk]
  have hq := bf_ hr.ls.all
  refine X_<|h_ nofun<|h_ nofun<|W_<|b_<|d_<|a_<|q_ 2 rfl<|c_ (k_ (C := .sl 3 (l.os.map Oc.abs)) (i_ tabOk rfl rfl l0_ List.not_mem_nil rfl) rfl) rfl rfl<|c_ (E_ rfl Tryz.underlying28 (List.length_map _)) rfl rfl<|c_ (aE_ rfl Tryz.underlying79 (by kernel_rfl) (by simp only [InR, lo, hi]; omega)) rfl rfl ?_
  refine r_ (cK_ (l := (l.head ++ ltrsB l.ls)) (x := l.os.length) (n := 2) (by simp only [List.length_append, t_, Lg.head_length, List.length_nil, af_] at *; omega) rfl) Casts.refl (by kernel_rfl) rfl rfl rfl ?_
  refine ap_<|fun _=>q_ 1 rfl<|g_<|b_<|d_<|d_<|a_<|q_ 1 rfl<|c_ (k_ (C := .sl 3 (l.os.map Oc.abs)) (i_ tabOk rfl rfl l0_ List.not_mem_nil rfl) rfl) rfl rfl<|c_ (E_ rfl Tryz.underlying28 (List.length_map _)) rfl rfl<|q_ 1 rfl<|g_<|b_<|w_<|aa_ (ι := Nat) (fun z => [.blk b1 30 l.abs]) (fun z => [(1, ptr b1), (3, byt (l.head ++ ltrsB l.ls ++ beBytes l.os.length 2 ++ ocsB (l.os.take z))), (64, outA l.os), (65, int (l.os.length : Nat)), (66, int (z : Nat))]) (fun z => z ≤ l.os.length) (fun z => l.os.length - z) (0) (Nat.zero_le _) ⟨rfl, congrArg (fun m => some (byt m)) (by simp [ocsB]), rfl, rfl, rfl, trivial⟩ sr_ ?_
  intro z hz
  refine d_<|a_<|q_ 1 rfl<|g_<|b_<|d_<|p_ rfl ?_ ?_
  rotate_left
  ·intro hc67
   refine X_<|h_ nofun<|h_ nofun<|W_<|b_<|d_<|a_<|q_ 2 rfl<|g_<|b_<|l_<|f_ (rs := [.tmp 2]) rfl (RV.tmp rfl RV.nil) (()) sn_ ?_
   rw [show l.bytes = (l.head ++ ltrsB l.ls ++ beBytes l.os.length 2 ++ ocsB (l.os.take z)) from by rw [List.take_of_length_le (by omega)]; rfl]
   rfl
  intro hc67
  have hlt : z < l.os.length := by omega
  have hq3 := cV_ (l.os.take z)
  have hq4 : (l.os.take z).length ≤ 4 := by rw [List.length_take]; omega
  refine o_<|b_<|d_<|w_<|d_<|a_<|c_ (H_ tabOk Tryz.underlying28 rfl rfl rfl rfl (aw_ (by omega)) rfl rfl) rfl rfl ?_
  refine c_ (T_ tabOk rfl rfl rfl rfl) rfl rfl<|eb_ (B_ tabOk rfl) rfl rfl fun b7=>?_
  refine e_ (m_ (L' := Oc.abs (l.os[z]'hlt)) tabOk rfl rfl rfl u0_ rfl (Nat.le_of_ble_eq_true rfl) rfl (by exact s_ rfl)) rfl rfl ?_
  refine g_<|b_<|Y_ [] (.q 0 (.q 1 (.q 2 (.q 3 (.q 5 (.q 6 (.q 7 (.q 9 (.q 10 (.q 11 (.e 4 (.e 8 (.e 12 (.q 13 .nil)))))))))))))) (by kernel_rfl) (by kernel_rfl) ?_
  refine qs_ 2 rfl<|hx_ fun hx9 =>v_ rfl (k_ (C := int (l.os[z]'hlt).client) (i_ tabOk rfl rfl l0_ List.not_mem_nil rfl) rfl) hx9 rfl rfl<|v_ rfl (aV_ rfl Tryz.underlying79 (by kernel_rfl)) hx9 rfl rfl ?_
  refine qs_ 1 rfl<|v_ rfl (k_ (C := int (l.os[z]'hlt).stamp) (i_ tabOk rfl rfl l0_ List.not_mem_nil rfl) rfl) hx9 rfl rfl<|v_ rfl (aV_ rfl Tryz.underlying79 (by kernel_rfl)) hx9 rfl rfl ?_
  refine qs_ 1 rfl<|v_ rfl (k_ (C := int (l.os[z]'hlt).result) (i_ tabOk rfl rfl l0_ List.not_mem_nil rfl) rfl) hx9 rfl rfl<|v_ rfl (aV_ rfl Tryz.underlying79 (by kernel_rfl)) hx9 rfl rfl ?_
  refine Q_ rfl (cK_ (l := (l.head ++ ltrsB l.ls ++ beBytes l.os.length 2 ++ ocsB (l.os.take z))) (x := u64 (l.os[z]'hlt).client) (n := 1) (by simp only [List.length_append, t_, Lg.head_length, List.length_nil, af_] at *; omega) rfl) (by simp [mids, It.mids]) Casts.refl (by kernel_rfl) rfl rfl rfl ?_
  refine ap_<|fun _=>Q_ rfl (cK_ (l := ((l.head ++ ltrsB l.ls ++ beBytes l.os.length 2 ++ ocsB (l.os.take z)) ++ beBytes (u64 (l.os[z]'hlt).client) 1)) (x := u64 (l.os[z]'hlt).stamp) (n := 8) (by simp only [List.length_append, t_, Lg.head_length, List.length_nil, af_] at *; omega) rfl) (by simp [mids, It.mids]) Casts.refl (by kernel_rfl) rfl rfl rfl ?_
  refine ap_<|fun _=>Q_ rfl (cK_ (l := (((l.head ++ ltrsB l.ls ++ beBytes l.os.length 2 ++ ocsB (l.os.take z)) ++ beBytes (u64 (l.os[z]'hlt).client) 1) ++ beBytes (u64 (l.os[z]'hlt).stamp) 8)) (x := u64 (l.os[z]'hlt).result) (n := 1) (by simp only [List.length_append, t_, Lg.head_length, List.length_nil, af_] at *; omega) rfl) (by simp [mids, It.mids]) Casts.refl (by kernel_rfl) rfl rfl rfl ?_
  refine ap_<|fun _=>qs_ 1 rfl<|R_<|u_<|b_<|a_<|c_ (y_ rfl rfl (by simp only [InR, lo, hi]; omega)) rfl rfl ?_
  refine q_ 1 rfl<|g_<|D_ (z + 1) (by omega) (by omega) ⟨rfl, congrArg (fun m => some (byt m)) (hT_ hlt), rfl, rfl, rfl, trivial⟩ (sk_ sr_)
 intro hc26
 have hlt : z < l.ls.length := by omega
 obtain ⟨s1, s2, s3⟩ := gk_ (hr.ls.all _ (List.getElem_mem hlt))
 have hq := bf_ (ls := l.ls.take z) (fun x hx => hr.ls.all x (List.mem_of_mem_take hx))
 have hq2 : (l.ls.take z).length ≤ 16 := by rw [List.length_take]; omega
 refine o_<|b_<|d_<|w_<|d_<|a_<|c_ (H_ tabOk Tryz.underlying27 rfl rfl rfl rfl (aw_ (by omega)) rfl rfl) rfl rfl ?_
 refine c_ (T_ tabOk rfl rfl rfl rfl) rfl rfl<|eb_ (B_ tabOk rfl) rfl rfl fun b5=>?_
 refine e_ (m_ (L' := ltrA (l.ls[z]'hlt)) tabOk rfl rfl rfl u0_ rfl (Nat.le_of_ble_eq_true rfl) rfl (by exact s_ rfl)) rfl rfl ?_
 refine g_<|b_<|d_<|Y_ [] (.q 0 (.q 1 (.q 2 (.q 5 (.q 6 (.q 7 (.e 3 (.e 4 (.e 8 (.q 9 .nil)))))))))) (by kernel_rfl) (by kernel_rfl) ?_
 refine qs_ 2 rfl<|hx_ fun hx9 =>v_ rfl (k_ (C := st (l.ls[z]'hlt).name) (i_ tabOk rfl rfl l0_ List.not_mem_nil rfl) rfl) hx9 rfl rfl<|qs_ 1 rfl<|v_ rfl (k_ (C := int (l.ls[z]'hlt).state) (i_ tabOk rfl rfl l0_ List.not_mem_nil rfl) rfl) hx9 rfl rfl<|v_ rfl (aV_ rfl Tryz.underlying79 (by kernel_rfl)) hx9 rfl rfl ?_
 refine ex_ rfl (as_ rfl Tryz.underlying9 Tryz.underlying31 (by omega)) (by simp) rfl rfl ?_
 refine Q_ rfl (d4_ (l := (l.head ++ ltrsB (l.ls.take z))) (m := tx (l.ls[z]'hlt).name) (by simp only [List.length_append, t_, Lg.head_length, List.length_nil, af_] at *; omega) (by rw [af_]; omega)) (by simp [mids, It.mids]) Casts.refl (by kernel_rfl) rfl rfl rfl ?_
 refine ap_<|fun _=>Q_ rfl (cK_ (l := ((l.head ++ ltrsB (l.ls.take z)) ++ beBytes (tx (l.ls[z]'hlt).name).length 4 ++ tx (l.ls[z]'hlt).name)) (x := u64 (l.ls[z]'hlt).state) (n := 1) (by simp only [List.length_append, t_, Lg.head_length, List.length_nil, af_] at *; omega) rfl) (by simp [mids, It.mids]) Casts.refl (by kernel_rfl) rfl rfl rfl ?_
 refine ap_<|fun _=>qs_ 1 rfl<|R_<|b_<|d_<|Y_ [] (.q 0 (.q 1 (.q 2 (.q 3 (.q 5 (.q 6 (.q 7 (.e 4 (.e 8 (.q 9 .nil)))))))))) (by kernel_rfl) (by kernel_rfl) ?_
 refine qs_ 2 rfl<|hx_ fun hx9 =>v_ rfl (k_ (C := int (l.ls[z]'hlt).amount) (i_ tabOk rfl rfl l0_ List.not_mem_nil rfl) rfl) hx9 rfl rfl<|v_ rfl (aV_ rfl Tryz.underlying79 (by kernel_rfl)) hx9 rfl rfl ?_
 refine qs_ 1 rfl<|v_ rfl (k_ (C := int (l.ls[z]'hlt).due) (i_ tabOk rfl rfl l0_ List.not_mem_nil rfl) rfl) hx9 rfl rfl<|v_ rfl (aV_ rfl Tryz.underlying79 (by kernel_rfl)) hx9 rfl rfl ?_
 refine Q_ rfl (cK_ (l := (((l.head ++ ltrsB (l.ls.take z)) ++ beBytes (tx (l.ls[z]'hlt).name).length 4 ++ tx (l.ls[z]'hlt).name) ++ beBytes (u64 (l.ls[z]'hlt).state) 1)) (x := u64 (l.ls[z]'hlt).amount) (n := 8) (by simp only [List.length_append, t_, Lg.head_length, List.length_nil, af_] at *; omega) rfl) (by simp [mids, It.mids]) Casts.refl (by kernel_rfl) rfl rfl rfl ?_
 refine ap_<|fun _=>Q_ rfl (cK_ (l := ((((l.head ++ ltrsB (l.ls.take z)) ++ beBytes (tx (l.ls[z]'hlt).name).length 4 ++ tx (l.ls[z]'hlt).name) ++ beBytes (u64 (l.ls[z]'hlt).state) 1) ++ beBytes (u64 (l.ls[z]'hlt).amount) 8)) (x := u64 (l.ls[z]'hlt).due) (n := 8) (by simp only [List.length_append, t_, Lg.head_length, List.length_nil, af_] at *; omega) rfl) (by simp [mids, It.mids]) Casts.refl (by kernel_rfl) rfl rfl rfl ?_
 refine ap_<|fun _=>qs_ 1 rfl<|R_<|b_<|Y_ [] (.q 0 (.q 1 (.q 2 (.q 5 (.q 6 (.two 3 7 (.two 4 7 (.e 7 (.e 8 (.q 9 .nil))) (.e 4 (.e 8 (.q 9 .nil)))) (.e 3 (.e 4 (.e 8 (.q 9 .nil)))))))))) (by kernel_rfl) (by kernel_rfl) ?_
 refine qs_ 2 rfl<|hx_ fun hx9 =>v_ rfl (k_ (C := st (l.ls[z]'hlt).policy) (i_ tabOk rfl rfl l0_ List.not_mem_nil rfl) rfl) hx9 rfl rfl<|qs_ 1 rfl<|v_ rfl (k_ (C := st (l.ls[z]'hlt).papers) (i_ tabOk rfl rfl l0_ List.not_mem_nil rfl) rfl) hx9 rfl rfl<|ba_ ?_ ?_
 ·skip
  refine ex_ rfl (as_ rfl Tryz.underlying9 Tryz.underlying31 (by omega)) (by simp) rfl rfl ?_
  refine ba_ ?_ ?_
  ·skip
   refine Q_ rfl (d4_ (l := (((((l.head ++ ltrsB (l.ls.take z)) ++ beBytes (tx (l.ls[z]'hlt).name).length 4 ++ tx (l.ls[z]'hlt).name) ++ beBytes (u64 (l.ls[z]'hlt).state) 1) ++ beBytes (u64 (l.ls[z]'hlt).amount) 8) ++ beBytes (u64 (l.ls[z]'hlt).due) 8)) (m := tx (l.ls[z]'hlt).policy) (by simp only [List.length_append, t_, Lg.head_length, List.length_nil, af_] at *; omega) (by rw [af_]; omega)) (by simp [mids, It.mids]) Casts.refl (by kernel_rfl) rfl rfl rfl ?_
   refine ap_<|fun _=>ex_ rfl (as_ rfl Tryz.underlying9 Tryz.underlying31 (by omega)) (by simp) rfl rfl ?_
   refine Q_ rfl (d4_ (l := ((((((l.head ++ ltrsB (l.ls.take z)) ++ beBytes (tx (l.ls[z]'hlt).name).length 4 ++ tx (l.ls[z]'hlt).name) ++ beBytes (u64 (l.ls[z]'hlt).state) 1) ++ beBytes (u64 (l.ls[z]'hlt).amount) 8) ++ beBytes (u64 (l.ls[z]'hlt).due) 8) ++ beBytes (tx (l.ls[z]'hlt).policy).length 4 ++ tx (l.ls[z]'hlt).policy)) (m := tx (l.ls[z]'hlt).papers) (by simp only [List.length_append, t_, Lg.head_length, List.length_nil, af_] at *; omega) (by rw [af_]; omega)) (by simp [mids, It.mids]) Casts.refl (by kernel_rfl) rfl rfl rfl ?_
   refine ap_<|fun _=>qs_ 1 rfl<|R_<|u_<|b_<|a_<|c_ (y_ rfl rfl (by simp only [InR, lo, hi]; omega)) rfl rfl ?_
   refine q_ 1 rfl<|g_<|D_ (z + 1) (by omega) (by omega) ⟨rfl, congrArg (fun m => some (byt m)) (bX_ hlt), rfl, rfl, rfl, trivial⟩ (sk_ sr_)
  skip
  refine ex_ rfl (as_ rfl Tryz.underlying9 Tryz.underlying31 (by omega)) (by simp) rfl rfl ?_
  refine Q_ rfl (d4_ (l := (((((l.head ++ ltrsB (l.ls.take z)) ++ beBytes (tx (l.ls[z]'hlt).name).length 4 ++ tx (l.ls[z]'hlt).name) ++ beBytes (u64 (l.ls[z]'hlt).state) 1) ++ beBytes (u64 (l.ls[z]'hlt).amount) 8) ++ beBytes (u64 (l.ls[z]'hlt).due) 8)) (m := tx (l.ls[z]'hlt).policy) (by simp only [List.length_append, t_, Lg.head_length, List.length_nil, af_] at *; omega) (by rw [af_]; omega)) (by simp [mids, It.mids]) Casts.refl (by kernel_rfl) rfl rfl rfl ?_
  refine ap_<|fun _=>Q_ rfl (d4_ (l := ((((((l.head ++ ltrsB (l.ls.take z)) ++ beBytes (tx (l.ls[z]'hlt).name).length 4 ++ tx (l.ls[z]'hlt).name) ++ beBytes (u64 (l.ls[z]'hlt).state) 1) ++ beBytes (u64 (l.ls[z]'hlt).amount) 8) ++ beBytes (u64 (l.ls[z]'hlt).due) 8) ++ beBytes (tx (l.ls[z]'hlt).policy).length 4 ++ tx (l.ls[z]'hlt).policy)) (m := tx (l.ls[z]'hlt).papers) (by simp only [List.length_append, t_, Lg.head_length, List.length_nil, af_] at *; omega) (by rw [af_]; omega)) (by simp [mids, It.mids]) Casts.refl (by kernel_rfl) rfl rfl rfl ?_
  refine ap_<|fun _=>qs_ 1 rfl<|R_<|u_<|b_<|a_<|c_ (y_ rfl rfl (by simp only [InR, lo, hi]; omega)) rfl rfl ?_
  refine q_ 1 rfl<|g_<|D_ (z + 1) (by omega) (by omega) ⟨rfl, congrArg (fun m => some (byt m)) (bX_ hlt), rfl, rfl, rfl, trivial⟩ (sk_ sr_)
 skip
 refine ex_ rfl (as_ rfl Tryz.underlying9 Tryz.underlying31 (by omega)) (by simp) rfl rfl ?_
 refine ex_ rfl (as_ rfl Tryz.underlying9 Tryz.underlying31 (by omega)) (by simp) rfl rfl ?_
 refine Q_ rfl (d4_ (l := (((((l.head ++ ltrsB (l.ls.take z)) ++ beBytes (tx (l.ls[z]'hlt).name).length 4 ++ tx (l.ls[z]'hlt).name) ++ beBytes (u64 (l.ls[z]'hlt).state) 1) ++ beBytes (u64 (l.ls[z]'hlt).amount) 8) ++ beBytes (u64 (l.ls[z]'hlt).due) 8)) (m := tx (l.ls[z]'hlt).policy) (by simp only [List.length_append, t_, Lg.head_length, List.length_nil, af_] at *; omega) (by rw [af_]; omega)) (by simp [mids, It.mids]) Casts.refl (by kernel_rfl) rfl rfl rfl ?_
 refine ap_<|fun _=>Q_ rfl (d4_ (l := ((((((l.head ++ ltrsB (l.ls.take z)) ++ beBytes (tx (l.ls[z]'hlt).name).length 4 ++ tx (l.ls[z]'hlt).name) ++ beBytes (u64 (l.ls[z]'hlt).state) 1) ++ beBytes (u64 (l.ls[z]'hlt).amount) 8) ++ beBytes (u64 (l.ls[z]'hlt).due) 8) ++ beBytes (tx (l.ls[z]'hlt).policy).length 4 ++ tx (l.ls[z]'hlt).policy)) (m := tx (l.ls[z]'hlt).papers) (by simp only [List.length_append, t_, Lg.head_length, List.length_nil, af_] at *; omega) (by rw [af_]; omega)) (by simp [mids, It.mids]) Casts.refl (by kernel_rfl) rfl rfl rfl ?_
 refine ap_<|fun _=>qs_ 1 rfl<|R_<|u_<|b_<|a_<|c_ (y_ rfl rfl (by simp only [InR, lo, hi]; omega)) rfl rfl ?_
 refine q_ 1 rfl<|g_<|D_ (z + 1) (by omega) (by omega) ⟨rfl, congrArg (fun m => some (byt m)) (bX_ hlt), rfl, rfl, rfl, trivial⟩ (sk_ sr_)
end
section
variable {l : Lg} {x y : Ltr} {o q : Oc} {a b c k n : Int} {ls : List Ltr} {os : List Oc} {m : List UInt8}
variable {p : Nat} {s : Rd}
set_option maxHeartbeats 1000000 in
theorem dD_ (hl : s.l.length ≤ 1000000000) : Spec Tryz.prog 49 [ptr p] [rdA TR p s] (fun _ : Unit => [rdA TR p (Rd.l6 s)]) (fun _ => .agg (ltrA (Rd.ltr s))) := by
 have hL : lots = 100000000000 := rfl
 have n1 := Rd.row_length s 16
 have n2 := (Rd.l1 s).fixed_length 1
 have n3 := (Rd.l2 s).fixed_length 8
 have n4 := (Rd.l3 s).fixed_length 8
 have n5 := Rd.row_length (Rd.l4 s) 200
 have n6 := Rd.row_length (Rd.l5 s) 200
 have m1 : (Rd.l1 s).l.length ≤ s.l.length := n1
 have m2 : (Rd.l2 s).l.length ≤ (Rd.l1 s).l.length := n2
 have m3 : (Rd.l3 s).l.length ≤ (Rd.l2 s).l.length := n3
 have m4 : (Rd.l4 s).l.length ≤ (Rd.l3 s).l.length := n4
 have m5 : (Rd.l5 s).l.length ≤ (Rd.l4 s).l.length := n5
 have m6 : (Rd.l6 s).l.length ≤ (Rd.l5 s).l.length := n6
 refine C_ Tryz.func49 rfl Tryz.ntmps49 rfl fun G w =>d_<|a_<|eb_ (B_ tabOk rfl) rfl rfl fun b2=>?_
 refine g_<|b_<|d_<|Y_ [p] (.q 0 (.q 3 (.two 1 7 (.q 2 (.two 4 7 (.q 5 (.q 6 (.e 7 (.e 8 .nil)))) (.e 4 (.q 5 (.q 6 (.e 8 .nil)))))) (.e 1 (.q 2 (.e 4 (.q 5 (.q 6 (.e 8 .nil))))))))) (by kernel_rfl) (by kernel_rfl) ?_
 refine hx_ fun hx9 =>qx_ 2 hx9 rfl<|ba_ ?_ ?_
 ·skip
  refine Q_ rfl (dB_ (s := s) (n := 16) (by omega) (by omega)) (by simp [mids, It.mids]) Casts.refl (by kernel_rfl) rfl rfl rfl ?_
  refine J_ rfl i1_ (fun _ => rfl)<|fun _=>⟨_, u1_, hx_ fun hx9 =>v_ rfl (bn_ rfl) hx9 rfl rfl<|ba_ ?_ ?_⟩
  ·skip
   refine Q_ rfl (aY_ (s := Rd.l1 s) (n := 1) (by omega) rfl) (by simp [mids, It.mids]) Casts.refl (by kernel_rfl) rfl rfl rfl ?_
   refine J_ rfl i1_ (fun _ => rfl)<|fun _=>⟨_, u1_, hx_ fun hx9 =>v_ rfl (k_ (C := int (IntKind.i64.wrap ((Rd.l1 s).num 1 : Nat))) (az_ rfl Tryz.underlying3 (by kernel_rfl)) rfl) hx9 rfl rfl ?_⟩
   refine v_ rfl (I_ (L := [st (mkS (s.rowOut 16)), int (IntKind.i64.wrap ((Rd.l1 s).num 1 : Nat)), int 0, int 0, st ⟨#[]⟩, st ⟨#[]⟩]) tabOk rfl rfl rfl rfl) hx9 rfl rfl<|bo_ tabOk rfl rfl rfl rfl fun b3 =>ex_ rfl (m_ (L' := [st (mkS (s.rowOut 16)), int (IntKind.i64.wrap ((Rd.l1 s).num 1 : Nat)), int 0, int 0, st ⟨#[]⟩, st ⟨#[]⟩]) tabOk rfl rfl rfl u0_ rfl (Nat.le_of_ble_eq_true rfl) rfl (by exact s_ rfl)) (by simp) rfl rfl ?_
   refine R_<|b_<|d_<|a_<|q_ 1 rfl<|r_ (aY_ (s := Rd.l2 s) (n := 8) (by omega) rfl) Casts.refl (by kernel_rfl) rfl rfl rfl ?_
   refine J_ rfl i2_ (fun _ => rfl)<|fun _=>⟨_, u2_, c_ (az_ rfl Tryz.underlying2 (by kernel_rfl)) rfl rfl ?_⟩
   refine q_ 1 rfl<|r_ (aY_ (s := Rd.l3 s) (n := 8) (by omega) rfl) Casts.refl (by kernel_rfl) rfl rfl rfl ?_
   refine J_ rfl i2_ (fun _ => rfl)<|fun _=>⟨_, u2_, c_ (az_ rfl Tryz.underlying2 (by kernel_rfl)) rfl rfl ?_⟩
   refine q_ 1 rfl<|e_ (m_ (L' := [st (mkS (s.rowOut 16)), int (IntKind.i64.wrap ((Rd.l1 s).num 1 : Nat)), int (IntKind.i64.wrap ((Rd.l2 s).num 8 : Nat)), int 0, st ⟨#[]⟩, st ⟨#[]⟩]) tabOk rfl rfl rfl u0_ rfl (Nat.le_of_ble_eq_true rfl) rfl rfl) rfl rfl<|q_ 1 rfl<|e_ (m_ (L' := [st (mkS (s.rowOut 16)), int (IntKind.i64.wrap ((Rd.l1 s).num 1 : Nat)), int (IntKind.i64.wrap ((Rd.l2 s).num 8 : Nat)), int (IntKind.i64.wrap ((Rd.l3 s).num 8 : Nat)), st ⟨#[]⟩, st ⟨#[]⟩]) tabOk rfl rfl rfl u0_ rfl (Nat.le_of_ble_eq_true rfl) rfl rfl) rfl rfl<|g_<|b_<|d_<|Y_ [p, b3] (.q 0 (.q 3 (.e 1 (.q 2 (.q 6 (.e 4 (.q 5 (.e 7 (.q 8 (.e 9 .nil)))))))))) (by kernel_rfl) (by kernel_rfl) ?_
   refine hx_ fun hx9 =>qx_ 2 hx9 rfl<|Q_ rfl (dB_ (s := Rd.l4 s) (n := 200) (by omega) (by omega)) (by simp [mids, It.mids]) Casts.refl (by kernel_rfl) rfl rfl rfl ?_
   refine J_ rfl i2_ (fun _ => rfl)<|fun _=>⟨_, u2_, hx_ fun hx9 =>v_ rfl (bn_ rfl) hx9 rfl rfl<|qx_ 1 hx9 rfl<|Q_ rfl (dB_ (s := Rd.l5 s) (n := 200) (by omega) (by omega)) (by simp [mids, It.mids]) Casts.refl (by kernel_rfl) rfl rfl rfl ?_⟩
   refine J_ rfl i2_ (fun _ => rfl)<|fun _=>⟨_, u2_, hx_ fun hx9 =>v_ rfl (bn_ rfl) hx9 rfl rfl<|ex_ rfl (m_ (L' := [st (mkS (s.rowOut 16)), int (IntKind.i64.wrap ((Rd.l1 s).num 1 : Nat)), int (IntKind.i64.wrap ((Rd.l2 s).num 8 : Nat)), int (IntKind.i64.wrap ((Rd.l3 s).num 8 : Nat)), st (mkS ((Rd.l4 s).rowOut 200)), st ⟨#[]⟩]) tabOk rfl rfl rfl u0_ rfl (Nat.le_of_ble_eq_true rfl) rfl rfl) (by simp) rfl rfl ?_⟩
   refine hx_ fun hx9 =>qx_ 1 hx9 rfl<|ex_ rfl (m_ (L' := [st (mkS (s.rowOut 16)), int (IntKind.i64.wrap ((Rd.l1 s).num 1 : Nat)), int (IntKind.i64.wrap ((Rd.l2 s).num 8 : Nat)), int (IntKind.i64.wrap ((Rd.l3 s).num 8 : Nat)), st (mkS ((Rd.l4 s).rowOut 200)), st (mkS ((Rd.l5 s).rowOut 200))]) tabOk rfl rfl rfl u0_ rfl (Nat.le_of_ble_eq_true rfl) rfl rfl) (by simp) rfl rfl ?_
   refine R_<|b_<|d_<|a_<|c_ (k_ (C := .agg (ltrA (Rd.ltr s))) (x_ tabOk rfl rfl rfl l0_ List.not_mem_nil (Nat.le_of_ble_eq_true rfl)) rfl) rfl rfl<|e_ (m_ (L' := ltrA (Rd.ltr s)) tabOk rfl rfl rfl u1_ rfl (Nat.le_of_ble_eq_true rfl) rfl (by exact s_ rfl)) rfl rfl ?_
   refine g_<|b_<|l_<|f_ (rs := [.cell 2 81]) rfl (RV.cell rfl (RV.cellA tabOk rfl rfl l1_ (by rfl)) RV.nil) (()) (sk_ (sk_ sr_)) ?_
   exact rfl
  skip
  refine bo_ tabOk rfl rfl rfl rfl fun b3 =>Q_ rfl (aY_ (s := Rd.l1 s) (n := 1) (by omega) rfl) (by simp [mids, It.mids]) Casts.refl (by kernel_rfl) rfl rfl rfl ?_
  refine J_ rfl i2_ (fun _ => rfl)<|fun _=>⟨_, u2_, hx_ fun hx9 =>v_ rfl (k_ (C := int (IntKind.i64.wrap ((Rd.l1 s).num 1 : Nat))) (az_ rfl Tryz.underlying3 (by kernel_rfl)) rfl) hx9 rfl rfl ?_⟩
  refine v_ rfl (I_ (L := [st (mkS (s.rowOut 16)), int (IntKind.i64.wrap ((Rd.l1 s).num 1 : Nat)), int 0, int 0, st ⟨#[]⟩, st ⟨#[]⟩]) tabOk rfl rfl rfl rfl) hx9 rfl rfl<|ex_ rfl (m_ (L' := [st (mkS (s.rowOut 16)), int (IntKind.i64.wrap ((Rd.l1 s).num 1 : Nat)), int 0, int 0, st ⟨#[]⟩, st ⟨#[]⟩]) tabOk rfl rfl rfl u0_ rfl (Nat.le_of_ble_eq_true rfl) rfl (by exact s_ rfl)) (by simp) rfl rfl ?_
  refine R_<|b_<|d_<|a_<|q_ 1 rfl<|r_ (aY_ (s := Rd.l2 s) (n := 8) (by omega) rfl) Casts.refl (by kernel_rfl) rfl rfl rfl ?_
  refine J_ rfl i2_ (fun _ => rfl)<|fun _=>⟨_, u2_, c_ (az_ rfl Tryz.underlying2 (by kernel_rfl)) rfl rfl ?_⟩
  refine q_ 1 rfl<|r_ (aY_ (s := Rd.l3 s) (n := 8) (by omega) rfl) Casts.refl (by kernel_rfl) rfl rfl rfl ?_
  refine J_ rfl i2_ (fun _ => rfl)<|fun _=>⟨_, u2_, c_ (az_ rfl Tryz.underlying2 (by kernel_rfl)) rfl rfl ?_⟩
  refine q_ 1 rfl<|e_ (m_ (L' := [st (mkS (s.rowOut 16)), int (IntKind.i64.wrap ((Rd.l1 s).num 1 : Nat)), int (IntKind.i64.wrap ((Rd.l2 s).num 8 : Nat)), int 0, st ⟨#[]⟩, st ⟨#[]⟩]) tabOk rfl rfl rfl u0_ rfl (Nat.le_of_ble_eq_true rfl) rfl rfl) rfl rfl<|q_ 1 rfl<|e_ (m_ (L' := [st (mkS (s.rowOut 16)), int (IntKind.i64.wrap ((Rd.l1 s).num 1 : Nat)), int (IntKind.i64.wrap ((Rd.l2 s).num 8 : Nat)), int (IntKind.i64.wrap ((Rd.l3 s).num 8 : Nat)), st ⟨#[]⟩, st ⟨#[]⟩]) tabOk rfl rfl rfl u0_ rfl (Nat.le_of_ble_eq_true rfl) rfl rfl) rfl rfl<|g_<|b_<|d_<|Y_ [p, b3] (.q 0 (.q 3 (.e 1 (.q 2 (.q 6 (.e 4 (.q 5 (.e 7 (.q 8 (.e 9 .nil)))))))))) (by kernel_rfl) (by kernel_rfl) ?_
  refine hx_ fun hx9 =>qx_ 2 hx9 rfl<|Q_ rfl (dB_ (s := Rd.l4 s) (n := 200) (by omega) (by omega)) (by simp [mids, It.mids]) Casts.refl (by kernel_rfl) rfl rfl rfl ?_
  refine J_ rfl i2_ (fun _ => rfl)<|fun _=>⟨_, u2_, hx_ fun hx9 =>v_ rfl (bn_ rfl) hx9 rfl rfl<|qx_ 1 hx9 rfl<|Q_ rfl (dB_ (s := Rd.l5 s) (n := 200) (by omega) (by omega)) (by simp [mids, It.mids]) Casts.refl (by kernel_rfl) rfl rfl rfl ?_⟩
  refine J_ rfl i2_ (fun _ => rfl)<|fun _=>⟨_, u2_, hx_ fun hx9 =>v_ rfl (bn_ rfl) hx9 rfl rfl<|ex_ rfl (m_ (L' := [st (mkS (s.rowOut 16)), int (IntKind.i64.wrap ((Rd.l1 s).num 1 : Nat)), int (IntKind.i64.wrap ((Rd.l2 s).num 8 : Nat)), int (IntKind.i64.wrap ((Rd.l3 s).num 8 : Nat)), st (mkS ((Rd.l4 s).rowOut 200)), st ⟨#[]⟩]) tabOk rfl rfl rfl u0_ rfl (Nat.le_of_ble_eq_true rfl) rfl rfl) (by simp) rfl rfl ?_⟩
  refine hx_ fun hx9 =>qx_ 1 hx9 rfl<|ex_ rfl (m_ (L' := [st (mkS (s.rowOut 16)), int (IntKind.i64.wrap ((Rd.l1 s).num 1 : Nat)), int (IntKind.i64.wrap ((Rd.l2 s).num 8 : Nat)), int (IntKind.i64.wrap ((Rd.l3 s).num 8 : Nat)), st (mkS ((Rd.l4 s).rowOut 200)), st (mkS ((Rd.l5 s).rowOut 200))]) tabOk rfl rfl rfl u0_ rfl (Nat.le_of_ble_eq_true rfl) rfl rfl) (by simp) rfl rfl ?_
  refine R_<|b_<|d_<|a_<|c_ (k_ (C := .agg (ltrA (Rd.ltr s))) (x_ tabOk rfl rfl rfl l0_ List.not_mem_nil (Nat.le_of_ble_eq_true rfl)) rfl) rfl rfl<|e_ (m_ (L' := ltrA (Rd.ltr s)) tabOk rfl rfl rfl u1_ rfl (Nat.le_of_ble_eq_true rfl) rfl (by exact s_ rfl)) rfl rfl ?_
  refine g_<|b_<|l_<|f_ (rs := [.cell 2 81]) rfl (RV.cell rfl (RV.cellA tabOk rfl rfl l1_ (by rfl)) RV.nil) (()) (sk_ (sk_ sr_)) ?_
  exact rfl
 skip
 refine bo_ tabOk rfl rfl rfl rfl fun b3 =>Q_ rfl (dB_ (s := s) (n := 16) (by omega) (by omega)) (by simp [mids, It.mids]) Casts.refl (by kernel_rfl) rfl rfl rfl ?_
 refine J_ rfl i2_ (fun _ => rfl)<|fun _=>⟨_, u2_, hx_ fun hx9 =>v_ rfl (bn_ rfl) hx9 rfl rfl<|Q_ rfl (aY_ (s := Rd.l1 s) (n := 1) (by omega) rfl) (by simp [mids, It.mids]) Casts.refl (by kernel_rfl) rfl rfl rfl ?_⟩
 refine J_ rfl i2_ (fun _ => rfl)<|fun _=>⟨_, u2_, hx_ fun hx9 =>v_ rfl (k_ (C := int (IntKind.i64.wrap ((Rd.l1 s).num 1 : Nat))) (az_ rfl Tryz.underlying3 (by kernel_rfl)) rfl) hx9 rfl rfl ?_⟩
 refine v_ rfl (I_ (L := [st (mkS (s.rowOut 16)), int (IntKind.i64.wrap ((Rd.l1 s).num 1 : Nat)), int 0, int 0, st ⟨#[]⟩, st ⟨#[]⟩]) tabOk rfl rfl rfl rfl) hx9 rfl rfl<|ex_ rfl (m_ (L' := [st (mkS (s.rowOut 16)), int (IntKind.i64.wrap ((Rd.l1 s).num 1 : Nat)), int 0, int 0, st ⟨#[]⟩, st ⟨#[]⟩]) tabOk rfl rfl rfl u0_ rfl (Nat.le_of_ble_eq_true rfl) rfl (by exact s_ rfl)) (by simp) rfl rfl ?_
 refine R_<|b_<|d_<|a_<|q_ 1 rfl<|r_ (aY_ (s := Rd.l2 s) (n := 8) (by omega) rfl) Casts.refl (by kernel_rfl) rfl rfl rfl ?_
 refine J_ rfl i2_ (fun _ => rfl)<|fun _=>⟨_, u2_, c_ (az_ rfl Tryz.underlying2 (by kernel_rfl)) rfl rfl ?_⟩
 refine q_ 1 rfl<|r_ (aY_ (s := Rd.l3 s) (n := 8) (by omega) rfl) Casts.refl (by kernel_rfl) rfl rfl rfl ?_
 refine J_ rfl i2_ (fun _ => rfl)<|fun _=>⟨_, u2_, c_ (az_ rfl Tryz.underlying2 (by kernel_rfl)) rfl rfl ?_⟩
 refine q_ 1 rfl<|e_ (m_ (L' := [st (mkS (s.rowOut 16)), int (IntKind.i64.wrap ((Rd.l1 s).num 1 : Nat)), int (IntKind.i64.wrap ((Rd.l2 s).num 8 : Nat)), int 0, st ⟨#[]⟩, st ⟨#[]⟩]) tabOk rfl rfl rfl u0_ rfl (Nat.le_of_ble_eq_true rfl) rfl rfl) rfl rfl<|q_ 1 rfl<|e_ (m_ (L' := [st (mkS (s.rowOut 16)), int (IntKind.i64.wrap ((Rd.l1 s).num 1 : Nat)), int (IntKind.i64.wrap ((Rd.l2 s).num 8 : Nat)), int (IntKind.i64.wrap ((Rd.l3 s).num 8 : Nat)), st ⟨#[]⟩, st ⟨#[]⟩]) tabOk rfl rfl rfl u0_ rfl (Nat.le_of_ble_eq_true rfl) rfl rfl) rfl rfl<|g_<|b_<|d_<|Y_ [p, b3] (.q 0 (.q 3 (.e 1 (.q 2 (.q 6 (.e 4 (.q 5 (.e 7 (.q 8 (.e 9 .nil)))))))))) (by kernel_rfl) (by kernel_rfl) ?_
 refine hx_ fun hx9 =>qx_ 2 hx9 rfl<|Q_ rfl (dB_ (s := Rd.l4 s) (n := 200) (by omega) (by omega)) (by simp [mids, It.mids]) Casts.refl (by kernel_rfl) rfl rfl rfl ?_
 refine J_ rfl i2_ (fun _ => rfl)<|fun _=>⟨_, u2_, hx_ fun hx9 =>v_ rfl (bn_ rfl) hx9 rfl rfl<|qx_ 1 hx9 rfl<|Q_ rfl (dB_ (s := Rd.l5 s) (n := 200) (by omega) (by omega)) (by simp [mids, It.mids]) Casts.refl (by kernel_rfl) rfl rfl rfl ?_⟩
 refine J_ rfl i2_ (fun _ => rfl)<|fun _=>⟨_, u2_, hx_ fun hx9 =>v_ rfl (bn_ rfl) hx9 rfl rfl<|ex_ rfl (m_ (L' := [st (mkS (s.rowOut 16)), int (IntKind.i64.wrap ((Rd.l1 s).num 1 : Nat)), int (IntKind.i64.wrap ((Rd.l2 s).num 8 : Nat)), int (IntKind.i64.wrap ((Rd.l3 s).num 8 : Nat)), st (mkS ((Rd.l4 s).rowOut 200)), st ⟨#[]⟩]) tabOk rfl rfl rfl u0_ rfl (Nat.le_of_ble_eq_true rfl) rfl rfl) (by simp) rfl rfl ?_⟩
 refine hx_ fun hx9 =>qx_ 1 hx9 rfl<|ex_ rfl (m_ (L' := [st (mkS (s.rowOut 16)), int (IntKind.i64.wrap ((Rd.l1 s).num 1 : Nat)), int (IntKind.i64.wrap ((Rd.l2 s).num 8 : Nat)), int (IntKind.i64.wrap ((Rd.l3 s).num 8 : Nat)), st (mkS ((Rd.l4 s).rowOut 200)), st (mkS ((Rd.l5 s).rowOut 200))]) tabOk rfl rfl rfl u0_ rfl (Nat.le_of_ble_eq_true rfl) rfl rfl) (by simp) rfl rfl ?_
 refine R_<|b_<|d_<|a_<|c_ (k_ (C := .agg (ltrA (Rd.ltr s))) (x_ tabOk rfl rfl rfl l0_ List.not_mem_nil (Nat.le_of_ble_eq_true rfl)) rfl) rfl rfl<|e_ (m_ (L' := ltrA (Rd.ltr s)) tabOk rfl rfl rfl u1_ rfl (Nat.le_of_ble_eq_true rfl) rfl (by exact s_ rfl)) rfl rfl ?_
 refine g_<|b_<|l_<|f_ (rs := [.cell 2 81]) rfl (RV.cell rfl (RV.cellA tabOk rfl rfl l1_ (by rfl)) RV.nil) (()) (sk_ (sk_ sr_)) ?_
 exact rfl
set_option maxHeartbeats 4000000 in
theorem lparse_s (hl : m.length ≤ 10000000) : Spec Tryz.prog 29 [byt m] [] (fun _ : Unit => []) (fun _ => .tup [.agg (parseL m).1.abs, int (parseL m).2]) := by
 have hL : lots = 100000000000 := rfl
 have hof : (Rd.of m).l = m := rfl
 have q1 := (Rd.of m).fixed_length 8
 have q2 := ((Rd.of m).fixed 8).fixed_length 8
 rw [hof] at q1
 have q3 := df_ (Rd.lgH m) 16
 have q4 := e5_ (Rd.lgH m) 16
 have q5 : (Rd.lgH m).l.length ≤ m.length := by unfold Rd.lgH; omega
 have w1 := fM_ (one := Rd.ltr) gq_ ((Rd.lgH m).countN 16) ((Rd.lgH m).count 16) []
 have w2 : (Rd.lgL m).2.l.length ≤ m.length := by unfold Rd.lgL; omega
 have w3 := df_ (Rd.lgL m).2 4
 have w4 := e5_ (Rd.lgL m).2 4
 have w5 := fM_ (one := Rd.oc) gi_ ((Rd.lgL m).2.countN 4) ((Rd.lgL m).2.count 4) []
 have w6 : (Rd.lgO m).2.l.length ≤ m.length := by unfold Rd.lgO; omega
 refine C_ Tryz.func29 rfl Tryz.ntmps29 rfl fun G w =>d_<|a_<|eb_ (B_ tabOk rfl) rfl rfl fun b2=>?_
 refine q_ 1 rfl<|g_<|b_<|d_<|a_<|q_ 1 rfl<|r_ (read_s (l := m) (by omega)) Casts.refl (by kernel_rfl) rfl rfl rfl ?_
 refine bt_ (by repeat first|exact .nil|refine .blk (by repeat first|assumption|exact m0_|apply m1_) ?_|refine .rd (by repeat first|assumption|exact m0_|apply m1_) ?_|refine .pc (by repeat first|assumption|exact m0_|apply m1_) ?_|refine .rdpc (by repeat first|assumption|exact m0_|apply m1_) ?_) (fun _ => rfl) ?_
 intro p9
 refine q_ 1 rfl<|g_<|b_<|d_<|a_<|q_ 1 rfl<|r_ (aY_ (s := Rd.of m) (n := 8) (by rw [hof]; omega) rfl) Casts.refl (by kernel_rfl) rfl rfl rfl ?_
 refine J_ rfl i0_ (fun _ => rfl)<|fun _=>⟨_, u0_, c_ (k_ (C := int (IntKind.i64.wrap ((Rd.of m).num 8 : Nat))) (az_ rfl Tryz.underlying2 (by kernel_rfl)) rfl) rfl rfl ?_⟩
 refine q_ 1 rfl<|r_ (aY_ (s := (Rd.of m).fixed 8) (n := 8) (by omega) rfl) Casts.refl (by kernel_rfl) rfl rfl rfl ?_
 refine J_ rfl i0_ (fun _ => rfl)<|fun _=>⟨_, u0_, c_ (k_ (C := int (IntKind.i64.wrap (((Rd.of m).fixed 8).num 8 : Nat))) (az_ rfl Tryz.underlying2 (by kernel_rfl)) rfl) rfl rfl ?_⟩
 refine c_ (I_ (L := [int (IntKind.i64.wrap ((Rd.of m).num 8 : Nat)), int (IntKind.i64.wrap (((Rd.of m).fixed 8).num 8 : Nat)), .v (.slice none 0 0), .v (.slice none 0 0)]) tabOk rfl rfl rfl rfl) rfl rfl<|eb_ (B_ tabOk rfl) rfl rfl fun b5=>?_
 refine e_ (m_ (L' := [int (IntKind.i64.wrap ((Rd.of m).num 8 : Nat)), int (IntKind.i64.wrap (((Rd.of m).fixed 8).num 8 : Nat)), .v (.slice none 0 0), .v (.slice none 0 0)]) tabOk rfl rfl rfl u0_ rfl (Nat.le_of_ble_eq_true rfl) rfl (by exact s_ rfl)) rfl rfl ?_
 refine g_<|b_<|d_<|d_<|a_<|q_ 1 rfl<|r_ (ki_ (s := Rd.lgH m) (n := 16) (by omega)) Casts.refl (by kernel_rfl) rfl rfl rfl ?_
 refine J_ rfl i1_ (fun _ => rfl)<|fun _=>⟨_, u1_, q_ 1 rfl<|g_<|b_<|w_<|bq_ 81 6<|aa_ (ι := Rd × List Ltr × Nat × Value) (fun z => [own 81 6 z.2.2.2 (z.2.1.map ltrA), .blk b5 30 [int (IntKind.i64.wrap ((Rd.of m).num 8 : Nat)), int (IntKind.i64.wrap (((Rd.of m).fixed 8).num 8 : Nat)), .v z.2.2.2, .v (.slice none 0 0)], rdA TR p9 z.1, .blk b2 30 [int 0, int 0, .v (.slice none 0 0), .v (.slice none 0 0)]]) (fun z => [(2, ptr b2), (4, ptr p9), (5, ptr b5), (18, int (((Rd.lgH m).countN 16) : Nat)), (19, int (z.2.2.1 : Nat))]) (fun z => z.2.2.1 ≤ ((Rd.lgH m).countN 16) ∧ z.1.l.length ≤ m.length ∧ z.2.1.length = z.2.2.1 ∧ Rd.allG Rd.ltr Rd.l6 (((Rd.lgH m).countN 16) - z.2.2.1) z.1 z.2.1 = Rd.allG Rd.ltr Rd.l6 ((Rd.lgH m).countN 16) ((Rd.lgH m).count 16) []) (fun z => ((Rd.lgH m).countN 16) - z.2.2.1) (((Rd.lgH m).count 16), [], 0, .slice none 0 0) (⟨Nat.zero_le _, by dsimp only; omega, rfl, rfl⟩) (by exact ⟨rfl, rfl, rfl, rfl, rfl, trivial⟩) sr_ ?_⟩
 intro z hz
 refine d_<|a_<|q_ 1 rfl<|g_<|b_<|d_<|p_ rfl ?_ ?_
 ·intro hc20
  have n9 := gq_ z.1
  refine o_<|b_<|d_<|w_<|Y_ (z.2.2.2.ownBlock.toList ++ [p9, b5]) (.q 0 (.q 2 (.two 1 3 (.e 3 (.e 4 (.e 5 (.q 6 (.e 7 .nil))))) (.two 1 4 (.e 4 (.e 5 (.q 6 (.e 7 .nil)))) (.e 1 (.e 5 (.q 6 (.e 7 .nil)))))))) (by kernel_rfl) (by kernel_rfl) ?_
  refine hx_ fun hx9 =>qx_ 2 hx9 rfl<|ba_ ?_ ?_
  ·skip
   refine aW_ rfl (i_ tabOk rfl rfl l1_ List.not_mem_nil (by rfl)) rfl rfl ?_
   refine Q_ rfl (dD_ (s := z.1) (by omega)) (by simp [mids, It.mids]) Casts.refl (by kernel_rfl) rfl rfl rfl ?_
   refine J_ rfl i2_ (fun _ => rfl)<|fun _=>⟨_, u2_, ex_ rfl (Z_ tabOk Tryz.underlying27 rfl rfl rfl rfl rfl rfl rfl) (by simp) rfl rfl ?_⟩
   refine bC_ [b5] rfl (V_ (zs := (z.2.1 ++ [Rd.ltr z.1]).map ltrA) tabOk [] (by rw [List.map_append]; rfl) Tryz.underlying27 rfl rfl rfl rfl rfl rfl (by intro c hc; rw [List.mem_singleton] at hc; subst hc; rfl) (by unfold maxLen; simp only [List.length_map, List.length_cons, List.length_nil]; omega) (by rw [show Tryz.prog.bytesOf 81 = 72 by kernel_rfl]; simp only [List.length_map, List.length_cons, List.length_nil]; omega)) (fun k hk => List.mem_append_left _ hk) (by simp) rfl rfl ?_
   rintro _ _ ⟨r26, rfl, rfl⟩
   refine hx_ fun hx9 =>qx_ 1 hx9 rfl<|ex_ rfl (aF_ tabOk rfl rfl rfl rfl i0_ u1_ rfl rfl) (by simp) rfl rfl ?_
   refine R_<|u_<|b_<|a_<|c_ (y_ rfl rfl (by simp only [InR, lo, hi]; omega)) rfl rfl ?_
   refine q_ 1 rfl<|g_<|D_ (Rd.l6 z.1, z.2.1 ++ [Rd.ltr z.1], z.2.2.1 + 1, r26) (by (dsimp only; omega)) (⟨by dsimp only; omega, by dsimp only; omega, by dsimp only; rw [List.length_append, hz.2.2.1]; rfl, by
    rw [← hz.2.2.2]
    obtain ⟨j, hj⟩ : ∃ j, ((Rd.lgH m).countN 16) - z.2.2.1 = j + 1 := ⟨((Rd.lgH m).countN 16) - z.2.2.1 - 1, by omega⟩
    rw [hj]
    show Rd.allG Rd.ltr Rd.l6 (((Rd.lgH m).countN 16) - (z.2.2.1 + 1)) _ _ = Rd.allG Rd.ltr Rd.l6 (j + 1) _ _
    rw [show ((Rd.lgH m).countN 16) - (z.2.2.1 + 1) = j by omega]
    rfl⟩) (by exact ⟨rfl, rfl, rfl, rfl, rfl, trivial⟩) sr_
  skip
  refine Q_ rfl (dD_ (s := z.1) (by omega)) (by simp [mids, It.mids]) Casts.refl (by kernel_rfl) rfl rfl rfl ?_
  refine J_ rfl i2_ (fun _ => rfl)<|fun _=>⟨_, u2_, ba_ ?_ ?_⟩
  ·skip
   refine aW_ rfl (i_ tabOk rfl rfl l1_ List.not_mem_nil (by rfl)) rfl rfl ?_
   refine ex_ rfl (Z_ tabOk Tryz.underlying27 rfl rfl rfl rfl rfl rfl rfl) (by simp) rfl rfl ?_
   refine bC_ [b5] rfl (V_ (zs := (z.2.1 ++ [Rd.ltr z.1]).map ltrA) tabOk [] (by rw [List.map_append]; rfl) Tryz.underlying27 rfl rfl rfl rfl rfl rfl (by intro c hc; rw [List.mem_singleton] at hc; subst hc; rfl) (by unfold maxLen; simp only [List.length_map, List.length_cons, List.length_nil]; omega) (by rw [show Tryz.prog.bytesOf 81 = 72 by kernel_rfl]; simp only [List.length_map, List.length_cons, List.length_nil]; omega)) (fun k hk => List.mem_append_left _ hk) (by simp) rfl rfl ?_
   rintro _ _ ⟨r26, rfl, rfl⟩
   refine hx_ fun hx9 =>qx_ 1 hx9 rfl<|ex_ rfl (aF_ tabOk rfl rfl rfl rfl i0_ u1_ rfl rfl) (by simp) rfl rfl ?_
   refine R_<|u_<|b_<|a_<|c_ (y_ rfl rfl (by simp only [InR, lo, hi]; omega)) rfl rfl ?_
   refine q_ 1 rfl<|g_<|D_ (Rd.l6 z.1, z.2.1 ++ [Rd.ltr z.1], z.2.2.1 + 1, r26) (by (dsimp only; omega)) (⟨by dsimp only; omega, by dsimp only; omega, by dsimp only; rw [List.length_append, hz.2.2.1]; rfl, by
    rw [← hz.2.2.2]
    obtain ⟨j, hj⟩ : ∃ j, ((Rd.lgH m).countN 16) - z.2.2.1 = j + 1 := ⟨((Rd.lgH m).countN 16) - z.2.2.1 - 1, by omega⟩
    rw [hj]
    show Rd.allG Rd.ltr Rd.l6 (((Rd.lgH m).countN 16) - (z.2.2.1 + 1)) _ _ = Rd.allG Rd.ltr Rd.l6 (j + 1) _ _
    rw [show ((Rd.lgH m).countN 16) - (z.2.2.1 + 1) = j by omega]
    rfl⟩) (by exact ⟨rfl, rfl, rfl, rfl, rfl, trivial⟩) sr_
  skip
  refine ex_ rfl (Z_ tabOk Tryz.underlying27 rfl rfl rfl rfl rfl rfl rfl) (by simp) rfl rfl ?_
  refine aW_ rfl (i_ tabOk rfl rfl l1_ List.not_mem_nil (by rfl)) rfl rfl ?_
  refine bC_ [b5] rfl (V_ (zs := (z.2.1 ++ [Rd.ltr z.1]).map ltrA) tabOk [] (by rw [List.map_append]; rfl) Tryz.underlying27 rfl rfl rfl rfl rfl rfl (by intro c hc; rw [List.mem_singleton] at hc; subst hc; rfl) (by unfold maxLen; simp only [List.length_map, List.length_cons, List.length_nil]; omega) (by rw [show Tryz.prog.bytesOf 81 = 72 by kernel_rfl]; simp only [List.length_map, List.length_cons, List.length_nil]; omega)) (fun k hk => List.mem_append_left _ hk) (by simp) rfl rfl ?_
  rintro _ _ ⟨r26, rfl, rfl⟩
  refine hx_ fun hx9 =>qx_ 1 hx9 rfl<|ex_ rfl (aF_ tabOk rfl rfl rfl rfl i0_ u1_ rfl rfl) (by simp) rfl rfl ?_
  refine R_<|u_<|b_<|a_<|c_ (y_ rfl rfl (by simp only [InR, lo, hi]; omega)) rfl rfl ?_
  refine q_ 1 rfl<|g_<|D_ (Rd.l6 z.1, z.2.1 ++ [Rd.ltr z.1], z.2.2.1 + 1, r26) (by (dsimp only; omega)) (⟨by dsimp only; omega, by dsimp only; omega, by dsimp only; rw [List.length_append, hz.2.2.1]; rfl, by
   rw [← hz.2.2.2]
   obtain ⟨j, hj⟩ : ∃ j, ((Rd.lgH m).countN 16) - z.2.2.1 = j + 1 := ⟨((Rd.lgH m).countN 16) - z.2.2.1 - 1, by omega⟩
   rw [hj]
   show Rd.allG Rd.ltr Rd.l6 (((Rd.lgH m).countN 16) - (z.2.2.1 + 1)) _ _ = Rd.allG Rd.ltr Rd.l6 (j + 1) _ _
   rw [show ((Rd.lgH m).countN 16) - (z.2.2.1 + 1) = j by omega]
   rfl⟩) (by exact ⟨rfl, rfl, rfl, rfl, rfl, trivial⟩) sr_
 intro hc20
 refine X_<|h_ nofun<|h_ nofun<|W_<|b_<|d_<|d_ ?_
 have hzz : (z.2.1, z.1) = Rd.lgL m := by
  unfold Rd.lgL
  rw [← hz.2.2.2, show ((Rd.lgH m).countN 16) - z.2.2.1 = 0 by omega]
  rfl
 have hzA := congrArg Prod.fst hzz
 have hzS := congrArg Prod.snd hzz
 dsimp only at hzA hzS
 refine fe_ [] 2 rfl u0_ rfl ?_
 rw [hzA, hzS]
 refine a_<|q_ 1 rfl<|r_ (ki_ (s := (Rd.lgL m).2) (n := 4) (by omega)) Casts.refl (by kernel_rfl) rfl rfl rfl ?_
 refine J_ rfl i1_ (fun _ => rfl)<|fun _=>⟨_, u1_, q_ 1 rfl<|g_<|b_<|w_<|bq_ 40 3<|aa_ (ι := Rd × List Oc × Nat × Value) (fun z => [own 40 3 z.2.2.2 (z.2.1.map Oc.abs), .blk b5 30 [int (IntKind.i64.wrap ((Rd.of m).num 8 : Nat)), int (IntKind.i64.wrap (((Rd.of m).fixed 8).num 8 : Nat)), ltrsA (Rd.lgL m).1, .v z.2.2.2], rdA TR p9 z.1, .blk b2 30 [int 0, int 0, .v (.slice none 0 0), .v (.slice none 0 0)]]) (fun z => [(2, ptr b2), (4, ptr p9), (5, ptr b5), (30, int (((Rd.lgL m).2.countN 4) : Nat)), (31, int (z.2.2.1 : Nat))]) (fun z => z.2.2.1 ≤ ((Rd.lgL m).2.countN 4) ∧ z.1.l.length ≤ m.length ∧ z.2.1.length = z.2.2.1 ∧ Rd.allG Rd.oc Rd.o3 (((Rd.lgL m).2.countN 4) - z.2.2.1) z.1 z.2.1 = Rd.allG Rd.oc Rd.o3 ((Rd.lgL m).2.countN 4) ((Rd.lgL m).2.count 4) []) (fun z => ((Rd.lgL m).2.countN 4) - z.2.2.1) (((Rd.lgL m).2.count 4), [], 0, .slice none 0 0) (⟨Nat.zero_le _, by dsimp only; omega, rfl, rfl⟩) (by exact ⟨rfl, rfl, rfl, rfl, rfl, trivial⟩) sr_ ?_⟩
 intro z hz
 refine d_<|a_<|q_ 1 rfl<|g_<|b_<|d_<|p_ rfl ?_ ?_
 rotate_left
 ·intro hc32
  refine X_<|h_ nofun<|h_ nofun<|W_<|b_<|d_<|d_ ?_
  have hzz : (z.2.1, z.1) = Rd.lgO m := by
   unfold Rd.lgO
   rw [← hz.2.2.2, show ((Rd.lgL m).2.countN 4) - z.2.2.1 = 0 by omega]
   rfl
  have hzA := congrArg Prod.fst hzz
  have hzS := congrArg Prod.snd hzz
  dsimp only at hzA hzS
  refine fe_ [] 3 rfl u0_ rfl ?_
  rw [hzA, hzS]
  refine a_<|q_ 1 rfl<|r_ (end_s (s := (Rd.lgO m).2)) Casts.refl (by kernel_rfl) rfl rfl rfl ?_
  refine J_ rfl i1_ (fun _ => rfl)<|fun _=>⟨_, u1_, q_ 2 rfl<|z_ (t := 54) rfl ?_ ?_⟩
  ·intro hc54
   refine q_ 4 rfl<|g_<|b_<|K_ rfl<|d_<|a_<|c_ (I_ tabOk rfl rfl rfl rfl) rfl rfl<|e_ (m_ (L' := [int 0, int 0, .v (.slice none 0 0), .v (.slice none 0 0)]) tabOk rfl rfl rfl u2_ rfl (Nat.le_of_ble_eq_true rfl) rfl (by exact s_ rfl)) rfl rfl ?_
   refine q_ 1 rfl<|g_<|b_<|l_<|h_ nofun<|fC_ (rs := [.cell 2 30, .tmp 3]) rfl (RV.cell rfl (RV.cellA tabOk rfl rfl l2_ (by rfl)) (RV.tmp rfl RV.nil)) (Casts.cons (ay_ (Casts.keep (Casts.keep (Casts.nils (s := 6) (Casts.nils (s := 3) Casts.refl))))) Casts.refl) (()) sn_ ?_
   have e : parseL m = (Lg.zero, 2) := if_pos (by
    exact .inl (by assumption))
   rw [e]
   rfl
  intro hc54
  refine c_ (k_ (C := .agg (Rd.lg m).abs) (x_ tabOk rfl rfl rfl l0_ List.not_mem_nil (Nat.le_of_ble_eq_true rfl)) rfl) rfl rfl<|r_ (h0_ (l := Rd.lg m) (wrap_i64 _)) Casts.refl (by kernel_rfl) rfl rfl rfl ?_
  refine ap_<|fun _=>q_ 2 rfl<|g_<|b_<|p_ rfl ?_ ?_
  ·intro hc58
   refine d_<|a_<|c_ (I_ tabOk rfl rfl rfl rfl) rfl rfl<|e_ (m_ (L' := [int 0, int 0, .v (.slice none 0 0), .v (.slice none 0 0)]) tabOk rfl rfl rfl u2_ rfl (Nat.le_of_ble_eq_true rfl) rfl (by exact s_ rfl)) rfl rfl ?_
   refine q_ 1 rfl<|g_<|b_<|l_<|h_ nofun<|fC_ (rs := [.cell 2 30, .tmp 3]) rfl (RV.cell rfl (RV.cellA tabOk rfl rfl l2_ (by rfl)) (RV.tmp rfl RV.nil)) (Casts.cons (ay_ (Casts.keep (Casts.keep (Casts.nils (s := 6) (Casts.nils (s := 3) Casts.refl))))) Casts.refl) (()) sn_ ?_
   have e : parseL m = (Lg.zero, 2) := if_pos (by
    exact .inr (fun h => by have h9 : (Rd.lg m).chk = 0 := if_pos h; exact absurd h9 (by assumption)))
   rw [e]
   rfl
  intro hc58
  refine o_<|b_<|d_<|a_<|c_ (k_ (C := .agg (Rd.lg m).abs) (x_ tabOk rfl rfl rfl l0_ List.not_mem_nil (Nat.le_of_ble_eq_true rfl)) rfl) rfl rfl<|e_ (m_ (L' := (Rd.lg m).abs) tabOk rfl rfl rfl u2_ rfl (Nat.le_of_ble_eq_true rfl) rfl (by exact s_ rfl)) rfl rfl ?_
  refine q_ 1 rfl<|g_<|b_<|l_<|f_ (rs := [.cell 2 30, .tmp 3]) rfl (RV.cell rfl (RV.cellA tabOk rfl rfl l2_ (by rfl)) (RV.tmp rfl RV.nil)) (()) sn_ ?_
  have hk : (Rd.lg m).chk = 0 := Classical.not_not.1 hc58
  have e : parseL m = (Rd.lg m, 0) := if_neg (by
   rintro (h | h)
   ·exact hc54 h
   unfold Lg.chk at hk
   rw [if_neg h] at hk
   cases hk)
  rw [e]
  rfl
 intro hc32
 have n9 := gi_ z.1
 have n7 := z.1.fixed_length 1
 have n8 := (z.1.fixed 1).fixed_length 8
 refine o_<|b_<|d_<|w_<|d_<|a_<|q_ 1 rfl<|r_ (aY_ (s := z.1) (n := 1) (by omega) rfl) Casts.refl (by kernel_rfl) rfl rfl rfl ?_
 refine J_ rfl i2_ (fun _ => rfl)<|fun _=>⟨_, u2_, c_ (k_ (C := int (IntKind.i64.wrap (z.1.num 1 : Nat))) (az_ rfl Tryz.underlying3 (by kernel_rfl)) rfl) rfl rfl ?_⟩
 refine q_ 1 rfl<|g_<|b_<|d_<|a_<|q_ 1 rfl<|r_ (aY_ (s := (z.1.fixed 1)) (n := 8) (by omega) rfl) Casts.refl (by kernel_rfl) rfl rfl rfl ?_
 refine J_ rfl i2_ (fun _ => rfl)<|fun _=>⟨_, u2_, c_ (k_ (C := int (IntKind.i64.wrap ((z.1.fixed 1).num 8 : Nat))) (az_ rfl Tryz.underlying2 (by kernel_rfl)) rfl) rfl rfl ?_⟩
 refine q_ 1 rfl<|g_<|b_<|Y_ (z.2.2.2.ownBlock.toList ++ [p9, b5]) (.q 0 (.q 2 (.q 3 (.q 4 (.two 1 5 (.e 5 (.q 6 (.q 7 (.e 8 (.e 9 (.q 10 (.e 11 .nil))))))) (.q 6 (.q 7 (.two 1 8 (.e 8 (.e 9 (.q 10 (.e 11 .nil)))) (.e 1 (.e 9 (.q 10 (.e 11 .nil)))))))))))) (by kernel_rfl) (by kernel_rfl) ?_
 refine hx_ fun hx9 =>qx_ 4 hx9 rfl<|ba_ ?_ ?_
 ·skip
  refine aW_ rfl (i_ tabOk rfl rfl l1_ List.not_mem_nil (by rfl)) rfl rfl ?_
  refine Q_ rfl (aY_ (s := ((z.1.fixed 1).fixed 8)) (n := 1) (by omega) rfl) (by simp [mids, It.mids]) Casts.refl (by kernel_rfl) rfl rfl rfl ?_
  refine J_ rfl i2_ (fun _ => rfl)<|fun _=>⟨_, u2_, hx_ fun hx9 =>v_ rfl (k_ (C := int (IntKind.i64.wrap (((z.1.fixed 1).fixed 8).num 1 : Nat))) (az_ rfl Tryz.underlying35 (by kernel_rfl)) rfl) hx9 rfl rfl ?_⟩
  refine v_ rfl (I_ (L := Oc.abs (Rd.oc z.1)) tabOk rfl rfl rfl rfl) hx9 rfl rfl<|ex_ rfl (Z_ tabOk Tryz.underlying28 rfl rfl rfl rfl rfl rfl rfl) (by simp) rfl rfl ?_
  refine bC_ [b5] rfl (V_ (zs := (z.2.1 ++ [(Rd.oc z.1)]).map Oc.abs) tabOk [] (by rw [List.map_append]; rfl) Tryz.underlying28 rfl rfl rfl rfl rfl rfl (by intro c hc; rw [List.mem_singleton] at hc; subst hc; rfl) (by unfold maxLen; simp only [List.length_map, List.length_cons, List.length_nil]; omega) (by rw [show Tryz.prog.bytesOf 40 = 24 by kernel_rfl]; simp only [List.length_map, List.length_cons, List.length_nil]; omega)) (fun k hk => List.mem_append_left _ hk) (by simp) rfl rfl ?_
  rintro _ _ ⟨r48, rfl, rfl⟩
  refine hx_ fun hx9 =>qx_ 1 hx9 rfl<|ex_ rfl (aF_ tabOk rfl rfl rfl rfl i0_ u1_ rfl rfl) (by simp) rfl rfl ?_
  refine R_<|u_<|b_<|a_<|c_ (y_ rfl rfl (by simp only [InR, lo, hi]; omega)) rfl rfl ?_
  refine q_ 1 rfl<|g_<|D_ (Rd.o3 z.1, z.2.1 ++ [(Rd.oc z.1)], z.2.2.1 + 1, r48) (by (dsimp only; omega)) (⟨by dsimp only; omega, by dsimp only; omega, by dsimp only; rw [List.length_append, hz.2.2.1]; rfl, by
   rw [← hz.2.2.2]
   obtain ⟨j, hj⟩ : ∃ j, ((Rd.lgL m).2.countN 4) - z.2.2.1 = j + 1 := ⟨((Rd.lgL m).2.countN 4) - z.2.2.1 - 1, by omega⟩
   rw [hj]
   show Rd.allG Rd.oc Rd.o3 (((Rd.lgL m).2.countN 4) - (z.2.2.1 + 1)) _ _ = Rd.allG Rd.oc Rd.o3 (j + 1) _ _
   rw [show ((Rd.lgL m).2.countN 4) - (z.2.2.1 + 1) = j by omega]
   rfl⟩) (by exact ⟨rfl, rfl, rfl, rfl, rfl, trivial⟩) sr_
 skip
 refine Q_ rfl (aY_ (s := ((z.1.fixed 1).fixed 8)) (n := 1) (by omega) rfl) (by simp [mids, It.mids]) Casts.refl (by kernel_rfl) rfl rfl rfl ?_
 refine J_ rfl i2_ (fun _ => rfl)<|fun _=>⟨_, u2_, hx_ fun hx9 =>v_ rfl (k_ (C := int (IntKind.i64.wrap (((z.1.fixed 1).fixed 8).num 1 : Nat))) (az_ rfl Tryz.underlying35 (by kernel_rfl)) rfl) hx9 rfl rfl ?_⟩
 refine v_ rfl (I_ (L := Oc.abs (Rd.oc z.1)) tabOk rfl rfl rfl rfl) hx9 rfl rfl<|ba_ ?_ ?_
 ·skip
  refine aW_ rfl (i_ tabOk rfl rfl l1_ List.not_mem_nil (by rfl)) rfl rfl ?_
  refine ex_ rfl (Z_ tabOk Tryz.underlying28 rfl rfl rfl rfl rfl rfl rfl) (by simp) rfl rfl ?_
  refine bC_ [b5] rfl (V_ (zs := (z.2.1 ++ [(Rd.oc z.1)]).map Oc.abs) tabOk [] (by rw [List.map_append]; rfl) Tryz.underlying28 rfl rfl rfl rfl rfl rfl (by intro c hc; rw [List.mem_singleton] at hc; subst hc; rfl) (by unfold maxLen; simp only [List.length_map, List.length_cons, List.length_nil]; omega) (by rw [show Tryz.prog.bytesOf 40 = 24 by kernel_rfl]; simp only [List.length_map, List.length_cons, List.length_nil]; omega)) (fun k hk => List.mem_append_left _ hk) (by simp) rfl rfl ?_
  rintro _ _ ⟨r48, rfl, rfl⟩
  refine hx_ fun hx9 =>qx_ 1 hx9 rfl<|ex_ rfl (aF_ tabOk rfl rfl rfl rfl i0_ u1_ rfl rfl) (by simp) rfl rfl ?_
  refine R_<|u_<|b_<|a_<|c_ (y_ rfl rfl (by simp only [InR, lo, hi]; omega)) rfl rfl ?_
  refine q_ 1 rfl<|g_<|D_ (Rd.o3 z.1, z.2.1 ++ [(Rd.oc z.1)], z.2.2.1 + 1, r48) (by (dsimp only; omega)) (⟨by dsimp only; omega, by dsimp only; omega, by dsimp only; rw [List.length_append, hz.2.2.1]; rfl, by
   rw [← hz.2.2.2]
   obtain ⟨j, hj⟩ : ∃ j, ((Rd.lgL m).2.countN 4) - z.2.2.1 = j + 1 := ⟨((Rd.lgL m).2.countN 4) - z.2.2.1 - 1, by omega⟩
   rw [hj]
   show Rd.allG Rd.oc Rd.o3 (((Rd.lgL m).2.countN 4) - (z.2.2.1 + 1)) _ _ = Rd.allG Rd.oc Rd.o3 (j + 1) _ _
   rw [show ((Rd.lgL m).2.countN 4) - (z.2.2.1 + 1) = j by omega]
   rfl⟩) (by exact ⟨rfl, rfl, rfl, rfl, rfl, trivial⟩) sr_
 skip
 refine ex_ rfl (Z_ tabOk Tryz.underlying28 rfl rfl rfl rfl rfl rfl rfl) (by simp) rfl rfl ?_
 refine aW_ rfl (i_ tabOk rfl rfl l1_ List.not_mem_nil (by rfl)) rfl rfl ?_
 refine bC_ [b5] rfl (V_ (zs := (z.2.1 ++ [(Rd.oc z.1)]).map Oc.abs) tabOk [] (by rw [List.map_append]; rfl) Tryz.underlying28 rfl rfl rfl rfl rfl rfl (by intro c hc; rw [List.mem_singleton] at hc; subst hc; rfl) (by unfold maxLen; simp only [List.length_map, List.length_cons, List.length_nil]; omega) (by rw [show Tryz.prog.bytesOf 40 = 24 by kernel_rfl]; simp only [List.length_map, List.length_cons, List.length_nil]; omega)) (fun k hk => List.mem_append_left _ hk) (by simp) rfl rfl ?_
 rintro _ _ ⟨r48, rfl, rfl⟩
 refine hx_ fun hx9 =>qx_ 1 hx9 rfl<|ex_ rfl (aF_ tabOk rfl rfl rfl rfl i0_ u1_ rfl rfl) (by simp) rfl rfl ?_
 refine R_<|u_<|b_<|a_<|c_ (y_ rfl rfl (by simp only [InR, lo, hi]; omega)) rfl rfl ?_
 refine q_ 1 rfl<|g_<|D_ (Rd.o3 z.1, z.2.1 ++ [(Rd.oc z.1)], z.2.2.1 + 1, r48) (by (dsimp only; omega)) (⟨by dsimp only; omega, by dsimp only; omega, by dsimp only; rw [List.length_append, hz.2.2.1]; rfl, by
  rw [← hz.2.2.2]
  obtain ⟨j, hj⟩ : ∃ j, ((Rd.lgL m).2.countN 4) - z.2.2.1 = j + 1 := ⟨((Rd.lgL m).2.countN 4) - z.2.2.1 - 1, by omega⟩
  rw [hj]
  show Rd.allG Rd.oc Rd.o3 (((Rd.lgL m).2.countN 4) - (z.2.2.1 + 1)) _ _ = Rd.allG Rd.oc Rd.o3 (j + 1) _ _
  rw [show ((Rd.lgL m).2.countN 4) - (z.2.2.1 + 1) = j by omega]
  rfl⟩) (by exact ⟨rfl, rfl, rfl, rfl, rfl, trivial⟩) sr_
end
theorem eu_ (l : List Ent) : ∀ c ∈ l.map entA, ones c = true := by
  intro c hc
  obtain ⟨o, _, rfl⟩ := List.mem_map.1 hc
  rfl
theorem ck_ {xs : List (List Abs)} (h1 : ∀ c ∈ xs, ones c = true) (hn : xs.length ≤ 1000000) : Spec Tryz.prog 28 [.sl 8 xs] [] (fun _ : Unit => []) (fun _ => .sl 8 xs) := by
 refine C_ Tryz.func28 rfl Tryz.ntmps28 rfl fun G w =>d_<|a_<|q_ 1 rfl<|g_<|b_<|d_<|d_<|a_<|q_ 1 rfl<|di_ Tryz.underlying26 rfl rfl rfl<|fun b hb=>g_<|b_<|S_ rfl ?_ ?_
 ·intro hc4
  have hnil : xs = [] := hb hc4
  subst hnil
  refine d_<|a_<|q_ 1 rfl<|g_<|b_<|l_<|h_ nofun<|fV_ (rs := [.tmp 2]) rfl (RV.tmp rfl RV.nil) (Casts.nils (s := 8) Casts.refl) () sn_ (by simp [It.rids]) rfl
 intro hc4
 refine o_<|b_<|d_<|a_<|eb_ (aX_ tabOk Tryz.underlying26 rfl rfl rfl rfl rfl rfl rfl) rfl rfl fun r5=>?_
 refine q_ 1 rfl<|eb_ (V_ (zs := xs) tabOk [] rfl Tryz.underlying26 rfl rfl rfl rfl rfl rfl h1 (by unfold maxLen; simp only [List.length_nil]; omega) (by rw [show Tryz.prog.bytesOf 66 = 80 by kernel_rfl]; simp only [List.length_nil]; omega)) rfl rfl fun r7=>?_
 exact q_ 1 rfl<|g_<|b_<|l_<|bb_ [] (t := 2) rfl rfl<|f_ (rs := [.tmp 2]) rfl (RV.tmp rfl RV.nil) (()) sn_<|rfl
section
variable {P : Program} {n : Nat} {W : Wd} {σ τ : Blks} {l : Slots} {X : List Nat} {x y : Operand} {d : Option Nat} {ty t e e' : TypeId} {pos : String} {aft : Array Edge} {g : Option (Nat × Bool)} {v : Value} {A : Abs} {tab : List (Nat × TI)} {xs : List (List Abs)} {s q jj : Nat} {cs : List Abs} {K : List Nat} {w : World}
theorem dF_ (hT : TabOk P tab) {sz fo ft f : Nat} {gs : List (Nat × Nat)} {zs : List Value} {j : TI} (ht : ti tab t = some ⟨sz, .struct gs, zs⟩) (hx : look l x = some (.v (eptr v (q * s)))) (hb : isOwn σ e' s v xs) (hpos : Nat.blt 0 s = true) (hq : xs[q]? = some cs) (hfo : gs[f]? = some (fo, ft)) (hj : ti tab ft = some j) (hs0 : Nat.beq j.size 0 = false) :
    Val P n W σ l X ⟨d, .fieldAddr t x f, ty, pos, aft, g⟩ (.v (eptr v (q * s + fo))) := aQ_ fun a w hs _ => by
  obtain ⟨us, h1, h2⟩ := hs.mem.ownR hb
  obtain ⟨b, off, c, hvv, hbl, vs, h3, h4, h5⟩ := hS_ h1 h2 (by simpa [Nat.blt_eq] using hpos) hq
  refine ⟨_, rfl, fun w' _ => ?_⟩
  rw [hvv]
  show Proofs.YtickdhjljpnlpaaGreatDoor.Val _ _ _ _ _ (.pointer (some ⟨b, off + (q * s + fo), none⟩))
  rw [← Nat.add_assoc]
  exact Proofs.YtickdhjljpnlpaaGreatDoor.G_ hT ht (by rw [hs.at2 hx, hs.plain hx, hvv]; rfl) hfo hj hs0
theorem gS_ (hT : TabOk P tab) {sz : Nat} {zs : List Value} (ht : ti tab t = some ⟨sz, .one, zs⟩) (hx : look l x = some (.v (eptr v (q * s + jj)))) (hb : isOwn σ e' s v xs) (hpos : Nat.blt 0 s = true) (hq : xs[q]? = some cs) (hv : cs[jj]? = some A) : Val P n W σ l [] ⟨d, .load t x, ty, pos, aft, g⟩ A := aQ_ fun a w hs hX => by
  obtain ⟨us, h1, h2⟩ := hs.mem.ownR hb
  obtain ⟨b, off, c, hvv, hbl, vs, h3, h4, h5⟩ := hS_ h1 h2 (by simpa [Nat.blt_eq] using hpos) hq
  obtain ⟨u, h6, h7⟩ := b3_ h4 hv
  refine ⟨u, h7, fun w' hw' => Proofs.YtickdhjljpnlpaaGreatDoor.dw_ (b := b) (o := off + (q * s + jj)) hT ht (by rw [hs.at2 hx, hs.plain hx, hvv]; rfl) fun w1 e => by subst e; exact cE_ hw' (by simp) (by rw [← Nat.add_assoc]; exact h5 jj u h6)⟩
theorem f9_ {u : Value} (hu : rep K w A u) : ∀ {cs : List Abs} {vs : List Value} {j : Nat}, reps K w cs vs → reps K w (cs.set j A) (vs.set j u)
  | [], _, _, h => by
    have h : _ = [] := h
    subst h
    rfl
  | c :: cs, _, 0, ⟨u1, us, h1, h2, h3⟩ => by
    subst h1
    exact ⟨u, us, rfl, hu, h3⟩
  | c :: cs, _, j + 1, ⟨u1, us, h1, h2, h3⟩ => by
    subst h1
    exact ⟨u1, _, rfl, h2, f9_ hu h3⟩
theorem eO_ {u : Value} (hu : rep K w A u) : ∀ {xs : List (List Abs)} {us : List Value} {q : Nat}, repss K w s xs us → xs[q]? = some cs → jj < s → repss K w s (xs.set q (cs.set jj A)) (us.set (q * s + jj) u)
  | [], _, _, _, h, _ => by simp at h
  | c :: xs, _, 0, ⟨u1, u2, h1, h2, h3, h4⟩, h, hj => by
    subst h1
    have h : c = cs := by simpa using h
    subst h
    refine ⟨u1.set jj u, u2, ?_, by simpa using h2, f9_ hu h3, h4⟩
    rw [Nat.zero_mul, Nat.zero_add, List.set_append_left _ _ (by omega)]
  | c :: xs, _, q + 1, ⟨u1, u2, h1, h2, h3, h4⟩, h, hj => by
    subst h1
    have h5 := eO_ hu h4 (q := q) (by simpa using h) hj
    refine ⟨u1, _, ?_, h2, h3, h5⟩
    rw [List.set_append_right _ _ (by rw [Nat.succ_mul]; omega)]
    congr 2
    rw [Nat.succ_mul]
    omega
theorem hD_ (hT : TabOk P tab) {sz : Nat} {zs : List Value} (ht : ti tab t = some ⟨sz, .one, zs⟩) (hsz : Nat.beq sz 1 = true) (hx : look l x = some (.v (eptr v (q * s + jj)))) (hy : look l y = some A) (h1 : A.one = true) (hq : xs[q]? = some cs) (hj : Nat.blt jj s = true) (hu : Upd (own e s v xs) (own e s v (xs.set q (cs.set jj A))) σ τ) :
    Eff P n W σ l v.ownBlock.toList ⟨d, .store t x y, ty, pos, aft, g⟩ fun u τ' => u = .v undef ∧ τ' = τ := fun ac w hst => by
  have hj : jj < s := by simpa [Nat.blt_eq] using hj
  have hsz := Nat.eq_of_beq_eq_true hsz
  subst hsz
  obtain ⟨us, hown, hr⟩ : (ownPc e s v xs).p _ w := hst.mem.hold _ hu.mem
  have hry := hst.eval hy
  have hone := Abs.one_rep hry h1
  have hql : q < xs.length := (List.getElem?_eq_some_iff.1 hq).1
  rcases hown.2 with ⟨h, h0⟩ | ⟨gb, cap, cur, hv, hbase, hg, hn, hcap, hsz, htk⟩
  · omega
  · subst hv
    have h2 := (hT t _ ht).isAgg (w := w)
    have h3 := (hT t _ ht).sizeOf (w := w)
    have hb1 : q * s + s ≤ xs.length * s := by rw [← Nat.succ_mul]; exact Nat.mul_le_mul_right _ hql
    have hb2 : xs.length * s ≤ cap * s := Nat.mul_le_mul_right _ hn
    have hcl1 : cellsL (ac.eval y) = [ac.eval y] := by
      cases hv9 : ac.eval y <;> first | rfl | (rw [hv9] at hone; cases hone)
    have hrun := run_storeCells_at (P := P) gb (0 + (q * s + jj)) e (cellsL (ac.eval y)) 0 cur w hg (by rw [hcl1, List.length_singleton]; omega) (by rw [hcl1]; intro u hu; rw [List.mem_singleton.1 hu]; exact hone)
    have e0 : 0 + (q * s + jj) + 0 = q * s + jj := by omega
    rw [e0] at hrun
    have hcl : cur.toList.length = cur.size := by simp
    have hle : (cellsL (ac.eval y)).length = 1 := by rw [hcl1]; rfl
    have hxx : Ext (Value.ownBlock (.slice (some ⟨gb, 0, none⟩) xs.length cap)).toList w (w.setRow gb (cur.toList.take (q * s + jj) ++ cellsL (ac.eval y) ++ cur.toList.drop (q * s + jj + (cellsL (ac.eval y)).length)).toArray) := (Ext.refl w).setRow (.inl (by simp [Value.ownBlock])) _
    have hnew : (cur.toList.take (q * s + jj) ++ cellsL (ac.eval y) ++ cur.toList.drop (q * s + jj + (cellsL (ac.eval y)).length)).take (xs.length * s) = us.set (q * s + jj) (ac.eval y) := by
      rw [← htk, hle, hcl1]
      apply List.ext_getElem?
      intro j
      simp only [List.getElem?_take, List.getElem?_append, List.length_append, List.length_take, List.getElem?_drop, List.getElem?_set, List.length_singleton, hcl]
      grind
    have hm := hst.mem.upd hu hxx a9_ (fun k hk => .inl hk) rfl fun hca => ⟨us.set (q * s + jj) (ac.eval y), ⟨?_, .inr ⟨gb, cap, _, by rw [List.length_set], hbase, setRow_heap w gb cur _ e (0, 0) hg, by rw [List.length_set]; exact hn, hcap, ?_, ?_⟩⟩, al_ hca _ _ _ (eO_ hry hr hq hj)⟩
    · refine ⟨undef, _, _, _, ⟨rfl, rfl⟩, hxx, rfl, hm.1, hm.2, .inr ⟨rfl, ?_⟩⟩
      have hcs := cl_ (ac.eval y)
      have hle2 : (cellsL (ac.eval y)).length = 1 := hle
      have hx2 : ac.eval x = .pointer (some ⟨gb, 0 + (q * s + jj), none⟩) := hst.plain hx
      simp [execOp, hx2, Instr.storeAt, Instr.sureAddr, storeVar, Sem.run_bind, hcs, h3, hle2, hrun, Result.andThen]
      (simp only [Nat.zero_add] at hrun; simp [hle2, hrun])
    · rw [List.length_set, hown.1, List.length_set]
    · simp only [List.size_toArray, List.length_append, List.length_take, List.length_drop]
      omega
    · rw [List.length_set]
      simpa using hnew
end
end Go.Proofs.YtickdhjljpnlpaaGreatDoor.A
