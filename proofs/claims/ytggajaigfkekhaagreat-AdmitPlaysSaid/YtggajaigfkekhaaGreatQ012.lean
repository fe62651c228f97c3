/-
  Packed out of the texts: AP5, AdmP, AP6, AP7.
-/
import Derived.Test.YtggajaigfkekhaaGreatQ011
set_option maxRecDepth 100000
set_option linter.unusedSimpArgs false
set_option linter.unusedVariables false
namespace Go.Proofs.YtggajaigfkekhaaGreat.A
open Go.RowKit
theorem lm_ (b : Pnt) (a : Abs) : part (chL b a) 0 33 = b.abs := by
  unfold part
  rw [List.drop_zero, List.take_append_of_le_length (by rw [Pnt.size]; exact Nat.le_refl _), List.take_of_length_le (by rw [Pnt.size]; exact Nat.le_refl _)]
theorem ch_ple (b : Pnt) (a : Abs) : 0 + 33 ≤ (chL b a).length := by rw [T_]; omega
theorem iS_ {l : List Sgn} {n seq : Int} (hl : ∀ s ∈ l, CIn s.chg) : (numF l n seq).1.length ≤ 10 := kR_ (Q := fun b => b.length ≤ 10) (Nat.zero_le _) fun s hs x hx => gc_ (hl s hs) hx
theorem far_top {x b : Int} {f : Nat} (h : b < x) : max (b + (f : Int)) x = b + ((max f (x - b).toNat : Nat) : Int) := by omega
section
variable {c : Chc} {l : List Sgn} {n : Int}
set_option maxHeartbeats 4000000 in
theorem rbase_s (hnn : 1 ≤ n ∧ n ≤ 7) (hl : ∀ s ∈ l, CIn s.chg) (hn : l.length ≤ 100) : Spec Tryz.prog 93 [sgnsA l, int n] [] (fun _ : Unit => []) (fun _ => .tup [.agg ((baseF l n).getD pz).abs, boo (baseF l n).isSome]) := by
 refine G_ Tryz.func93 rfl Tryz.ntmps93 rfl fun G w =>d_<|a_<|eb_ (B_ tabOk rfl) rfl rfl fun b4=>?_
 refine q_ 1 rfl<|g_<|c_<|d_<|a_<|q_ 1 rfl<|u_ (bS_ (n := n) (by omega)) Casts.refl (by kernel_rfl) rfl rfl rfl ?_
 refine ap_<|fun _=>q_ 1 rfl<|g_<|c_<|d_<|a_<|eb_ (B_ tabOk rfl) rfl rfl fun b7=>?_
 refine g_<|c_<|d_<|a_<|q_ 1 rfl<|g_<|c_<|d_<|d_<|a_<|q_ 1 rfl<|b_ (z_ rfl Tryz.underlying53 (List.length_map _)) rfl rfl<|q_ 1 rfl<|g_<|c_<|t_<|S_ (ι := Nat × Option Pnt) (fun z => [.blk b7 59 ((z.2).getD pz).abs, .blk b4 59 pz.abs]) (fun z => [(0, sgnsA l), (1, int n), (4, ptr b4), (6, int (fN n)), (7, ptr b7), (8, boo z.2.isSome), (22, sgnsA l), (23, int (l.length : Nat)), (24, int (z.1 : Nat))]) (fun z => z.1 ≤ l.length ∧ z.2 = (l.take z.1).foldl (baseIn l n) none) (fun z => l.length - z.1) (0, none) (⟨Nat.zero_le _, rfl⟩) (by exact ⟨rfl, rfl, rfl, rfl, rfl, rfl, rfl, rfl, rfl, trivial⟩) sr_ ?_
 intro z hz
 refine d_<|a_<|q_ 1 rfl<|g_<|c_<|d_<|r_ rfl ?_ ?_
 rotate_left
 ·intro hc25
  refine Q_<|i_ nofun<|i_ nofun<|P_<|c_<|d_<|a_<|b_ (m_ (C := .agg (z.2.getD pz).abs) (F_ tabOk rfl rfl rfl l0_ List.not_mem_nil (Pnt.size _)) rfl) rfl rfl<|q_ 1 rfl<|e_ (w_ (L' := (z.2.getD pz).abs) tabOk rfl rfl rfl u1_ (Pnt.size _) (fH_ _) (Pnt.ones _) (by exact A_ ((Pnt.size _).trans (Pnt.size _).symm))) rfl rfl ?_
  refine q_ 1 rfl<|g_<|c_<|n_<|f_ (rs := [.cell 4 59, .tmp 5]) rfl (RV.cell rfl (RV.cellA tabOk rfl rfl l1_ ((Pnt.size _))) (RV.tmp rfl RV.nil)) (()) sn_ ?_
  rw [show baseF l n = z.2 by rw [hz.2, a1_ _ _ (by omega)]; rfl]
  rfl
 intro hc25
 have hlt : z.1 < l.length := by omega
 refine p_<|c_<|d_<|t_<|d_<|a_<|b_ (D_ tabOk Tryz.underlying53 rfl rfl rfl rfl (aa_ (by omega)) rfl rfl) rfl rfl ?_
 refine b_ (K_ tabOk rfl rfl rfl rfl) rfl rfl<|eb_ (B_ tabOk rfl) rfl rfl fun b10=>?_
 refine e_ (w_ (L' := (l[z.1]'hlt).abs) tabOk rfl rfl rfl u0_ rfl (Nat.le_of_ble_eq_true rfl) rfl (by exact A_ rfl)) rfl rfl ?_
 refine g_<|c_<|d_<|a_<|q_ 2 rfl<|b_ (m_ (C := pntsA (l[z.1]'hlt).chg.points) (h_ tabOk rfl rfl l0_ List.not_mem_nil rfl) rfl) rfl rfl<|b_ (z_ rfl Tryz.underlying23 (List.length_map _)) rfl rfl<|q_ 1 rfl<|g_<|c_<|t_<|S_ (ι := Nat × Option Pnt) (fun y => [.blk b7 59 ((y.2).getD pz).abs, .blk b4 59 pz.abs]) (fun y => [(0, sgnsA l), (1, int n), (4, ptr b4), (6, int (fN n)), (7, ptr b7), (22, sgnsA l), (23, int (l.length : Nat)), (24, int (z.1 : Nat)), (30, pntsA (l[z.1]'hlt).chg.points), (31, int ((l[z.1]'hlt).chg.points.length : Nat)), (32, int (y.1 : Nat)), (8, boo y.2.isSome)]) (fun y => y.1 ≤ (l[z.1]'hlt).chg.points.length ∧ y.2 = ((l[z.1]'hlt).chg.points.take y.1).foldl (baseSt l n) z.2) (fun y => (l[z.1]'hlt).chg.points.length - y.1) (0, z.2) (⟨Nat.zero_le _, rfl⟩) (by exact ⟨rfl, rfl, rfl, rfl, rfl, rfl, rfl, rfl, rfl, rfl, rfl, rfl, trivial⟩) (sk_ sr_) ?_
 intro y hy
 refine d_<|a_<|q_ 1 rfl<|g_<|c_<|d_<|r_ rfl ?_ ?_
 rotate_left
 ·intro hc33
  refine Q_<|i_ nofun<|i_ nofun<|P_<|o_<|c_<|a_<|b_ (s_ rfl rfl (by simp only [InR, lo, hi]; omega)) rfl rfl ?_
  refine q_ 1 rfl<|g_<|x_ (z.1 + 1, y.2) (by omega) (⟨by dsimp only; omega, by dsimp only; rw [W_ _ _ hlt, ← hz.2, hy.2, a1_ _ _ (by omega)]; rfl⟩) (by exact ⟨rfl, rfl, rfl, rfl, rfl, rfl, rfl, rfl, rfl, trivial⟩) sr_
 intro hc33
 have hly : y.1 < (l[z.1]'hlt).chg.points.length := by omega
 have hpl := (hl _ (List.getElem_mem hlt)).asked.2.2
 have hpy := (hl _ (List.getElem_mem hlt)).lits.pts _ (List.getElem_mem hly)
 refine p_<|c_<|d_<|t_<|d_<|a_<|b_ (D_ tabOk Tryz.underlying23 rfl rfl rfl rfl (aa_ (by omega)) rfl rfl) rfl rfl ?_
 refine b_ (K_ tabOk rfl rfl rfl (Pnt.size _)) rfl rfl<|eb_ (B_ tabOk rfl) rfl rfl fun b12=>?_
 refine e_ (w_ (L' := ((l[z.1]'hlt).chg.points[y.1]'hly).abs) tabOk rfl rfl rfl u0_ (Pnt.size _) (Nat.le_of_ble_eq_true rfl) (Pnt.ones _) (by exact A_ (Pnt.size _))) rfl rfl ?_
 refine g_<|c_<|d_<|a_<|q_ 2 rfl<|g_<|c_<|d_<|d_<|a_<|q_ 1 rfl<|b_ (z_ rfl Tryz.underlying53 (List.length_map _)) rfl rfl<|q_ 1 rfl<|g_<|c_<|t_<|S_ (ι := Nat × Nat × Nat) (fun x => [.blk b12 59 ((l[z.1]'hlt).chg.points[y.1]'hly).abs, .blk b7 59 ((y.2).getD pz).abs, .blk b4 59 pz.abs]) (fun x => [(0, sgnsA l), (1, int n), (4, ptr b4), (6, int (fN n)), (7, ptr b7), (22, sgnsA l), (23, int (l.length : Nat)), (24, int (z.1 : Nat)), (30, pntsA (l[z.1]'hlt).chg.points), (31, int ((l[z.1]'hlt).chg.points.length : Nat)), (32, int (y.1 : Nat)), (8, boo y.2.isSome), (12, ptr b12), (36, sgnsA l), (37, int (l.length : Nat)), (38, int (x.1 : Nat)), (13, int (x.2.1 : Nat)), (14, int (x.2.2 : Nat))]) (fun x => x.1 ≤ l.length ∧ x.2.1 = cntS (l.take x.1) (hasB ((l[z.1]'hlt).chg.points[y.1]'hly)) ∧ x.2.2 = cntS (l.take x.1) (lowB ((l[z.1]'hlt).chg.points[y.1]'hly))) (fun x => l.length - x.1) (0, 0, 0) (⟨Nat.zero_le _, rfl, rfl⟩) (by exact ⟨rfl, rfl, rfl, rfl, rfl, rfl, rfl, rfl, rfl, rfl, rfl, rfl, rfl, rfl, rfl, rfl, rfl, rfl, trivial⟩) sr_ ?_
 intro x hx
 refine d_<|a_<|q_ 1 rfl<|g_<|c_<|d_<|r_ rfl ?_ ?_
 rotate_left
 ·intro hc39
  have hq1 : x.2.1 = cntS l (hasB ((l[z.1]'hlt).chg.points[y.1]'hly)) := by rw [hx.2.1, c4_ (by omega)]
  have hq2 : x.2.2 = cntS l (lowB ((l[z.1]'hlt).chg.points[y.1]'hly)) := by rw [hx.2.2, c4_ (by omega)]
  have hfn : fN n = (max n 1 - 1) / 3 := rfl
  have hxl : x.1 = l.length := by omega
  refine Q_<|i_ nofun<|i_ nofun<|P_<|c_<|d_<|a_<|q_ 3 rfl<|C_ (t := 71) rfl ?_ (by intro hc71; exfalso; omega)
  intro hc71
  refine q_ 4 rfl<|C_ (t := 75) rfl ?_ (by intro hc75; exfalso; omega)
  intro hc75
  refine q_ 2 rfl<|b_ (s_ rfl rfl (by simp only [InR, lo, hi]; omega)) rfl rfl ?_
  refine q_ 3 rfl<|C_ (t := 81) rfl ?_ ?_
  rotate_left
  ·intro hc81
   refine q_ 17 rfl<|g_<|c_<|V_ rfl<|p_<|o_<|c_<|a_<|b_ (s_ rfl rfl (by simp only [InR, lo, hi]; omega)) rfl rfl ?_
   refine q_ 1 rfl<|g_<|x_ (y.1 + 1, y.2) (by omega) (⟨by dsimp only; omega, by dsimp only; rw [W_ _ _ hly, ← hy.2, cx_ (by unfold baseOk fN; simp only [Bool.and_eq_false_iff, decide_eq_false_iff_not]; omega)]⟩) (by exact ⟨rfl, rfl, rfl, rfl, rfl, rfl, rfl, rfl, rfl, rfl, rfl, rfl, trivial⟩) (sk_ sr_)
  intro hc81
  refine q_ 2 rfl<|b_ (b3_ rfl rfl (by simp only [InR, lo, hi]; omega)) rfl rfl ?_
  refine b_ (s_ rfl rfl (by simp only [InR, lo, hi]; omega)) rfl rfl ?_
  refine q_ 3 rfl<|C_ (t := 88) rfl ?_ ?_
  rotate_left
  ·intro hc88
   refine q_ 10 rfl<|g_<|c_<|V_ rfl<|p_<|o_<|c_<|a_<|b_ (s_ rfl rfl (by simp only [InR, lo, hi]; omega)) rfl rfl ?_
   refine q_ 1 rfl<|g_<|x_ (y.1 + 1, y.2) (by omega) (⟨by dsimp only; omega, by dsimp only; rw [W_ _ _ hly, ← hy.2, cx_ (by unfold baseOk fN; simp only [Bool.and_eq_false_iff, decide_eq_false_iff_not]; omega)]⟩) (by exact ⟨rfl, rfl, rfl, rfl, rfl, rfl, rfl, rfl, rfl, rfl, rfl, rfl, trivial⟩) (sk_ sr_)
  intro hc88
  refine q_ 1 rfl<|b_ (ai_ rfl) rfl rfl<|q_ 1 rfl<|aZ_ (t := 91) rfl ?_ ?_
  ·intro hc91
   refine q_ 7 rfl<|g_<|c_<|O_ rfl<|a_<|b_ (m_ (C := .agg ((l[z.1]'hlt).chg.points[y.1]'hly).abs) (F_ tabOk rfl rfl rfl l0_ List.not_mem_nil (Pnt.size _)) rfl) rfl rfl<|e_ (w_ (L' := ((l[z.1]'hlt).chg.points[y.1]'hly).abs) tabOk rfl rfl rfl u1_ (Pnt.size _) (fH_ _) (Pnt.ones _) (by exact A_ ((Pnt.size _).trans (Pnt.size _).symm))) rfl rfl ?_
   refine q_ 1 rfl<|g_<|o_<|c_<|a_<|b_ (s_ rfl rfl (by simp only [InR, lo, hi]; omega)) rfl rfl ?_
   refine q_ 1 rfl<|g_<|x_ (y.1 + 1, some ((l[z.1]'hlt).chg.points[y.1]'hly)) (by omega) (⟨by dsimp only; omega, by dsimp only; rw [W_ _ _ hly, ← hy.2, c7_ (fun h9 => by rw [h9] at hc91; cases hc91) (by unfold baseOk fN; simp only [Bool.and_eq_true, decide_eq_true_eq]; omega)]⟩) (by exact ⟨rfl, rfl, rfl, rfl, rfl, rfl, rfl, rfl, rfl, rfl, rfl, rfl, trivial⟩) (sk_ sr_)
  intro hc91
  refine q_ 1 rfl<|b_ (m_ (C := int ((l[z.1]'hlt).chg.points[y.1]'hly).seq) (h_ tabOk rfl rfl l0_ List.not_mem_nil rfl) rfl) rfl rfl<|q_ 1 rfl<|b_ (m_ (C := int (y.2.getD pz).seq) (h_ tabOk rfl rfl l1_ List.not_mem_nil rfl) rfl) rfl rfl<|q_ 3 rfl<|g_<|c_<|r_ rfl ?_ ?_
  rotate_left
  ·intro hc98
   refine p_<|o_<|c_<|a_<|b_ (s_ rfl rfl (by simp only [InR, lo, hi]; omega)) rfl rfl ?_
   refine q_ 1 rfl<|g_<|x_ (y.1 + 1, y.2) (by omega) (⟨by dsimp only; omega, by dsimp only; rw [W_ _ _ hly, ← hy.2, fp_ (by simpa using hc91) (by omega)]⟩) (by exact ⟨rfl, rfl, rfl, rfl, rfl, rfl, rfl, rfl, rfl, rfl, rfl, rfl, trivial⟩) (sk_ sr_)
  intro hc98
  refine a_<|b_ (m_ (C := .agg ((l[z.1]'hlt).chg.points[y.1]'hly).abs) (F_ tabOk rfl rfl rfl l0_ List.not_mem_nil (Pnt.size _)) rfl) rfl rfl<|e_ (w_ (L' := ((l[z.1]'hlt).chg.points[y.1]'hly).abs) tabOk rfl rfl rfl u1_ (Pnt.size _) (fH_ _) (Pnt.ones _) (by exact A_ ((Pnt.size _).trans (Pnt.size _).symm))) rfl rfl ?_
  refine q_ 1 rfl<|g_<|o_<|c_<|a_<|b_ (s_ rfl rfl (by simp only [InR, lo, hi]; omega)) rfl rfl ?_
  refine q_ 1 rfl<|g_<|x_ (y.1 + 1, some ((l[z.1]'hlt).chg.points[y.1]'hly)) (by omega) (⟨by dsimp only; omega, by dsimp only; rw [W_ _ _ hly, ← hy.2, c7_ (fun _ => hc98) (by unfold baseOk fN; simp only [Bool.and_eq_true, decide_eq_true_eq]; omega)]⟩) (by exact ⟨rfl, rfl, rfl, rfl, rfl, rfl, rfl, rfl, rfl, rfl, rfl, rfl, trivial⟩) (sk_ sr_)
 intro hc39
 have hlx : x.1 < l.length := by omega
 have hle1 := d2_ (l := l.take x.1) (p := hasB ((l[z.1]'hlt).chg.points[y.1]'hly))
 have hle2 := d2_ (l := l.take x.1) (p := lowB ((l[z.1]'hlt).chg.points[y.1]'hly))
 rw [← hx.2.1, List.length_take] at hle1
 rw [← hx.2.2, List.length_take] at hle2
 refine p_<|c_<|d_<|t_<|d_<|a_<|b_ (D_ tabOk Tryz.underlying53 rfl rfl rfl rfl (aa_ (by omega)) rfl rfl) rfl rfl ?_
 refine b_ (K_ tabOk rfl rfl rfl rfl) rfl rfl<|eb_ (B_ tabOk rfl) rfl rfl fun b16=>?_
 refine e_ (w_ (L' := (l[x.1]'hlx).abs) tabOk rfl rfl rfl u0_ rfl (Nat.le_of_ble_eq_true rfl) rfl (by exact A_ rfl)) rfl rfl ?_
 refine g_<|c_<|d_<|a_<|q_ 1 rfl<|g_<|c_<|d_<|d_<|a_<|q_ 2 rfl<|b_ (m_ (C := pntsA (l[x.1]'hlx).chg.points) (h_ tabOk rfl rfl l0_ List.not_mem_nil rfl) rfl) rfl rfl<|b_ (z_ rfl Tryz.underlying23 (List.length_map _)) rfl rfl<|q_ 1 rfl<|g_<|c_<|t_<|S_ (ι := Nat × Bool) (fun v => [.blk b16 50 (l[x.1]'hlx).abs, .blk b12 59 ((l[z.1]'hlt).chg.points[y.1]'hly).abs, .blk b7 59 ((y.2).getD pz).abs, .blk b4 59 pz.abs]) (fun v => [(0, sgnsA l), (1, int n), (4, ptr b4), (6, int (fN n)), (7, ptr b7), (22, sgnsA l), (23, int (l.length : Nat)), (24, int (z.1 : Nat)), (30, pntsA (l[z.1]'hlt).chg.points), (31, int ((l[z.1]'hlt).chg.points.length : Nat)), (32, int (y.1 : Nat)), (8, boo y.2.isSome), (12, ptr b12), (36, sgnsA l), (37, int (l.length : Nat)), (38, int (x.1 : Nat)), (13, int (x.2.1 : Nat)), (14, int (x.2.2 : Nat)), (16, ptr b16), (17, boo v.2), (44, pntsA (l[x.1]'hlx).chg.points), (45, int ((l[x.1]'hlx).chg.points.length : Nat)), (46, int (v.1 : Nat))]) (fun v => v.1 ≤ (l[x.1]'hlx).chg.points.length ∧ v.2 = decide (((l[z.1]'hlt).chg.points[y.1]'hly) ∈ (l[x.1]'hlx).chg.points.take v.1)) (fun v => (l[x.1]'hlx).chg.points.length - v.1) (0, false) (⟨Nat.zero_le _, by simp⟩) (by exact ⟨rfl, rfl, rfl, rfl, rfl, rfl, rfl, rfl, rfl, rfl, rfl, rfl, rfl, rfl, rfl, rfl, rfl, rfl, rfl, rfl, rfl, rfl, rfl, trivial⟩) sr_ ?_
 intro v hv
 refine d_<|a_<|q_ 1 rfl<|g_<|c_<|d_<|r_ rfl ?_ ?_
 ·intro hc47
  have hlv : v.1 < (l[x.1]'hlx).chg.points.length := by omega
  have hpt := (hl _ (List.getElem_mem hlx)).asked.2.2
  have hpq := (hl _ (List.getElem_mem hlx)).lits.pts _ (List.getElem_mem hlv)
  refine p_<|c_<|d_<|t_<|d_<|a_<|b_ (D_ tabOk Tryz.underlying23 rfl rfl rfl rfl (aa_ (by omega)) rfl rfl) rfl rfl ?_
  refine b_ (K_ tabOk rfl rfl rfl (Pnt.size _)) rfl rfl<|eb_ (B_ tabOk rfl) rfl rfl fun b19=>?_
  refine e_ (w_ (L' := ((l[x.1]'hlx).chg.points[v.1]'hlv).abs) tabOk rfl rfl rfl u0_ (Pnt.size _) (Nat.le_of_ble_eq_true rfl) (Pnt.ones _) (by exact A_ (Pnt.size _))) rfl rfl ?_
  refine g_<|c_<|a_<|q_ 2 rfl<|aZ_ (t := 51) rfl ?_ ?_
  ·intro hc51
   refine q_ 5 rfl<|g_<|o_<|c_<|a_<|b_ (s_ rfl rfl (by simp only [InR, lo, hi]; omega)) rfl rfl ?_
   refine q_ 1 rfl<|g_<|x_ (v.1 + 1, true) (by omega) (⟨by dsimp only; omega, by dsimp only; exact has_yes hlv (hv.2.symm.trans (by simpa using hc51))⟩) (by exact ⟨rfl, rfl, rfl, rfl, rfl, rfl, rfl, rfl, rfl, rfl, rfl, rfl, rfl, rfl, rfl, rfl, rfl, rfl, rfl, rfl, rfl, rfl, rfl, trivial⟩) (sk_ sr_)
  intro hc51
  refine b_ (m_ (C := .agg ((l[x.1]'hlx).chg.points[v.1]'hlv).abs) (F_ tabOk rfl rfl rfl l0_ List.not_mem_nil (Pnt.size _)) rfl) rfl rfl<|b_ (m_ (C := .agg ((l[z.1]'hlt).chg.points[y.1]'hly).abs) (F_ tabOk rfl rfl rfl l2_ List.not_mem_nil (Pnt.size _)) rfl) rfl rfl<|b_ (gC_ rfl rfl (bc_ _) (bc_ _) (by kernel_rfl) (eqP hpq hpy)) rfl rfl ?_
  refine q_ 2 rfl<|g_<|o_<|c_<|a_<|b_ (s_ rfl rfl (by simp only [InR, lo, hi]; omega)) rfl rfl ?_
  refine q_ 1 rfl<|g_<|x_ (v.1 + 1, decide (((l[x.1]'hlx).chg.points[v.1]'hlv) = ((l[z.1]'hlt).chg.points[y.1]'hly))) (by omega) (⟨by dsimp only; omega, by dsimp only; exact has_no hlv (hv.2.symm.trans (by simpa using hc51))⟩) (by exact ⟨rfl, rfl, rfl, rfl, rfl, rfl, rfl, rfl, rfl, rfl, rfl, rfl, rfl, rfl, rfl, rfl, rfl, rfl, rfl, rfl, rfl, rfl, rfl, trivial⟩) (sk_ sr_)
 intro hc47
 have hin : v.2 = hasB ((l[z.1]'hlt).chg.points[y.1]'hly) (l[x.1]'hlx).chg := by
  rw [hv.2, List.take_of_length_le (by omega)]
  rfl
 refine Q_<|i_ nofun<|i_ nofun<|P_<|c_<|d_<|d_<|a_<|q_ 1 rfl<|g_<|c_<|ac_ rfl ?_ ?_
 rotate_left
 ·intro hc57
  refine p_<|c_<|d_<|a_<|q_ 2 rfl<|b_ (m_ (C := int (l[x.1]'hlx).chg.low) (h_ tabOk rfl rfl l0_ List.not_mem_nil rfl) rfl) rfl rfl<|q_ 1 rfl<|b_ (m_ (C := int ((l[z.1]'hlt).chg.points[y.1]'hly).seq) (h_ tabOk rfl rfl l1_ List.not_mem_nil rfl) rfl) rfl rfl<|q_ 1 rfl<|g_<|c_<|r_ rfl ?_ ?_
  rotate_left
  ·intro hc65
   refine p_<|o_<|c_<|a_<|b_ (s_ rfl rfl (by simp only [InR, lo, hi]; omega)) rfl rfl ?_
   refine q_ 1 rfl<|g_<|x_ (x.1 + 1, x.2.1, x.2.2) (by omega) (⟨by dsimp only; omega, by dsimp only; rw [co_ hlx (hin.symm.trans (by simpa using hc57)), ← hx.2.1], by dsimp only; rw [co_ hlx (by unfold lowB; simpa using hc65), ← hx.2.2]⟩) (by exact ⟨rfl, rfl, rfl, rfl, rfl, rfl, rfl, rfl, rfl, rfl, rfl, rfl, rfl, rfl, rfl, rfl, rfl, rfl, trivial⟩) (sk_ sr_)
  intro hc65
  refine a_<|q_ 1 rfl<|b_ (s_ rfl rfl (by simp only [InR, lo, hi]; omega)) rfl rfl ?_
  refine q_ 1 rfl<|g_<|o_<|c_<|a_<|b_ (s_ rfl rfl (by simp only [InR, lo, hi]; omega)) rfl rfl ?_
  refine q_ 1 rfl<|g_<|x_ (x.1 + 1, x.2.1, x.2.2 + 1) (by omega) (⟨by dsimp only; omega, by dsimp only; rw [co_ hlx (hin.symm.trans (by simpa using hc57)), ← hx.2.1], by dsimp only; rw [bR_ hlx (by unfold lowB; simpa using hc65), ← hx.2.2]⟩) (by exact ⟨rfl, rfl, rfl, rfl, rfl, rfl, rfl, rfl, rfl, rfl, rfl, rfl, rfl, rfl, rfl, rfl, rfl, rfl, trivial⟩) (sk_ sr_)
 intro hc57
 refine a_<|q_ 1 rfl<|b_ (s_ rfl rfl (by simp only [InR, lo, hi]; omega)) rfl rfl ?_
 refine q_ 1 rfl<|g_<|c_<|d_<|a_<|q_ 2 rfl<|b_ (m_ (C := int (l[x.1]'hlx).chg.low) (h_ tabOk rfl rfl l0_ List.not_mem_nil rfl) rfl) rfl rfl<|q_ 1 rfl<|b_ (m_ (C := int ((l[z.1]'hlt).chg.points[y.1]'hly).seq) (h_ tabOk rfl rfl l1_ List.not_mem_nil rfl) rfl) rfl rfl<|q_ 1 rfl<|g_<|c_<|r_ rfl ?_ ?_
 rotate_left
 ·intro hc65
  refine p_<|o_<|c_<|a_<|b_ (s_ rfl rfl (by simp only [InR, lo, hi]; omega)) rfl rfl ?_
  refine q_ 1 rfl<|g_<|x_ (x.1 + 1, x.2.1 + 1, x.2.2) (by omega) (⟨by dsimp only; omega, by dsimp only; rw [bR_ hlx (hin.symm.trans (by simpa using hc57)), ← hx.2.1], by dsimp only; rw [co_ hlx (by unfold lowB; simpa using hc65), ← hx.2.2]⟩) (by exact ⟨rfl, rfl, rfl, rfl, rfl, rfl, rfl, rfl, rfl, rfl, rfl, rfl, rfl, rfl, rfl, rfl, rfl, rfl, trivial⟩) (sk_ sr_)
 intro hc65
 refine a_<|q_ 1 rfl<|b_ (s_ rfl rfl (by simp only [InR, lo, hi]; omega)) rfl rfl ?_
 refine q_ 1 rfl<|g_<|o_<|c_<|a_<|b_ (s_ rfl rfl (by simp only [InR, lo, hi]; omega)) rfl rfl ?_
 refine q_ 1 rfl<|g_<|x_ (x.1 + 1, x.2.1 + 1, x.2.2 + 1) (by omega) (⟨by dsimp only; omega, by dsimp only; rw [bR_ hlx (hin.symm.trans (by simpa using hc57)), ← hx.2.1], by dsimp only; rw [bR_ hlx (by unfold lowB; simpa using hc65), ← hx.2.2]⟩) (by exact ⟨rfl, rfl, rfl, rfl, rfl, rfl, rfl, rfl, rfl, rfl, rfl, rfl, rfl, rfl, rfl, rfl, rfl, rfl, trivial⟩) (sk_ sr_)
set_option maxHeartbeats 4000000 in
theorem kz_ (h1 : 1 ≤ n) (h7 : n ≤ 7) (hl : ∀ s ∈ l, CIn s.chg) (hn : l.length ≤ 100) : Spec Tryz.prog 60 [sgnsA l, int n] [] (fun _ : Unit => []) (fun _ => .tup [.agg (chooseF l n).1.abs, int (chooseF l n).2]) := by
 refine G_ Tryz.func60 rfl Tryz.ntmps60 rfl fun G w =>d_<|a_<|eb_ (B_ tabOk rfl) rfl rfl fun b4=>?_
 refine q_ 1 rfl<|g_<|c_<|d_<|a_<|q_ 2 rfl<|u_ (rbase_s (n := n) ⟨h1, h7⟩ hl hn) Casts.refl (by kernel_rfl) rfl rfl rfl ?_
 refine ap_<|fun _=>q_ 3 rfl<|eb_ (B_ tabOk rfl) rfl rfl fun b6=>?_
 refine e_ (w_ (L' := ((baseF l n).getD pz).abs) tabOk rfl rfl rfl u0_ (Pnt.size _) (Nat.le_of_ble_eq_true rfl) (Pnt.ones _) (by exact A_ (Pnt.size _))) rfl rfl ?_
 refine q_ 1 rfl<|g_<|c_<|d_<|d_<|a_<|q_ 1 rfl<|b_ (ai_ rfl) rfl rfl<|g_<|c_<|ac_ rfl ?_ ?_
 ·intro hc24
  have hbf : baseF l n = none := by
   cases hb9 : baseF l n with
   | none => rfl
   | some b => rw [hb9] at hc24; cases hc24
  refine d_<|a_<|b_ (m_ (C := .agg (chL pz (.v (.slice none 0 0)))) (J_ tabOk rfl rfl rfl rfl) rfl) rfl rfl<|e_ (w_ (L' := chL pz (.v (.slice none 0 0))) tabOk rfl rfl rfl u1_ (T_ _ _) (Nat.le_of_ble_eq_true rfl) (aK_ _ rfl) (by exact A_ (T_ _ _))) rfl rfl ?_
  refine q_ 1 rfl<|g_<|c_<|n_<|i_ nofun<|fC_ (rs := [.cell 4 62, .tmp 5]) rfl (RV.cell rfl (RV.cellA tabOk rfl rfl l1_ ((T_ _ _))) (RV.tmp rfl RV.nil)) (Casts.cons (aN_ cG_) Casts.refl) (()) sn_ ?_
  rw [dr_ hbf]
  rfl
 intro hc24
 obtain ⟨b, hbf⟩ : ∃ b, baseF l n = some b := by
  cases hb9 : baseF l n with
  | none => rw [hb9] at hc24; cases hc24
  | some b => exact ⟨b, rfl⟩
 have hbs : InR .i64 b.seq := (by
  rcases eN_ (m := l) (a := none) (show l.foldl (baseIn l n) none = some b from hbf) with ⟨s, h1, h2⟩ | h1
  ·exact (hl s h1).lits.pts _ h2
  cases h1)
 have hfo : FarOk b.seq (farF l b.seq) := (FarOk.zero hbs).all fun s hs x hx => ((hl s hs).lits.prep x hx).seq
 rw [hbf]
 refine p_<|c_<|d_<|a_<|q_ 1 rfl<|b_ (m_ (C := int (b.seq + ((0 : Nat) : Int))) (h_ tabOk rfl rfl l0_ List.not_mem_nil rfl) (congrArg int (Int.add_zero b.seq).symm)) rfl rfl<|q_ 1 rfl<|g_<|c_<|d_<|d_<|a_<|q_ 1 rfl<|b_ (z_ rfl Tryz.underlying53 (List.length_map _)) rfl rfl<|q_ 1 rfl<|g_<|c_<|t_<|S_ (ι := Nat × Nat) (fun z => [.blk b6 59 b.abs, .blk b4 62 (chL pz (.v (.slice none 0 0)))]) (fun z => [(0, sgnsA l), (1, int n), (4, ptr b4), (6, ptr b6), (8, int (b.seq + ((z.2 : Nat) : Int))), (28, sgnsA l), (29, int (l.length : Nat)), (30, int (z.1 : Nat))]) (fun z => z.1 ≤ l.length ∧ z.2 = (l.take z.1).foldl (farIn b.seq) 0) (fun z => l.length - z.1) (0, 0) (⟨Nat.zero_le _, rfl⟩) (by exact ⟨rfl, rfl, rfl, rfl, rfl, rfl, rfl, rfl, trivial⟩) sr_ ?_
 intro z hz
 refine d_<|a_<|q_ 1 rfl<|g_<|c_<|d_<|r_ rfl ?_ ?_
 ·intro hc31
  have hlt : z.1 < l.length := by omega
  refine p_<|c_<|d_<|t_<|d_<|a_<|b_ (D_ tabOk Tryz.underlying53 rfl rfl rfl rfl (aa_ (by omega)) rfl rfl) rfl rfl ?_
  refine b_ (K_ tabOk rfl rfl rfl rfl) rfl rfl<|eb_ (B_ tabOk rfl) rfl rfl fun b10=>?_
  refine e_ (w_ (L' := (l[z.1]'hlt).abs) tabOk rfl rfl rfl u0_ rfl (Nat.le_of_ble_eq_true rfl) rfl (by exact A_ rfl)) rfl rfl ?_
  refine g_<|c_<|d_<|a_<|q_ 2 rfl<|b_ (m_ (C := prfsA (l[z.1]'hlt).chg.prepared) (h_ tabOk rfl rfl l0_ List.not_mem_nil rfl) rfl) rfl rfl<|b_ (z_ rfl Tryz.underlying24 (List.length_map _)) rfl rfl<|q_ 1 rfl<|g_<|c_<|t_<|S_ (ι := Nat × Nat) (fun y => [.blk b6 59 b.abs, .blk b4 62 (chL pz (.v (.slice none 0 0)))]) (fun y => [(0, sgnsA l), (1, int n), (4, ptr b4), (6, ptr b6), (8, int (b.seq + ((y.2 : Nat) : Int))), (28, sgnsA l), (29, int (l.length : Nat)), (30, int (z.1 : Nat)), (36, prfsA (l[z.1]'hlt).chg.prepared), (37, int ((l[z.1]'hlt).chg.prepared.length : Nat)), (38, int (y.1 : Nat))]) (fun y => y.1 ≤ (l[z.1]'hlt).chg.prepared.length ∧ y.2 = ((l[z.1]'hlt).chg.prepared.take y.1).foldl (farSt b.seq) z.2) (fun y => (l[z.1]'hlt).chg.prepared.length - y.1) (0, z.2) (⟨Nat.zero_le _, rfl⟩) (by exact ⟨rfl, rfl, rfl, rfl, rfl, rfl, rfl, rfl, rfl, rfl, rfl, trivial⟩) (sk_ sr_) ?_
  intro y hy
  refine d_<|a_<|q_ 1 rfl<|g_<|c_<|d_<|r_ rfl ?_ ?_
  rotate_left
  ·intro hc39
   refine Q_<|i_ nofun<|i_ nofun<|P_<|o_<|c_<|a_<|b_ (s_ rfl rfl (by simp only [InR, lo, hi]; omega)) rfl rfl ?_
   refine q_ 1 rfl<|g_<|x_ (z.1 + 1, y.2) (by omega) (⟨by dsimp only; omega, by dsimp only; rw [W_ _ _ hlt, ← hz.2, hy.2, a1_ _ _ (by omega)]; rfl⟩) (by exact ⟨rfl, rfl, rfl, rfl, rfl, rfl, rfl, rfl, trivial⟩) sr_
  intro hc39
  have hly : y.1 < (l[z.1]'hlt).chg.prepared.length := by omega
  have hpl := (hl _ (List.getElem_mem hlt)).asked.1.1
  have hxs := ((hl _ (List.getElem_mem hlt)).lits.prep _ (List.getElem_mem hly)).seq
  refine p_<|c_<|d_<|t_<|d_<|a_<|b_ (D_ tabOk Tryz.underlying24 rfl rfl rfl rfl (aa_ (by omega)) rfl rfl) rfl rfl ?_
  refine b_ (K_ tabOk rfl rfl rfl rfl) rfl rfl<|eb_ (B_ tabOk rfl) rfl rfl fun b12=>?_
  refine e_ (w_ (L' := ((l[z.1]'hlt).chg.prepared[y.1]'hly).abs) tabOk rfl rfl rfl u0_ rfl (Nat.le_of_ble_eq_true rfl) rfl (by exact A_ rfl)) rfl rfl ?_
  refine g_<|c_<|d_<|a_<|q_ 1 rfl<|b_ (m_ (C := int ((l[z.1]'hlt).chg.prepared[y.1]'hly).seq) (h_ tabOk rfl rfl l0_ List.not_mem_nil rfl) rfl) rfl rfl<|q_ 1 rfl<|b_ (m_ (C := int b.seq) (h_ tabOk rfl rfl l1_ List.not_mem_nil rfl) rfl) rfl rfl<|q_ 2 rfl<|C_ (t := 47) rfl ?_ ?_
  rotate_left
  ·intro hc47
   refine q_ 9 rfl<|g_<|c_<|V_ rfl<|p_<|o_<|c_<|a_<|b_ (s_ rfl rfl (by simp only [InR, lo, hi]; omega)) rfl rfl ?_
   refine q_ 1 rfl<|g_<|x_ (y.1 + 1, y.2) (by omega) (⟨by dsimp only; omega, by dsimp only; rw [W_ _ _ hly, ← hy.2]; exact (if_neg (fun h9 => by omega)).symm⟩) (by exact ⟨rfl, rfl, rfl, rfl, rfl, rfl, rfl, rfl, rfl, rfl, rfl, trivial⟩) (sk_ sr_)
  intro hc47
  have hdw := dW_eq hxs hbs hc47
  refine q_ 1 rfl<|b_ (m_ (C := int ((l[z.1]'hlt).chg.prepared[y.1]'hly).seq) (h_ tabOk rfl rfl l0_ List.not_mem_nil rfl) rfl) rfl rfl<|b_ (aw_ rfl Tryz.underlying134 (by kernel_rfl)) rfl rfl ?_
  refine q_ 1 rfl<|b_ (m_ (C := int b.seq) (h_ tabOk rfl rfl l1_ List.not_mem_nil rfl) rfl) rfl rfl<|b_ (aw_ rfl Tryz.underlying134 (by kernel_rfl)) rfl rfl ?_
  refine b_ (m_ (C := .v (.int .u64 (dW ((l[z.1]'hlt).chg.prepared[y.1]'hly).seq b.seq))) (gw_ rfl rfl) rfl) rfl rfl<|q_ 2 rfl<|g_<|c_<|r_ rfl ?_ ?_
  rotate_left
  ·intro hc56
   try rw [hdw] at hc56
   refine p_<|o_<|c_<|a_<|b_ (s_ rfl rfl (by simp only [InR, lo, hi]; omega)) rfl rfl ?_
   refine q_ 1 rfl<|g_<|x_ (y.1 + 1, y.2) (by omega) (⟨by dsimp only; omega, by dsimp only; rw [W_ _ _ hly, ← hy.2]; exact (if_neg (fun h9 => by omega)).symm⟩) (by exact ⟨rfl, rfl, rfl, rfl, rfl, rfl, rfl, rfl, rfl, rfl, rfl, trivial⟩) (sk_ sr_)
  intro hc56
  rw [hdw] at hc56
  refine a_<|q_ 2 rfl<|b_ (m_ (C := int ((l[z.1]'hlt).chg.prepared[y.1]'hly).seq) (h_ tabOk rfl rfl l0_ List.not_mem_nil rfl) rfl) rfl rfl<|b_ (m_ (C := int (b.seq + ((max y.2 (((l[z.1]'hlt).chg.prepared[y.1]'hly).seq - b.seq).toNat : Nat) : Int))) (gB_ rfl rfl) (congrArg int (far_top hc47))) rfl rfl<|q_ 1 rfl<|g_<|o_<|c_<|a_<|b_ (s_ rfl rfl (by simp only [InR, lo, hi]; omega)) rfl rfl ?_
  refine q_ 1 rfl<|g_<|x_ (y.1 + 1, max y.2 (((l[z.1]'hlt).chg.prepared[y.1]'hly).seq - b.seq).toNat) (by omega) (⟨by dsimp only; omega, by dsimp only; rw [W_ _ _ hly, ← hy.2]; exact (if_pos ⟨hc47, by omega⟩).symm⟩) (by exact ⟨rfl, rfl, rfl, rfl, rfl, rfl, rfl, rfl, rfl, rfl, rfl, trivial⟩) (sk_ sr_)
 intro hc31
 have hzf : z.2 = farF l b.seq := by
  rw [hz.2, a1_ _ _ (by omega)]
  rfl
 rw [← hzf] at hfo
 obtain ⟨hf8, hfm⟩ := hfo
 simp only [InR, lo, hi] at hbs
 refine Q_<|i_ nofun<|i_ nofun<|P_<|c_<|d_<|a_<|b_ (m_ (C := .agg b.abs) (F_ tabOk rfl rfl rfl l0_ List.not_mem_nil (Pnt.size _)) rfl) rfl rfl<|b_ (m_ (C := .agg (chL b (.v (.slice none 0 0)))) (J_ tabOk rfl rfl rfl (ln_ (Z := pz.abs) (Pnt.size _) rfl)) rfl) rfl rfl<|eb_ (B_ tabOk rfl) rfl rfl fun b13=>?_
 refine e_ (w_ (L' := chL b (.v (.slice none 0 0))) tabOk rfl rfl rfl u0_ (T_ _ _) (Nat.le_of_ble_eq_true rfl) (aK_ _ rfl) (by exact A_ (T_ _ _))) rfl rfl ?_
 refine g_<|c_<|d_<|d_<|a_<|q_ 1 rfl<|b_ (m_ (C := int (b.seq + ((0 : Nat) : Int))) (h_ tabOk rfl rfl l1_ List.not_mem_nil rfl) (congrArg int (by omega))) rfl rfl ?_
 refine q_ 1 rfl<|g_<|c_<|t_<|bO_ 75 1<|S_ (ι := Nat × Value) (fun w => [own 75 1 w.2 ((numsF l n b.seq w.1).map fun e => [entsA e]), .blk b13 62 (chL b (.v w.2)), .blk b6 59 b.abs, .blk b4 62 (chL pz (.v (.slice none 0 0)))]) (fun w => [(0, sgnsA l), (1, int n), (4, ptr b4), (6, ptr b6), (8, int (b.seq + ((z.2 : Nat) : Int))), (13, ptr b13), (14, int (b.seq + ((w.1 : Nat) : Int)))]) (fun w => w.1 ≤ z.2 ∧ allNums l n b.seq w.1 = true) (fun w => z.2 - w.1) (0, .slice none 0 0) (⟨Nat.zero_le _, rfl⟩) (by exact ⟨rfl, rfl, rfl, rfl, rfl, rfl, rfl, trivial⟩) sr_ ?_
 intro w hw
 refine d_<|d_<|a_<|q_ 3 rfl<|g_<|c_<|r_ rfl ?_ ?_
 rotate_left
 ·intro hc69
  have hwe : w.1 = z.2 := by omega
  refine Q_<|i_ nofun<|i_ nofun<|P_<|c_<|d_<|cA_ [] 33 rfl u0_ (cH_ _ _) ?_
  rw [gn_]
  refine a_<|b_ (m_ (C := .agg (chL b (.sl 1 ((numsF l n b.seq w.1).map fun e => [entsA e])))) (F_ tabOk rfl rfl rfl l0_ List.not_mem_nil (T_ _ _)) rfl) rfl rfl<|e_ (w_ (L' := chL b (.sl 1 ((numsF l n b.seq w.1).map fun e => [entsA e]))) tabOk rfl rfl rfl u2_ (T_ _ _) (eo_ _ _) (aK_ _ rfl) (by exact A_ ((T_ _ _).trans (T_ _ _).symm))) rfl rfl ?_
  refine q_ 1 rfl<|g_<|c_<|n_<|f_ (rs := [.cell 4 62, .tmp 5]) rfl (RV.cell rfl (RV.cellA tabOk rfl rfl l2_ ((T_ _ _))) (RV.tmp rfl RV.nil)) (()) sn_ ?_
  rw [hwe, hzf] at hw ⊢
  rw [d3_ hbf hw.2]
  rfl
 intro hc69
 refine p_<|c_<|d_<|t_<|d_<|a_<|q_ 3 rfl<|b_ (s_ rfl rfl (by simp only [InR, lo, hi]; omega)) rfl rfl ?_
 refine u_ (kt_ (n := n) (seq := b.seq + ((w.1 : Nat) : Int) + 1) ⟨h1, h7⟩ hl hn) Casts.refl (by kernel_rfl) rfl rfl rfl ?_
 refine ap_<|fun _=>q_ 5 rfl<|g_<|c_<|d_<|d_<|a_<|q_ 1 rfl<|b_ (ai_ rfl) rfl rfl<|g_<|c_<|ac_ rfl ?_ ?_
 ·intro hc81
  refine d_<|a_<|b_ (m_ (C := .agg (chL pz (.v (.slice none 0 0)))) (J_ tabOk rfl rfl rfl rfl) rfl) rfl rfl<|e_ (w_ (L' := chL pz (.v (.slice none 0 0))) tabOk rfl rfl rfl u3_ (T_ _ _) (eo_ _ _) (aK_ _ rfl) (by exact A_ ((T_ _ _).trans (T_ _ _).symm))) rfl rfl ?_
  refine q_ 1 rfl<|g_<|c_<|n_<|i_ nofun<|E_<|i_ nofun<|i_ nofun<|E_<|i_ nofun<|fC_ (rs := [.cell 4 62, .tmp 5]) rfl (RV.cell rfl (RV.cellA tabOk rfl rfl l3_ ((T_ _ _))) (RV.tmp rfl RV.nil)) (Casts.cons (aN_ cG_) Casts.refl) (()) sn_ ?_
  rw [fl_ hbf (fT_ (k := w.1) (by simpa using hc81) (by rw [← hzf]; omega))]
  rfl
 intro hc81
 have hnl : (numF l n (b.seq + ((w.1 : Nat) : Int) + 1)).1.length ≤ 10 := iS_ hl
 refine p_<|c_<|lN_ fun hnod => ?_
 have hbx : b13 ∉ (mids [own 75 1 w.2 ((numsF l n b.seq w.1).map fun e => [entsA e])] ++ []) := by
  intro hm
  have h9 : (w.2.ownBlock.toList ++ [b13, b6, b4]).Nodup := hnod
  exact (List.nodup_append.1 h9).2.2 b13 (by simpa [mids, It.mids, ownPc] using hm) b13 (by simp) rfl
 refine bg_ (mids [own 75 1 w.2 ((numsF l n b.seq w.1).map fun e => [entsA e])] ++ []) (.q 0 (.q 1 (.q 3 (.e 2 (.e 4 (.e 5 (.e 6 (.q 7 .nil)))))))) (by kernel_rfl) (by kernel_rfl) ?_
 refine ag_ (by (intro k hk; simp [mids, It.mids, ownPc, mapPc, mapAtPc] at hk ⊢; grind)) fun hx9 => ?_
 refine qx_ 1 hx9 rfl<|l_ rfl (m_ (C := .v w.2) (h_ tabOk rfl rfl l1_ hbx (cH_ _ _)) rfl) hx9 rfl rfl<|qx_ 1 hx9 rfl<|gE_ [own 75 1 w.2 ((numsF l n b.seq w.1).map fun e => [entsA e])] [] rfl (cm_ (xs := []) tabOk Tryz.underlying75 rfl rfl rfl rfl rfl rfl rfl) rfl (by simp) rfl rfl ?_
 rintro _ _ ⟨r85, rfl, rfl⟩
 refine ⟨[own 82 8 r85 [], own 75 1 w.2 ((numsF l n b.seq w.1).map fun e => [entsA e])], rfl, it_ (mids [own 75 1 w.2 ((numsF l n b.seq w.1).map fun e => [entsA e])] ++ []) rfl (ak_ (zs := ((numF l n (b.seq + ((w.1 : Nat) : Int) + 1)).1).map fun e => e.cells.map Abs.v) tabOk [] (List.nil_append _) Tryz.underlying75 rfl rfl rfl rfl rfl rfl (hf_ _) (by unfold maxLen; simp only [List.length_map, List.length_nil]; omega) (by rw [show Tryz.prog.bytesOf 82 = 80 by kernel_rfl]; simp only [List.length_map, List.length_nil]; omega)) (by intro k hk; simp [mids, It.mids, ownPc] at hk ⊢; simp [hk]) (by intro k hk; simp [mids, It.mids, ownPc] at hk ⊢; simp [hk]) rfl rfl ?_⟩
 rintro _ _ ⟨r87, rfl, rfl⟩
 refine hA_ [] (t := 87) rfl rfl<|ex_ rfl (ae_ tabOk Tryz.underlying60 rfl rfl rfl rfl rfl rfl rfl) (by simp) rfl rfl ?_
 refine gE_ [own 75 1 w.2 ((numsF l n b.seq w.1).map fun e => [entsA e])] [] rfl (ak_ (zs := ((numsF l n b.seq (w.1 + 1)).map fun e => [entsA e])) tabOk [] (by rw [fJ_, List.map_append]; rfl) Tryz.underlying60 rfl rfl rfl rfl rfl rfl (by intro c hc; rw [List.mem_singleton] at hc; subst hc; rfl) (by unfold maxLen; simp only [List.length_map, bU_, List.length_cons, List.length_nil]; omega) (by rw [show Tryz.prog.bytesOf 75 = 24 by kernel_rfl]; simp only [List.length_map, bU_, List.length_cons, List.length_nil]; omega)) rfl (by intro k hk; simp [mids, It.mids, ownPc] at hk ⊢; simp [hk]) rfl rfl ?_
 rintro _ _ ⟨r89, rfl, rfl⟩
 refine ⟨[own 75 1 r89 ((numsF l n b.seq (w.1 + 1)).map fun e => [entsA e])], rfl, ag_ (by (intro k hk; simp [mids, It.mids, ownPc, mapPc, mapAtPc] at hk ⊢; grind)) fun hx9 => ?_⟩
 refine qx_ 1 hx9 rfl<|N_<|bI_ rfl (cl_ (L' := chL b (.v r89)) tabOk rfl rfl rfl rfl i0_ u1_ (lo_ _ _) (gn_ _ _ _)) rfl rfl ?_
 rintro _ _ ⟨rfl, rfl⟩
 refine o_<|c_<|a_<|q_ 1 rfl<|b_ (m_ (C := int (b.seq + (((w.1 + 1) : Nat) : Int))) (s_ rfl rfl (by simp only [InR, lo, hi]; omega)) (congrArg int (by omega))) rfl rfl ?_
 refine q_ 1 rfl<|g_<|x_ (w.1 + 1, r89) (by omega) (⟨by dsimp only; omega, fq_ hw.2 (by simpa using hc81)⟩) (by exact ⟨rfl, rfl, rfl, rfl, rfl, rfl, rfl, trivial⟩) sr_
end
structure RAk where
  from_ : Int
  of_ : Int
  k : Sd
def RAk.abs (a : RAk) : List Abs := int a.from_ :: int a.of_ :: int a.k.view :: digA a.k.dig
theorem RAk.size (a : RAk) : a.abs.length = 35 := by simp [RAk.abs, digA, a.k.len]
theorem RAk.ones (a : RAk) : ones a.abs = true := by
  rw [bE_]; intro c hc
  simp only [RAk.abs, List.mem_cons] at hc
  rcases hc with rfl | rfl | rfl | hc
  · rfl
  · rfl
  · rfl
  · obtain ⟨b, _, rfl⟩ := List.mem_map.1 hc; rfl
theorem RAk.dig (a : RAk) : Abs.agg (part a.abs 3 32) = .agg (digA a.k.dig) := by
  unfold A.part RAk.abs
  rw [List.drop_succ_cons, List.drop_succ_cons, List.drop_succ_cons, List.drop_zero, List.take_of_length_le (by simp [digA, a.k.len])]
abbrev acksA (l : List RAk) : Abs := .sl 35 (l.map RAk.abs)
theorem rak_fill {a : RAk} {place : Nat → Option (Nat × Nat)} {Z : List Abs} (hZ : Z.length = 35) (h0 : place 0 = some (0, 1)) (h1 : place 1 = some (1, 1)) (h2 : place 2 = some (2, 1)) (h3 : place 3 = some (3, 32)) : fillA place Z [(0, int a.from_), (1, int a.of_), (2, int a.k.view), (3, .agg (digA a.k.dig))] = some a.abs := by
  have hd : (digA a.k.dig).length = 32 := by simp [digA, a.k.len]
  match Z, hZ with
  | z0 :: z1 :: z2 :: Z, hZ =>
    have hZ2 : Z.length = 32 := by simpa using hZ
    have p1 : putL (z0 :: z1 :: z2 :: Z) 0 [int a.from_] = int a.from_ :: z1 :: z2 :: Z := rfl
    have p2 : putL (int a.from_ :: z1 :: z2 :: Z) 1 [int a.of_] = int a.from_ :: int a.of_ :: z2 :: Z := rfl
    have p3 : putL (int a.from_ :: int a.of_ :: z2 :: Z) 2 [int a.k.view] = int a.from_ :: int a.of_ :: int a.k.view :: Z := rfl
    have p4 : putL (int a.from_ :: int a.of_ :: int a.k.view :: Z) 3 (digA a.k.dig) = a.abs := by
      rw [b9_ _ _ _ (by simp), List.drop_eq_nil_of_le (by simp only [List.length_cons]; omega), List.append_nil]
      rfl
    simp only [fillA, h0, h1, h2, h3, cellsA, p1, p2, p3, p4, hd, hZ2, List.length_cons, List.length_nil]
    rfl
section
variable {RL : List Sgn} {RA : List RAk} {who : Int} {i : Nat} {c : Chg} {n : Nat} {k : Sd} {D : List (ByteArray × Nat)} {view : Int} {s : Sgn}
/-! ### what is kept -/
def keptR (RL : List Sgn) (who : Int) : Option Chg := (RL.find? fun s => decide (s.who = who)).map (·.chg)
theorem keptR_at (h : i < RL.length) (hi : RL[i].who = who) (hz : ∀ j (hj : j < RL.length), j < i → ¬ RL[j].who = who) : keptR RL who = some RL[i].chg := by
  unfold keptR
  rw [(List.find?_eq_some_iff_getElem (p := fun s : Sgn => decide (s.who = who))).2 ⟨decide_eq_true hi, i, h, rfl, fun j hj => by simpa using hz j (by omega) hj⟩]
  rfl
theorem iY_ (hz : ∀ j (hj : j < RL.length), j < i → ¬ RL[j].who = who) (hi : RL.length ≤ i) : keptR RL who = none := by
  unfold keptR
  rw [List.find?_eq_none.2 fun x hx => by
    obtain ⟨j, hj, rfl⟩ := List.getElem_of_mem hx
    simpa using hz j hj (by omega)]
  rfl
theorem ha_ (h : keptR RL who = some c) : ∃ s ∈ RL, s.who = who ∧ s.chg = c := by
  unfold keptR at h
  obtain ⟨s, h1, h2⟩ := Option.map_eq_some_iff.1 h
  exact ⟨s, List.mem_of_find?_eq_some h1, by simpa using List.find?_some h1, h2⟩
noncomputable def rtakeE (n : Nat) (RL : List Sgn) (who : Int) (c : Chg) : Int := if ¬ (0 ≤ who ∧ who < n) then 17 else if c.check n ≠ 0 then c.check n else match keptR RL who with
  | some k => laterE c.view k.view
  | none => 0
def tkAt (RL : List Sgn) (who : Int) (c : Chg) (i : Nat) : Option Sgn := if (i : Int) = who then some ⟨who, c⟩ else (keptR RL i).map fun d => ⟨(i : Int), d⟩
def tkTo (RL : List Sgn) (who : Int) (c : Chg) (q : Nat) : List Sgn := (List.range q).filterMap (tkAt RL who c)
noncomputable def rtakeL (n : Nat) (RL : List Sgn) (who : Int) (c : Chg) : List Sgn := if rtakeE n RL who c = 0 then tkTo RL who c n else RL
theorem tk_no (h : tkAt RL who c i = none) : tkTo RL who c (i + 1) = tkTo RL who c i := by
  unfold tkTo
  rw [List.range_succ, List.filterMap_append, List.filterMap_cons, h]
  simp
theorem iB_ {s : Sgn} (h : tkAt RL who c i = some s) : tkTo RL who c (i + 1) = tkTo RL who c i ++ [s] := by
  unfold tkTo
  rw [List.range_succ, List.filterMap_append, List.filterMap_cons, h]
  simp
theorem eh_ : (tkTo RL who c i).length ≤ i := by
  unfold tkTo
  exact Nat.le_trans (List.length_filterMap_le ..) (by rw [List.length_range]; omega)
theorem ki_ (h : (i : Int) = who) : tkAt RL who c i = some ⟨who, c⟩ := if_pos h
theorem gK_ (h : ¬ (i : Int) = who) {d : Chg} (h2 : keptR RL i = some d) : tkAt RL who c i = some ⟨(i : Int), d⟩ := by unfold tkAt; rw [if_neg h, h2]; rfl
theorem gJ_ (h : ¬ (i : Int) = who) (h2 : keptR RL i = none) : tkAt RL who c i = none := by unfold tkAt; rw [if_neg h, h2]; rfl
/-! ### how many -/
def fromR (RL : List Sgn) (view : Int) : Nat := RL.countP fun s => decide (view ≤ s.chg.view)
theorem jS_ (h : i < RL.length) : fromR (RL.take (i + 1)) view = fromR (RL.take i) view + if view ≤ RL[i].chg.view then 1 else 0 := by
  unfold fromR
  rw [List.take_succ_eq_append_getElem h, List.countP_append, List.countP_singleton]
  simp only [decide_eq_true_eq]
def jst (view : Int) (a : Nat × Int) (s : Sgn) : Nat × Int := if view < s.chg.view then (a.1 + 1, if a.1 = 0 ∨ s.chg.view < a.2 then s.chg.view else a.2) else a
def joinF (RL : List Sgn) (view : Int) : Nat × Int := RL.foldl (jst view) (0, 0)
def joinRR (RL : List Sgn) (n : Int) (view : Int) : Int × Bool := if ((joinF RL view).1 : Int) ≤ fN n then (0, false) else ((joinF RL view).2, true)
/-! ### acks -/
def sameA (who seq : Int) (a : RAk) : Bool := decide (a.from_ = who) && decide (a.of_ = seq)
def rackE (n : Nat) (RA : List RAk) (who seq : Int) (k : Sd) : Int := if ¬ ((0 ≤ who ∧ who < n) ∧ 0 ≤ seq ∧ seq < n) then 17 else match RA.find? fun a => sameA who seq a && decide (k.view ≤ a.k.view) with
  | some a => laterE k.view a.k.view
  | none => 0
def rackR (RA : List RAk) (who seq : Int) : List RAk := RA.filter fun a => !sameA who seq a
def rackL (n : Nat) (RA : List RAk) (who seq : Int) (k : Sd) : List RAk := if rackE n RA who seq k = 0 then rackR RA who seq ++ [⟨who, seq, k⟩] else RA
theorem g0_ (h : i < RA.length) {seq : Int} (h2 : sameA who seq RA[i] = false) : rackR (RA.take (i + 1)) who seq = rackR (RA.take i) who seq ++ [RA[i]] := by
  unfold rackR
  rw [List.take_succ_eq_append_getElem h, List.filter_append, List.filter_cons, h2]
  rfl
theorem rackR_no (h : i < RA.length) {seq : Int} (h2 : sameA who seq RA[i] = true) : rackR (RA.take (i + 1)) who seq = rackR (RA.take i) who seq := by
  unfold rackR
  rw [List.take_succ_eq_append_getElem h, List.filter_append, List.filter_cons, h2]
  simp
theorem b8_ {seq : Int} : (rackR RA who seq).length ≤ RA.length := List.length_filter_le _ _
theorem iP_ {seq : Int} (hin : (0 ≤ who ∧ who < n) ∧ 0 ≤ seq ∧ seq < n) (h : i < RA.length) (h2 : sameA who seq RA[i] = true) (h3 : k.view ≤ RA[i].k.view) (hz : ∀ j (hj : j < RA.length), j < i → (sameA who seq RA[j] && decide (k.view ≤ RA[j].k.view)) = false) : rackE n RA who seq k = laterE k.view RA[i].k.view := by
  unfold rackE
  rw [if_neg (fun h9 => h9 hin), List.find?_eq_some_iff_getElem.2 ⟨by rw [h2, decide_eq_true h3]; rfl, i, h, rfl, fun j hj => by rw [hz j (by omega) hj]; rfl⟩]
theorem rackE_no {seq : Int} (hin : (0 ≤ who ∧ who < n) ∧ 0 ≤ seq ∧ seq < n) (hz : ∀ j (hj : j < RA.length), j < i → (sameA who seq RA[j] && decide (k.view ≤ RA[j].k.view)) = false) (hi : RA.length ≤ i) : rackE n RA who seq k = 0 := by
  unfold rackE
  rw [if_neg (fun h9 => h9 hin), List.find?_eq_none.2 fun x hx => by
    obtain ⟨j, hj, rfl⟩ := List.getElem_of_mem hx
    rw [hz j hj (by omega)]
    decide]
def voteB (of_ : Int) (k : Sd) (a : RAk) : Bool := decide (a.of_ = of_) && decide (a.k.view = k.view) && decide (a.k.dig = k.dig)
def votR (RA : List RAk) (of_ : Int) (k : Sd) : Nat := RA.countP (voteB of_ k)
theorem votR_yes (h : i < RA.length) {of_ : Int} (h2 : voteB of_ k RA[i] = true) : votR (RA.take (i + 1)) of_ k = votR (RA.take i) of_ k + 1 := by
  unfold votR
  rw [List.take_succ_eq_append_getElem h, List.countP_append, List.countP_cons_of_pos h2]
  rfl
theorem hF_ (h : i < RA.length) {of_ : Int} (h2 : voteB of_ k RA[i] = false) : votR (RA.take (i + 1)) of_ k = votR (RA.take i) of_ k := by
  unfold votR
  rw [List.take_succ_eq_append_getElem h, List.countP_append, List.countP_cons_of_neg (by rw [h2]; decide)]
  rfl
theorem votR_le {of_ : Int} : votR RA of_ k ≤ RA.length := List.countP_le_length
/-! ### certain, real -/
noncomputable def certB (n : Nat) (D : List (ByteArray × Nat)) (RA : List RAk) (view : Int) (s : Sgn) : Bool := decide (s.chg.view = view) && decide (2 * fN n + 1 ≤ ((votR RA s.who (sdOf D s.chg) : Nat) : Int))
noncomputable def certR (n : Nat) (D : List (ByteArray × Nat)) (RA : List RAk) (view : Int) (RL : List Sgn) : List Sgn := RL.filter (certB n D RA view)
theorem lq_ (h : i < RL.length) (h2 : certB n D RA view RL[i] = true) : certR n D RA view (RL.take (i + 1)) = certR n D RA view (RL.take i) ++ [RL[i]] := by
  unfold certR
  rw [List.take_succ_eq_append_getElem h, List.filter_append, List.filter_cons, h2]
  rfl
theorem jf_ (h : i < RL.length) (h2 : certB n D RA view RL[i] = false) : certR n D RA view (RL.take (i + 1)) = certR n D RA view (RL.take i) := by
  unfold certR
  rw [List.take_succ_eq_append_getElem h, List.filter_append, List.filter_cons, h2]
  simp
theorem fm_ : (certR n D RA view RL).length ≤ RL.length := List.length_filter_le _ _
noncomputable def sameR (RL : List Sgn) (s : Sgn) : Bool := match keptR RL s.who with
  | some c => yes (c = s.chg)
  | none => false
noncomputable def realDR (D : List (ByteArray × Nat)) (RL : List Sgn) (s : Sgn) : List (ByteArray × Nat) := if sameR RL s = true then D else pm D (dKey s.chg.bytes)
noncomputable def realBR (D : List (ByteArray × Nat)) (n : Nat) (RL : List Sgn) (RA : List RAk) (s : Sgn) : Bool := sameR RL s || decide (fN n + 1 ≤ ((votR RA s.who (sdOf D s.chg) : Nat) : Int))
/-! ### admitted -/
def allR (B : List (ByteArray × Nat) → Sgn → Bool) (Dn : List (ByteArray × Nat) → Sgn → List (ByteArray × Nat)) : List (ByteArray × Nat) → List Sgn → List (ByteArray × Nat) × Bool
  | D, [] => (D, true)
  | D, s :: l => if B D s = true then allR B Dn (Dn D s) l else (Dn D s, false)
section
variable {B : List (ByteArray × Nat) → Sgn → Bool} {Dn : List (ByteArray × Nat) → Sgn → List (ByteArray × Nat)} {D : List (ByteArray × Nat)} {l : List Sgn} {i : Nat}
theorem jk_ (h : i < l.length) (hb : B D l[i] = true) : allR B Dn D (l.drop i) = allR B Dn (Dn D l[i]) (l.drop (i + 1)) := by
  rw [List.drop_eq_getElem_cons h]
  exact if_pos hb
theorem lv_ (h : i < l.length) (hb : B D l[i] = false) : allR B Dn D (l.drop i) = (Dn D l[i], false) := by
  rw [List.drop_eq_getElem_cons h]
  exact if_neg (by rw [hb]; decide)
theorem jl_ (h : l.length ≤ i) : allR B Dn D (l.drop i) = (D, true) := by
  rw [List.drop_eq_nil_of_le h]
  rfl
end
def admO (e : Int) (ok : Bool) (ch : Chc × Int) : Chc × Int := if e ≠ 0 then (Chc.zero, e) else if ok = true then ch else (Chc.zero, 16)
def admTo (e : Int) (D D2 : List (ByteArray × Nat)) : List (ByteArray × Nat) := if e ≠ 0 then D else D2
theorem jq_ {e : Int} {ok : Bool} {ch : Chc × Int} (h : e ≠ 0) : admO e ok ch = (Chc.zero, e) := if_pos h
theorem ly_ {e : Int} {ok : Bool} {ch : Chc × Int} (h : ¬ e ≠ 0) (h2 : ok = false) : admO e ok ch = (Chc.zero, 16) := (if_neg h).trans (if_neg (by rw [h2]; decide))
theorem jp_ {e : Int} {ok : Bool} {ch : Chc × Int} (h : ¬ e ≠ 0) (h2 : ok = true) : admO e ok ch = ch := (if_neg h).trans (if_pos h2)
end
theorem ll_ : Casts [int 0, int 0, (.v (.slice none 0 0)), (.v (.slice none 0 0)), (.v (.slice none 0 0))] Chg.zero.abs := Casts.keep (Casts.keep (Casts.nils (Casts.nils (Casts.nils Casts.refl))))
section
variable {c : Chc}
theorem lc_ (hs : InR .i64 c.base.seq) (hb : ∀ b ∈ c.batches, b.length ≤ 1000000 ∧ ∀ e ∈ b, e.Lits) (hn : c.batches.length ≤ 1000000) : Spec Tryz.prog 31 [.agg c.abs, .agg c.abs] [] (fun _ : Unit => []) (fun _ => boo true) := by
 refine G_ Tryz.func31 rfl Tryz.ntmps31 rfl fun G w =>d_<|a_<|eb_ (L_ (cs := c.abs) rfl) rfl rfl fun b2=>?_
 refine eb_ (L_ (cs := c.abs) rfl) rfl rfl fun b3=>?_
 refine q_ 1 rfl<|g_<|c_<|d_<|d_<|a_<|q_ 1 rfl<|b_ (m_ (C := .agg c.base.abs) (H_ tabOk rfl rfl rfl l1_ List.not_mem_nil (ch_ple _ _)) (congrArg Abs.agg (lm_ _ _))) rfl rfl<|q_ 1 rfl<|b_ (m_ (C := .agg c.base.abs) (H_ tabOk rfl rfl rfl l0_ List.not_mem_nil (ch_ple _ _)) (congrArg Abs.agg (lm_ _ _))) rfl rfl<|b_ (m_ (C := boo false) (d8_ rfl rfl (bc_ _) (bc_ _) (by kernel_rfl) (neqP hs hs)) (by simp)) rfl rfl ?_
 refine q_ 2 rfl<|b_ (m_ (C := .sl 1 (c.batches.map fun b => [entsA b])) (h_ tabOk rfl rfl l1_ List.not_mem_nil (cH_ _ _)) rfl) rfl rfl<|b_ (z_ (m := c.batches.length) rfl Tryz.underlying60 (List.length_map _)) rfl rfl<|q_ 1 rfl<|b_ (m_ (C := .sl 1 (c.batches.map fun b => [entsA b])) (h_ tabOk rfl rfl l0_ List.not_mem_nil (cH_ _ _)) rfl) rfl rfl<|b_ (z_ (m := c.batches.length) rfl Tryz.underlying60 (List.length_map _)) rfl rfl<|b_ (m_ (C := boo false) (aX_ rfl rfl) (by simp)) rfl rfl ?_
 refine q_ 1 rfl<|g_<|c_<|V_ rfl<|p_<|c_<|d_<|d_<|a_<|q_ 1 rfl<|b_ (m_ (C := .sl 1 (c.batches.map fun b => [entsA b])) (h_ tabOk rfl rfl l1_ List.not_mem_nil (cH_ _ _)) rfl) rfl rfl<|b_ (z_ (m := c.batches.length) rfl Tryz.underlying60 (List.length_map _)) rfl rfl<|q_ 1 rfl<|g_<|c_<|t_<|S_ (ι := Nat) (fun z => [.blk b3 62 c.abs, .blk b2 62 c.abs]) (fun z => [(2, ptr b2), (3, ptr b3), (22, int (c.batches.length : Nat)), (23, int (z : Nat))]) (fun z => z ≤ c.batches.length) (fun z => c.batches.length - z) (0) (Nat.zero_le _) (by exact ⟨rfl, rfl, rfl, rfl, trivial⟩) sr_ ?_
 intro z hz
 refine d_<|a_<|q_ 1 rfl<|g_<|c_<|d_<|r_ rfl ?_ ?_
 rotate_left
 ·intro hc24
  exact Q_<|i_ nofun<|i_ nofun<|P_<|c_<|d_<|a_<|q_ 1 rfl<|g_<|c_<|n_<|f_ (rs := [.tmp 4]) rfl (RV.tmp rfl RV.nil) (()) sn_<|rfl
 intro hc24
 have hlt : z < c.batches.length := by omega
 refine p_<|c_<|d_<|t_<|d_<|a_<|q_ 2 rfl<|g_<|c_<|d_<|Y_ [] (.q 0 (.q 1 (.q 2 (.q 3 (.q 4 (.q 5 (.q 6 (.q 7 (.q 8 (.q 9 (.e 10 (.q 11 .nil)))))))))))) (by kernel_rfl) (by kernel_rfl) ?_
 refine qs_ 1 rfl<|ag_ (by (simp [mids, It.mids, ownPc, mapPc]; done)) fun hx9 => ?_
 refine l_ rfl (m_ (C := .sl 1 (c.batches.map fun b => [entsA b])) (h_ tabOk rfl rfl l1_ List.not_mem_nil (cH_ _ _)) rfl) hx9 rfl rfl<|qs_ 1 rfl<|l_ rfl (D_ (q := z) (cs := [entsA (c.batches[z]'hlt)]) tabOk Tryz.underlying60 rfl rfl rfl (by omega) (by rw [List.getElem?_map, List.getElem?_eq_getElem hlt]; rfl) rfl rfl) hx9 rfl rfl ?_
 refine l_ rfl (m_ (C := entsA (c.batches[z]'hlt)) (au_ tabOk rfl rfl rfl) rfl) hx9 rfl rfl<|qs_ 1 rfl<|l_ rfl (m_ (C := .sl 1 (c.batches.map fun b => [entsA b])) (h_ tabOk rfl rfl l0_ List.not_mem_nil (cH_ _ _)) rfl) hx9 rfl rfl<|qs_ 1 rfl<|l_ rfl (D_ (q := z) (cs := [entsA (c.batches[z]'hlt)]) tabOk Tryz.underlying60 rfl rfl rfl (by omega) (by rw [List.getElem?_map, List.getElem?_eq_getElem hlt]; rfl) rfl rfl) hx9 rfl rfl ?_
 refine l_ rfl (m_ (C := entsA (c.batches[z]'hlt)) (au_ tabOk rfl rfl rfl) rfl) hx9 rfl rfl<|I_ rfl (eB_ (es := (c.batches[z]'hlt)) (fs := (c.batches[z]'hlt)) (hb _ (List.getElem_mem hlt)).1 (hb _ (List.getElem_mem hlt)).2 (hb _ (List.getElem_mem hlt)).2) (by simp [mids, It.mids]) Casts.refl (by kernel_rfl) rfl rfl rfl ?_
 refine ap_ ?_
 intro _
 rw [show decide ((c.batches[z]'hlt) = (c.batches[z]'hlt)) = true from decide_eq_true rfl]
 refine l_ rfl (bG_ rfl) (by simp) rfl rfl ?_
 refine N_<|c_<|V_ rfl<|p_<|o_<|c_<|a_<|b_ (s_ rfl rfl (by simp only [InR, lo, hi]; omega)) rfl rfl ?_
 refine q_ 1 rfl<|g_<|x_ (z + 1) (by omega) ((by omega)) (by exact ⟨rfl, rfl, rfl, rfl, trivial⟩) sr_
end
section
variable {RL : List Sgn} {RA : List RAk} {who of_ seq view : Int} {r q bd bt n : Nat} {c : Chg} {s : Sgn} {k : Sd} {D : List (ByteArray × Nat)} 
theorem dS_ (hrl : RL.length ≤ 1000) : Spec Tryz.prog 22 [ptr r, int who] [.rd r 70 [ptr q, int (n : Nat), sgnsA RL, acksA RA]] (fun _ : Unit => []) (fun _ => .tup [.agg ((keptR RL who).getD Chg.zero).abs, boo (keptR RL who).isSome]) := by
 refine G_ Tryz.func22 rfl Tryz.ntmps22 rfl fun G w =>d_<|a_<|eb_ (B_ tabOk rfl) rfl rfl fun b4=>?_
 refine q_ 1 rfl<|g_<|c_<|d_<|d_<|a_<|q_ 3 rfl<|b_ (m_ (C := sgnsA RL) (h_ tabOk rfl rfl r1_ List.not_mem_nil rfl) rfl) rfl rfl<|b_ (z_ rfl Tryz.underlying53 (List.length_map _)) rfl rfl<|q_ 1 rfl<|g_<|c_<|t_<|S_ (ι := Nat) (fun z => [.blk b4 26 [int 0, int 0, (.v (.slice none 0 0)), (.v (.slice none 0 0)), (.v (.slice none 0 0))]]) (fun z => [(1, int who), (4, ptr b4), (11, sgnsA RL), (12, int (RL.length : Nat)), (13, int (z : Nat))]) (fun z => z ≤ RL.length ∧ ∀ j (hj : j < RL.length), j < z → ¬ RL[j].who = who) (fun z => RL.length - z) (0) (⟨Nat.zero_le _, fun j hj h => by omega⟩) (by exact ⟨rfl, rfl, rfl, rfl, rfl, trivial⟩) (sc_ sn_) ?_
 intro z hz
 refine d_<|a_<|q_ 1 rfl<|g_<|c_<|d_<|r_ rfl ?_ ?_
 rotate_left
 ·intro hc14
  refine Q_<|i_ nofun<|i_ nofun<|P_<|c_<|d_<|a_<|b_ (m_ (C := .agg [int 0, int 0, (.v (.slice none 0 0)), (.v (.slice none 0 0)), (.v (.slice none 0 0))]) (J_ tabOk rfl rfl rfl rfl) rfl) rfl rfl<|e_ (w_ (L' := [int 0, int 0, (.v (.slice none 0 0)), (.v (.slice none 0 0)), (.v (.slice none 0 0))]) tabOk rfl rfl rfl u0_ rfl (Nat.le_of_ble_eq_true rfl) rfl (by exact A_ rfl)) rfl rfl ?_
  refine q_ 1 rfl<|g_<|c_<|n_<|fC_ (rs := [.cell 4 26, .tmp 5]) rfl (RV.cell rfl (RV.cellA tabOk rfl rfl l0_ (by rfl)) (RV.tmp rfl RV.nil)) (Casts.cons (aN_ ll_) Casts.refl) (()) sn_ ?_
  rw [iY_ hz.2 (by omega)]
  rfl
 intro hc14
 have hlt : z < RL.length := by omega
 refine p_<|c_<|d_<|t_<|d_<|a_<|b_ (D_ tabOk Tryz.underlying53 rfl rfl rfl rfl (aa_ (by omega)) rfl rfl) rfl rfl ?_
 refine b_ (K_ tabOk rfl rfl rfl rfl) rfl rfl<|eb_ (B_ tabOk rfl) rfl rfl fun b7=>?_
 refine e_ (w_ (L' := (RL[z]'hlt).abs) tabOk rfl rfl rfl u0_ rfl (Nat.le_of_ble_eq_true rfl) rfl (by exact A_ rfl)) rfl rfl ?_
 refine g_<|c_<|d_<|a_<|q_ 1 rfl<|b_ (m_ (C := int (RL[z]'hlt).who) (h_ tabOk rfl rfl l0_ List.not_mem_nil rfl) rfl) rfl rfl<|q_ 2 rfl<|g_<|c_<|r_ rfl ?_ ?_
 rotate_left
 ·intro hc20
  refine p_<|o_<|c_<|a_<|b_ (s_ rfl rfl (by simp only [InR, lo, hi]; omega)) rfl rfl ?_
  refine q_ 1 rfl<|g_<|x_ (z + 1) (by omega) (⟨by omega, fun j hj hjz => by
   rcases Nat.lt_or_ge j z with h1 | h1
   ·exact hz.2 j hj h1
   obtain rfl : j = z := (by omega)
   exact hc20⟩) (by exact ⟨rfl, rfl, rfl, rfl, rfl, trivial⟩) (sk_ sr_)
 intro hc20
 refine d_<|a_<|q_ 1 rfl<|b_ (m_ (C := .agg (RL[z]'hlt).chg.abs) (H_ tabOk rfl rfl rfl l0_ List.not_mem_nil (Nat.le_of_ble_eq_true rfl)) rfl) rfl rfl<|e_ (w_ (L' := (RL[z]'hlt).chg.abs) tabOk rfl rfl rfl u1_ rfl (Nat.le_of_ble_eq_true rfl) rfl (by exact A_ rfl)) rfl rfl ?_
 refine q_ 1 rfl<|g_<|c_<|n_<|E_<|i_ nofun<|i_ nofun<|E_<|i_ nofun<|f_ (rs := [.cell 4 26, .tmp 5]) rfl (RV.cell rfl (RV.cellA tabOk rfl rfl l1_ (by rfl)) (RV.tmp rfl RV.nil)) (()) sn_ ?_
 rw [keptR_at hlt hc20 hz.2]
 rfl
set_option maxHeartbeats 2000000 in
theorem rtake_s (hc : CIn c) (h7 : n ≤ 7) (hw : intOk who) (hrl : RL.length ≤ 1000) : Spec Tryz.prog 21 [ptr r, int who, .agg c.abs] [.blk r 70 [ptr q, int (n : Nat), sgnsA RL, acksA RA]] (fun _ : Unit => [.blk r 70 [ptr q, int (n : Nat), sgnsA (rtakeL n RL who c), acksA RA]]) (fun _ => int (rtakeE n RL who c)) := by
 refine G_ Tryz.func21 rfl Tryz.ntmps21 rfl fun G w =>d_<|a_<|eb_ (L_ (cs := c.abs) rfl) rfl rfl fun b5=>?_
 refine q_ 1 rfl<|g_<|c_<|d_<|d_<|a_<|q_ 3 rfl<|C_ (t := 16) rfl ?_ ?_
 ·intro hc16
  refine q_ 7 rfl<|g_<|c_<|O_ rfl<|d_<|a_<|q_ 1 rfl<|g_<|c_<|n_<|i_ nofun ?_
  have hE : rtakeE n RL who c = 17 := if_pos (by omega)
  refine f_ (rs := [.tmp 6]) rfl (RV.tmp rfl RV.nil) (()) (by rw [show rtakeL n RL who c = RL from if_neg (by rw [hE]; decide)]; repeat (first | exact List.nil_sublist _ | exact List.Sublist.refl _ | apply List.Sublist.cons_cons | apply List.Sublist.cons)) ?_
  rw [hE]
  rfl
 intro hc16
 refine q_ 4 rfl<|b_ (m_ (C := int (n : Nat)) (h_ tabOk rfl rfl l1_ List.not_mem_nil rfl) rfl) rfl rfl<|q_ 2 rfl<|g_<|c_<|r_ rfl ?_ ?_
 ·intro hc23
  refine d_<|a_<|q_ 1 rfl<|g_<|c_<|n_<|i_ nofun ?_
  have hE : rtakeE n RL who c = 17 := if_pos (by omega)
  refine f_ (rs := [.tmp 6]) rfl (RV.tmp rfl RV.nil) (()) (by rw [show rtakeL n RL who c = RL from if_neg (by rw [hE]; decide)]; repeat (first | exact List.nil_sublist _ | exact List.Sublist.refl _ | apply List.Sublist.cons_cons | apply List.Sublist.cons)) ?_
  rw [hE]
  rfl
 intro hc23
 have hin : 0 ≤ who ∧ who < n := by omega
 refine p_<|c_<|d_<|d_<|Y_ [] (.q 0 (.q 1 (.q 2 (.q 3 (.q 4 (.e 5 (.q 6 .nil))))))) (by kernel_rfl) (by kernel_rfl) ?_
 refine ag_ (by (simp [mids, It.mids, ownPc, mapPc]; done)) fun hx9 => ?_
 refine l_ rfl (m_ (C := .agg c.abs) (H_ tabOk rfl rfl rfl l0_ List.not_mem_nil (Nat.le_of_ble_eq_true rfl)) rfl) hx9 rfl rfl<|qs_ 3 rfl<|l_ rfl (m_ (C := int (n : Nat)) (h_ tabOk rfl rfl l1_ List.not_mem_nil rfl) rfl) hx9 rfl rfl<|I_ rfl (rcheck_s (c := c) (n := ((n : Nat) : Int)) hc.asked.fit.prep hc.asked.fit.prop hc.asked.fit.pts hc.asked.fit.lprep hc.asked.fit.lprop) (by simp [mids, It.mids]) Casts.refl (by kernel_rfl) rfl rfl rfl ?_
 refine ap_<|fun _=>qs_ 1 rfl<|N_<|c_<|d_<|a_<|q_ 2 rfl<|g_<|c_<|r_ rfl ?_ ?_
 ·intro hc31
  have hE : rtakeE n RL who c = c.check n := by
   unfold rtakeE
   rw [if_neg (fun h => h hin), if_pos hc31]
  refine d_<|a_<|q_ 2 rfl<|g_<|c_<|n_<|i_ nofun<|f_ (rs := [.tmp 6]) rfl (RV.tmp rfl RV.nil) (()) (by rw [show rtakeL n RL who c = RL from if_neg (by rw [hE]; exact hc31)]; repeat (first | exact List.nil_sublist _ | exact List.Sublist.refl _ | apply List.Sublist.cons_cons | apply List.Sublist.cons)) ?_
  rw [hE]
  rfl
 intro hc31
 have hE0 : rtakeE n RL who c = match keptR RL who with | some k => laterE c.view k.view | none => 0 := by
  unfold rtakeE
  rw [if_neg (fun h => h hin), if_neg hc31]
  all_goals rfl
 refine p_<|c_<|d_<|a_<|q_ 2 rfl<|u_ (dS_ (r := r) (q := q) (n := n) (RL := RL) (RA := RA) (who := who) hrl) Casts.refl (by kernel_rfl) rfl rfl rfl ?_
 refine ap_<|fun _=>q_ 3 rfl<|eb_ (B_ tabOk rfl) rfl rfl fun b8=>?_
 refine e_ (w_ (L' := ((keptR RL who).getD Chg.zero).abs) tabOk rfl rfl rfl u0_ rfl (Nat.le_of_ble_eq_true rfl) rfl (by exact A_ rfl)) rfl rfl ?_
 refine q_ 1 rfl<|g_<|c_<|d_<|d_<|a_<|q_ 2 rfl<|aZ_ (t := 40) rfl ?_ ?_
 rotate_left
 ·intro hc40
  have hkd : keptR RL who = none := by simpa using hc40
  rw [hkd] at hE0
  dsimp only at hE0
  refine q_ 6 rfl<|g_<|c_<|V_ rfl<|p_<|c_<|ed_ (ι := Unit) (fun z => [.blk b5 26 c.abs, .blk r 70 [ptr q, int (n : Nat), sgnsA RL, acksA RA]]) (fun z => [(0, ptr r), (1, int who), (5, ptr b5)]) (fun z => rtakeE n RL who c = 0) ?_ ?_
  ·skip
   refine d_<|a_<|q_ 2 rfl<|aZ_ (t := 48) rfl (by intro hc48; exfalso; rw [hc48] at hc40; cases hc40) ?_
   intro hc48
   refine q_ 6 rfl<|g_<|c_<|V_ rfl<|p_<|bx_ (()) (by exact hE0) (by exact ⟨rfl, rfl, rfl, trivial⟩) (sk_ sr_)
  intro z9 hE
  refine d_<|a_<|q_ 1 rfl<|g_<|c_<|d_<|d_<|a_<|q_ 1 rfl<|g_<|c_<|t_<|bO_ 50 6<|S_ (ι := Nat × Value) (fun z => [own 50 6 z.2 ((tkTo RL who c z.1).map Sgn.abs), .blk b5 26 c.abs, .blk r 70 [ptr q, int (n : Nat), sgnsA RL, acksA RA]]) (fun z => [(0, ptr r), (1, int who), (5, ptr b5), (10, .v z.2), (11, int (z.1 : Nat))]) (fun z => z.1 ≤ n) (fun z => n - z.1) (0, .slice none 0 0) (Nat.zero_le _) (by exact ⟨rfl, rfl, rfl, rfl, rfl, trivial⟩) sr_ ?_
  intro z hz
  refine d_<|d_<|a_<|q_ 4 rfl<|b_ (m_ (C := int (n : Nat)) (h_ tabOk rfl rfl l2_ List.not_mem_nil rfl) rfl) rfl rfl<|q_ 1 rfl<|g_<|c_<|r_ rfl ?_ ?_
  rotate_left
  ·intro hc60
   have hzn : z.1 = n := by omega
   refine Q_<|i_ nofun<|i_ nofun<|P_<|c_<|d_<|hC_ [] (t := 10) rfl rfl<|a_<|q_ 4 rfl<|e_ (w_ tabOk rfl rfl rfl u1_ rfl (Nat.le_of_ble_eq_true rfl) rfl rfl) rfl rfl<|g_<|c_<|d_<|a_<|q_ 1 rfl<|g_<|c_<|n_<|f_ (rs := [.tmp 6]) rfl (RV.tmp rfl RV.nil) (()) (by rw [show rtakeL n RL who c = tkTo RL who c z.1 from (if_pos hE).trans (by rw [hzn])]; repeat (first | exact List.nil_sublist _ | exact List.Sublist.refl _ | apply List.Sublist.cons_cons | apply List.Sublist.cons)) ?_
   rw [hE]
   rfl
  intro hc60
  refine p_<|c_<|d_<|t_<|d_<|d_<|a_<|q_ 3 rfl<|g_<|c_<|r_ rfl ?_ ?_
  ·intro hc65
   refine d_<|a_<|q_ 2 rfl<|b_ (m_ (C := .agg c.abs) (H_ tabOk rfl rfl rfl l1_ List.not_mem_nil (Nat.le_of_ble_eq_true rfl)) rfl) rfl rfl<|b_ (m_ (C := .agg (⟨who, c⟩ : Sgn).abs) (J_ tabOk rfl rfl rfl rfl) rfl) rfl rfl<|e_ (ae_ tabOk Tryz.underlying53 rfl rfl rfl (a2_ rfl) rfl rfl rfl) rfl rfl<|eb_ (ak_ (zs := (tkTo RL who c (z.1 + 1)).map Sgn.abs) tabOk [] (by rw [iB_ (ki_ hc65), List.map_append]; rfl) Tryz.underlying53 rfl rfl rfl rfl rfl rfl (by intro c hc; rw [List.mem_singleton] at hc; subst hc; rfl) (by have := eh_ (RL := RL) (who := who) (c := c) (i := z.1); unfold maxLen; simp only [List.length_map, List.length_cons, List.length_nil]; omega) (by have := eh_ (RL := RL) (who := who) (c := c) (i := z.1); rw [show Tryz.prog.bytesOf 50 = 96 by kernel_rfl]; simp only [List.length_map, List.length_cons, List.length_nil]; omega)) rfl rfl fun r71=>?_
   refine q_ 1 rfl<|g_<|c_<|Q_<|i_ nofun<|P_<|c_<|a_<|q_ 1 rfl<|b_ (s_ rfl rfl (by simp only [InR, lo, hi]; omega)) rfl rfl ?_
   refine q_ 1 rfl<|g_<|x_ (z.1 + 1, r71) (by omega) ((by dsimp only; omega)) (by exact ⟨rfl, rfl, rfl, rfl, rfl, trivial⟩) sr_
  intro hc65
  refine p_<|c_<|d_<|a_<|q_ 2 rfl<|u_ (dS_ (r := r) (q := q) (n := n) (RL := RL) (RA := RA) (who := ((z.1 : Nat) : Int)) hrl) Casts.refl (by kernel_rfl) rfl rfl rfl ?_
  refine ap_<|fun _=>q_ 3 rfl<|eb_ (B_ tabOk rfl) rfl rfl fun b12=>?_
  refine e_ (w_ (L' := ((keptR RL ((z.1 : Nat) : Int)).getD Chg.zero).abs) tabOk rfl rfl rfl u0_ rfl (Nat.le_of_ble_eq_true rfl) rfl (by exact A_ rfl)) rfl rfl ?_
  refine q_ 1 rfl<|g_<|c_<|d_<|a_<|q_ 1 rfl<|g_<|c_<|ac_ rfl ?_ ?_
  rotate_left
  ·intro hc78
   have hkd : keptR RL ((z.1 : Nat) : Int) = none := by simpa using hc78
   have e8 := tk_no (gJ_ (c := c) hc65 hkd)
   refine p_<|o_<|c_<|a_<|q_ 1 rfl<|b_ (s_ rfl rfl (by simp only [InR, lo, hi]; omega)) rfl rfl ?_
   refine q_ 1 rfl<|g_<|x_ (z.1 + 1, z.2) (by omega) ((by dsimp only; omega)) (by exact ⟨rfl, rfl, rfl, rfl, rfl, trivial⟩) (by rw [show tkTo RL who c (z.1 + 1, z.2).1 = tkTo RL who c z.1 from e8]; repeat (first | exact List.nil_sublist _ | exact List.Sublist.refl _ | apply List.Sublist.cons_cons | apply List.Sublist.cons))
  intro hc78
  obtain ⟨kd, hkd⟩ := Option.isSome_iff_exists.1 hc78
  have hkd : keptR RL ((z.1 : Nat) : Int) = some ((keptR RL ((z.1 : Nat) : Int)).getD Chg.zero) := by rw [hkd]; rfl
  refine a_<|q_ 2 rfl<|b_ (m_ (C := .agg ((keptR RL ((z.1 : Nat) : Int)).getD Chg.zero).abs) (H_ tabOk rfl rfl rfl l0_ List.not_mem_nil (Nat.le_of_ble_eq_true rfl)) rfl) rfl rfl<|b_ (m_ (C := .agg (⟨((z.1 : Nat) : Int), ((keptR RL ((z.1 : Nat) : Int)).getD Chg.zero)⟩ : Sgn).abs) (J_ tabOk rfl rfl rfl rfl) rfl) rfl rfl<|e_ (ae_ tabOk Tryz.underlying53 rfl rfl rfl (a2_ rfl) rfl rfl rfl) rfl rfl<|eb_ (ak_ (zs := (tkTo RL who c (z.1 + 1)).map Sgn.abs) tabOk [_] (by rw [iB_ (gK_ hc65 hkd), List.map_append]; rfl) Tryz.underlying53 rfl rfl rfl rfl rfl rfl (by intro c hc; rw [List.mem_singleton] at hc; subst hc; rfl) (by have := eh_ (RL := RL) (who := who) (c := c) (i := z.1); unfold maxLen; simp only [List.length_map, List.length_cons, List.length_nil]; omega) (by have := eh_ (RL := RL) (who := who) (c := c) (i := z.1); rw [show Tryz.prog.bytesOf 50 = 96 by kernel_rfl]; simp only [List.length_map, List.length_cons, List.length_nil]; omega)) rfl rfl fun r84=>?_
  refine q_ 1 rfl<|g_<|o_<|c_<|a_<|q_ 1 rfl<|b_ (s_ rfl rfl (by simp only [InR, lo, hi]; omega)) rfl rfl ?_
  refine q_ 1 rfl<|g_<|x_ (z.1 + 1, r84) (by omega) ((by dsimp only; omega)) (by exact ⟨rfl, rfl, rfl, rfl, rfl, trivial⟩) (sk_ sr_)
 intro hc40
 obtain ⟨kd, hkd⟩ := Option.isSome_iff_exists.1 hc40
 have hWas : ((keptR RL who).getD Chg.zero) = kd := by rw [hkd]; rfl
 rw [hkd] at hE0
 dsimp only at hE0
 rw [← hWas] at hE0
 refine q_ 1 rfl<|b_ (m_ (C := int ((keptR RL who).getD Chg.zero).view) (h_ tabOk rfl rfl l0_ List.not_mem_nil rfl) rfl) rfl rfl<|q_ 1 rfl<|b_ (m_ (C := int c.view) (h_ tabOk rfl rfl l1_ List.not_mem_nil rfl) rfl) rfl rfl<|q_ 2 rfl<|g_<|c_<|r_ rfl ?_ ?_
 ·intro hc46
  have hE : rtakeE n RL who c = 13 := hE0.trans (if_pos hc46)
  refine d_<|a_<|q_ 1 rfl<|g_<|c_<|n_<|i_ nofun<|f_ (rs := [.tmp 6]) rfl (RV.tmp rfl RV.nil) (()) (by rw [show rtakeL n RL who c = RL from if_neg (by rw [hE]; decide)]; repeat (first | exact List.nil_sublist _ | exact List.Sublist.refl _ | apply List.Sublist.cons_cons | apply List.Sublist.cons)) ?_
  rw [hE]
  rfl
 intro hc46
 refine p_<|c_<|ed_ (ι := Unit) (fun z => [.blk b5 26 c.abs, .blk r 70 [ptr q, int (n : Nat), sgnsA RL, acksA RA]]) (fun z => [(0, ptr r), (1, int who), (5, ptr b5)]) (fun z => rtakeE n RL who c = 0) ?_ ?_
 ·skip
  refine d_<|a_<|q_ 2 rfl<|aZ_ (t := 48) rfl ?_ (by intro hc48; exfalso; rw [hc40] at hc48; cases hc48)
  intro hc48
  refine q_ 1 rfl<|b_ (m_ (C := int ((keptR RL who).getD Chg.zero).view) (h_ tabOk rfl rfl l0_ List.not_mem_nil rfl) rfl) rfl rfl<|q_ 1 rfl<|b_ (m_ (C := int c.view) (h_ tabOk rfl rfl l1_ List.not_mem_nil rfl) rfl) rfl rfl<|q_ 2 rfl<|g_<|c_<|r_ rfl ?_ ?_
  rotate_left
  ·intro hc54
   refine p_<|bx_ (()) (by exact hE0.trans ((if_neg hc46).trans (if_neg fun h => hc54 h.symm))) (by exact ⟨rfl, rfl, rfl, trivial⟩) (sk_ sr_)
  intro hc54
  have hE : rtakeE n RL who c = 15 := hE0.trans ((if_neg hc46).trans (if_pos hc54.symm))
  refine d_<|a_<|q_ 1 rfl<|g_<|c_<|n_<|i_ nofun<|f_ (rs := [.tmp 6]) rfl (RV.tmp rfl RV.nil) (()) (by rw [show rtakeL n RL who c = RL from if_neg (by rw [hE]; decide)]; repeat (first | exact List.nil_sublist _ | exact List.Sublist.refl _ | apply List.Sublist.cons_cons | apply List.Sublist.cons)) ?_
  rw [hE]
  rfl
 intro z9 hE
 refine d_<|a_<|q_ 1 rfl<|g_<|c_<|d_<|d_<|a_<|q_ 1 rfl<|g_<|c_<|t_<|bO_ 50 6<|S_ (ι := Nat × Value) (fun z => [own 50 6 z.2 ((tkTo RL who c z.1).map Sgn.abs), .blk b5 26 c.abs, .blk r 70 [ptr q, int (n : Nat), sgnsA RL, acksA RA]]) (fun z => [(0, ptr r), (1, int who), (5, ptr b5), (10, .v z.2), (11, int (z.1 : Nat))]) (fun z => z.1 ≤ n) (fun z => n - z.1) (0, .slice none 0 0) (Nat.zero_le _) (by exact ⟨rfl, rfl, rfl, rfl, rfl, trivial⟩) sr_ ?_
 intro z hz
 refine d_<|d_<|a_<|q_ 4 rfl<|b_ (m_ (C := int (n : Nat)) (h_ tabOk rfl rfl l2_ List.not_mem_nil rfl) rfl) rfl rfl<|q_ 1 rfl<|g_<|c_<|r_ rfl ?_ ?_
 rotate_left
 ·intro hc60
  have hzn : z.1 = n := by omega
  refine Q_<|i_ nofun<|i_ nofun<|P_<|c_<|d_<|hC_ [] (t := 10) rfl rfl<|a_<|q_ 4 rfl<|e_ (w_ tabOk rfl rfl rfl u1_ rfl (Nat.le_of_ble_eq_true rfl) rfl rfl) rfl rfl<|g_<|c_<|d_<|a_<|q_ 1 rfl<|g_<|c_<|n_<|f_ (rs := [.tmp 6]) rfl (RV.tmp rfl RV.nil) (()) (by rw [show rtakeL n RL who c = tkTo RL who c z.1 from (if_pos hE).trans (by rw [hzn])]; repeat (first | exact List.nil_sublist _ | exact List.Sublist.refl _ | apply List.Sublist.cons_cons | apply List.Sublist.cons)) ?_
  rw [hE]
  rfl
 intro hc60
 refine p_<|c_<|d_<|t_<|d_<|d_<|a_<|q_ 3 rfl<|g_<|c_<|r_ rfl ?_ ?_
 ·intro hc65
  refine d_<|a_<|q_ 2 rfl<|b_ (m_ (C := .agg c.abs) (H_ tabOk rfl rfl rfl l1_ List.not_mem_nil (Nat.le_of_ble_eq_true rfl)) rfl) rfl rfl<|b_ (m_ (C := .agg (⟨who, c⟩ : Sgn).abs) (J_ tabOk rfl rfl rfl rfl) rfl) rfl rfl<|e_ (ae_ tabOk Tryz.underlying53 rfl rfl rfl (a2_ rfl) rfl rfl rfl) rfl rfl<|eb_ (ak_ (zs := (tkTo RL who c (z.1 + 1)).map Sgn.abs) tabOk [] (by rw [iB_ (ki_ hc65), List.map_append]; rfl) Tryz.underlying53 rfl rfl rfl rfl rfl rfl (by intro c hc; rw [List.mem_singleton] at hc; subst hc; rfl) (by have := eh_ (RL := RL) (who := who) (c := c) (i := z.1); unfold maxLen; simp only [List.length_map, List.length_cons, List.length_nil]; omega) (by have := eh_ (RL := RL) (who := who) (c := c) (i := z.1); rw [show Tryz.prog.bytesOf 50 = 96 by kernel_rfl]; simp only [List.length_map, List.length_cons, List.length_nil]; omega)) rfl rfl fun r71=>?_
  refine q_ 1 rfl<|g_<|c_<|Q_<|i_ nofun<|P_<|c_<|a_<|q_ 1 rfl<|b_ (s_ rfl rfl (by simp only [InR, lo, hi]; omega)) rfl rfl ?_
  refine q_ 1 rfl<|g_<|x_ (z.1 + 1, r71) (by omega) ((by dsimp only; omega)) (by exact ⟨rfl, rfl, rfl, rfl, rfl, trivial⟩) sr_
 intro hc65
 refine p_<|c_<|d_<|a_<|q_ 2 rfl<|u_ (dS_ (r := r) (q := q) (n := n) (RL := RL) (RA := RA) (who := ((z.1 : Nat) : Int)) hrl) Casts.refl (by kernel_rfl) rfl rfl rfl ?_
 refine ap_<|fun _=>q_ 3 rfl<|eb_ (B_ tabOk rfl) rfl rfl fun b12=>?_
 refine e_ (w_ (L' := ((keptR RL ((z.1 : Nat) : Int)).getD Chg.zero).abs) tabOk rfl rfl rfl u0_ rfl (Nat.le_of_ble_eq_true rfl) rfl (by exact A_ rfl)) rfl rfl ?_
 refine q_ 1 rfl<|g_<|c_<|d_<|a_<|q_ 1 rfl<|g_<|c_<|ac_ rfl ?_ ?_
 rotate_left
 ·intro hc78
  have hkd : keptR RL ((z.1 : Nat) : Int) = none := by simpa using hc78
  have e8 := tk_no (gJ_ (c := c) hc65 hkd)
  refine p_<|o_<|c_<|a_<|q_ 1 rfl<|b_ (s_ rfl rfl (by simp only [InR, lo, hi]; omega)) rfl rfl ?_
  refine q_ 1 rfl<|g_<|x_ (z.1 + 1, z.2) (by omega) ((by dsimp only; omega)) (by exact ⟨rfl, rfl, rfl, rfl, rfl, trivial⟩) (by rw [show tkTo RL who c (z.1 + 1, z.2).1 = tkTo RL who c z.1 from e8]; repeat (first | exact List.nil_sublist _ | exact List.Sublist.refl _ | apply List.Sublist.cons_cons | apply List.Sublist.cons))
 intro hc78
 obtain ⟨kd, hkd⟩ := Option.isSome_iff_exists.1 hc78
 have hkd : keptR RL ((z.1 : Nat) : Int) = some ((keptR RL ((z.1 : Nat) : Int)).getD Chg.zero) := by rw [hkd]; rfl
 refine a_<|q_ 2 rfl<|b_ (m_ (C := .agg ((keptR RL ((z.1 : Nat) : Int)).getD Chg.zero).abs) (H_ tabOk rfl rfl rfl l0_ List.not_mem_nil (Nat.le_of_ble_eq_true rfl)) rfl) rfl rfl<|b_ (m_ (C := .agg (⟨((z.1 : Nat) : Int), ((keptR RL ((z.1 : Nat) : Int)).getD Chg.zero)⟩ : Sgn).abs) (J_ tabOk rfl rfl rfl rfl) rfl) rfl rfl<|e_ (ae_ tabOk Tryz.underlying53 rfl rfl rfl (a2_ rfl) rfl rfl rfl) rfl rfl<|eb_ (ak_ (zs := (tkTo RL who c (z.1 + 1)).map Sgn.abs) tabOk [_] (by rw [iB_ (gK_ hc65 hkd), List.map_append]; rfl) Tryz.underlying53 rfl rfl rfl rfl rfl rfl (by intro c hc; rw [List.mem_singleton] at hc; subst hc; rfl) (by have := eh_ (RL := RL) (who := who) (c := c) (i := z.1); unfold maxLen; simp only [List.length_map, List.length_cons, List.length_nil]; omega) (by have := eh_ (RL := RL) (who := who) (c := c) (i := z.1); rw [show Tryz.prog.bytesOf 50 = 96 by kernel_rfl]; simp only [List.length_map, List.length_cons, List.length_nil]; omega)) rfl rfl fun r84=>?_
 refine q_ 1 rfl<|g_<|o_<|c_<|a_<|q_ 1 rfl<|b_ (s_ rfl rfl (by simp only [InR, lo, hi]; omega)) rfl rfl ?_
 refine q_ 1 rfl<|g_<|x_ (z.1 + 1, r84) (by omega) ((by dsimp only; omega)) (by exact ⟨rfl, rfl, rfl, rfl, rfl, trivial⟩) (sk_ sr_)
theorem rfrom_s (hrl : RL.length ≤ 1000) : Spec Tryz.prog 26 [ptr r, int view] [.rd r 70 [ptr q, int (n : Nat), sgnsA RL, acksA RA]] (fun _ : Unit => []) (fun _ => int (fromR RL view : Nat)) := by
 refine G_ Tryz.func26 rfl Tryz.ntmps26 rfl fun G w =>d_<|a_<|q_ 1 rfl<|g_<|c_<|d_<|a_<|q_ 1 rfl<|g_<|c_<|d_<|d_<|a_<|q_ 3 rfl<|b_ (m_ (C := sgnsA RL) (h_ tabOk rfl rfl r0_ List.not_mem_nil rfl) rfl) rfl rfl<|b_ (z_ rfl Tryz.underlying53 (List.length_map _)) rfl rfl<|q_ 1 rfl<|g_<|c_<|t_<|S_ (ι := Nat × Nat) (fun z => []) (fun z => [(1, int view), (5, int (z.2 : Nat)), (11, sgnsA RL), (12, int (RL.length : Nat)), (13, int (z.1 : Nat))]) (fun z => z.1 ≤ RL.length ∧ z.2 = fromR (RL.take z.1) view) (fun z => RL.length - z.1) (0, 0) (⟨Nat.zero_le _, rfl⟩) (by exact ⟨rfl, rfl, rfl, rfl, rfl, trivial⟩) sn_ ?_
 intro z hz
 refine d_<|a_<|q_ 1 rfl<|g_<|c_<|d_<|r_ rfl ?_ ?_
 rotate_left
 ·intro hc14
  refine Q_<|i_ nofun<|i_ nofun<|P_<|c_<|d_<|a_<|q_ 2 rfl<|g_<|c_<|n_<|f_ (rs := [.tmp 4]) rfl (RV.tmp rfl RV.nil) (()) sn_ ?_
  rw [show fromR RL view = z.2 by rw [hz.2, List.take_of_length_le (by omega)]]
  rfl
 intro hc14
 have hlt : z.1 < RL.length := by omega
 have hle : fromR (RL.take z.1) view ≤ (RL.take z.1).length := List.countP_le_length
 rw [← hz.2, List.length_take] at hle
 have hsu := jS_ (view := view) hlt
 refine p_<|c_<|d_<|t_<|d_<|a_<|b_ (D_ tabOk Tryz.underlying53 rfl rfl rfl rfl (aa_ (by omega)) rfl rfl) rfl rfl ?_
 refine b_ (K_ tabOk rfl rfl rfl rfl) rfl rfl<|eb_ (B_ tabOk rfl) rfl rfl fun b7=>?_
 refine e_ (w_ (L' := (RL[z.1]'hlt).abs) tabOk rfl rfl rfl u0_ rfl (Nat.le_of_ble_eq_true rfl) rfl (by exact A_ rfl)) rfl rfl ?_
 refine g_<|c_<|d_<|a_<|q_ 2 rfl<|b_ (m_ (C := int (RL[z.1]'hlt).chg.view) (h_ tabOk rfl rfl l0_ List.not_mem_nil rfl) rfl) rfl rfl<|q_ 2 rfl<|g_<|c_<|r_ rfl ?_ ?_
 rotate_left
 ·intro hc21
  refine p_<|o_<|c_<|a_<|b_ (s_ rfl rfl (by simp only [InR, lo, hi]; omega)) rfl rfl ?_
  refine q_ 1 rfl<|g_<|x_ (z.1 + 1, z.2) (by omega) (⟨by dsimp only; omega, by dsimp only; rw [hsu, if_neg hc21, ← hz.2]; rfl⟩) (by exact ⟨rfl, rfl, rfl, rfl, rfl, trivial⟩) sn_
 intro hc21
 refine a_<|q_ 1 rfl<|b_ (s_ rfl rfl (by simp only [InR, lo, hi]; omega)) rfl rfl ?_
 refine q_ 1 rfl<|g_<|o_<|c_<|a_<|b_ (s_ rfl rfl (by simp only [InR, lo, hi]; omega)) rfl rfl ?_
 refine q_ 1 rfl<|g_<|x_ (z.1 + 1, z.2 + 1) (by omega) (⟨by dsimp only; omega, by dsimp only; rw [hsu, if_pos hc21, ← hz.2]⟩) (by exact ⟨rfl, rfl, rfl, rfl, rfl, trivial⟩) sn_
theorem rjoin_s (h7 : n ≤ 7) (hrl : RL.length ≤ 1000) : Spec Tryz.prog 25 [ptr r, int view] [.rd r 70 [ptr q, int (n : Nat), sgnsA RL, acksA RA]] (fun _ : Unit => []) (fun _ => .tup [int (joinRR RL n view).1, boo (joinRR RL n view).2]) := by
 refine G_ Tryz.func25 rfl Tryz.ntmps25 rfl fun G w =>d_<|a_<|q_ 2 rfl<|g_<|c_<|d_<|a_<|q_ 2 rfl<|g_<|c_<|d_<|d_<|a_<|q_ 3 rfl<|b_ (m_ (C := sgnsA RL) (h_ tabOk rfl rfl r0_ List.not_mem_nil rfl) rfl) rfl rfl<|b_ (z_ rfl Tryz.underlying53 (List.length_map _)) rfl rfl<|q_ 1 rfl<|g_<|c_<|t_<|S_ (ι := Nat × Nat × Int) (fun z => [.rd r 70 [ptr q, int (n : Nat), sgnsA RL, acksA RA]]) (fun z => [(0, ptr r), (1, int view), (6, int z.2.2), (7, int (z.2.1 : Nat)), (13, sgnsA RL), (14, int (RL.length : Nat)), (15, int (z.1 : Nat))]) (fun z => z.1 ≤ RL.length ∧ z.2 = (RL.take z.1).foldl (jst view) (0, 0) ∧ z.2.1 ≤ z.1) (fun z => RL.length - z.1) (0, 0, 0) (⟨Nat.zero_le _, rfl, Nat.le_refl _⟩) (by exact ⟨rfl, rfl, rfl, rfl, rfl, rfl, rfl, trivial⟩) sr_ ?_
 intro z hz
 refine d_<|a_<|q_ 1 rfl<|g_<|c_<|d_<|r_ rfl ?_ ?_
 rotate_left
 ·intro hc16
  have hje : z.2 = joinF RL view := by rw [hz.2.1, List.take_of_length_le (by omega)]; rfl
  have hfn : (max ((n : Nat) : Int) 1 - 1) / 3 = fN n := rfl
  refine Q_<|i_ nofun<|i_ nofun<|P_<|c_<|d_<|d_<|a_<|q_ 4 rfl<|b_ (m_ (C := int (n : Nat)) (h_ tabOk rfl rfl r0_ List.not_mem_nil rfl) rfl) rfl rfl<|u_ (bS_ (n := ((n : Nat) : Int)) (by omega)) Casts.refl (by kernel_rfl) rfl rfl rfl ?_
  refine ap_<|fun _=>q_ 1 rfl<|g_<|c_<|r_ rfl ?_ ?_
  ·intro hc45
   refine d_<|a_<|q_ 2 rfl<|g_<|c_<|n_<|i_ nofun<|f_ (rs := [.tmp 4, .tmp 5]) rfl (RV.tmp rfl (RV.tmp rfl RV.nil)) (()) sn_ ?_
   rw [show joinRR RL n view = (0, false) from if_pos (by rw [← hje]; omega)]
   rfl
  intro hc45
  refine p_<|c_<|d_<|a_<|q_ 3 rfl<|g_<|c_<|n_<|f_ (rs := [.tmp 4, .tmp 5]) rfl (RV.tmp rfl (RV.tmp rfl RV.nil)) (()) sn_ ?_
  rw [show joinRR RL n view = ((joinF RL view).2, true) from if_neg (by rw [← hje]; omega), ← hje]
  rfl
 intro hc16
 have hlt : z.1 < RL.length := by omega
 refine p_<|c_<|d_<|t_<|d_<|a_<|b_ (D_ tabOk Tryz.underlying53 rfl rfl rfl rfl (aa_ (by omega)) rfl rfl) rfl rfl ?_
 refine b_ (K_ tabOk rfl rfl rfl rfl) rfl rfl<|eb_ (B_ tabOk rfl) rfl rfl fun b9=>?_
 refine e_ (w_ (L' := (RL[z.1]'hlt).abs) tabOk rfl rfl rfl u0_ rfl (Nat.le_of_ble_eq_true rfl) rfl (by exact A_ rfl)) rfl rfl ?_
 refine g_<|c_<|d_<|a_<|q_ 2 rfl<|b_ (m_ (C := int (RL[z.1]'hlt).chg.view) (h_ tabOk rfl rfl l0_ List.not_mem_nil rfl) rfl) rfl rfl<|q_ 2 rfl<|g_<|c_<|r_ rfl ?_ ?_
 rotate_left
 ·intro hc23
  refine p_<|o_<|c_<|a_<|b_ (s_ rfl rfl (by simp only [InR, lo, hi]; omega)) rfl rfl ?_
  refine q_ 1 rfl<|g_<|x_ (z.1 + 1, z.2) (by omega) (⟨by dsimp only; omega, by dsimp only; rw [W_ _ _ hlt, ← hz.2.1]; exact (if_neg hc23).symm, by have := hz.2.2; dsimp only; omega⟩) (by exact ⟨rfl, rfl, rfl, rfl, rfl, rfl, rfl, trivial⟩) (sk_ sr_)
 intro hc23
 refine d_<|d_<|a_<|q_ 3 rfl<|C_ (t := 26) rfl ?_ ?_
 ·intro hc26
  refine q_ 6 rfl<|g_<|c_<|O_ rfl<|a_<|q_ 2 rfl<|b_ (m_ (C := int (RL[z.1]'hlt).chg.view) (h_ tabOk rfl rfl l0_ List.not_mem_nil rfl) rfl) rfl rfl<|q_ 1 rfl<|g_<|c_<|a_<|q_ 1 rfl<|b_ (s_ rfl rfl (by simp only [InR, lo, hi]; omega)) rfl rfl ?_
  refine q_ 1 rfl<|g_<|o_<|c_<|a_<|b_ (s_ rfl rfl (by simp only [InR, lo, hi]; omega)) rfl rfl ?_
  refine q_ 1 rfl<|g_<|x_ (z.1 + 1, z.2.1 + 1, (RL[z.1]'hlt).chg.view) (by omega) (⟨by dsimp only; omega, by dsimp only; rw [W_ _ _ hlt, ← hz.2.1]; exact ((if_pos hc23).trans (congrArg (Prod.mk _) (if_pos (by omega)))).symm, by have := hz.2.2; dsimp only; omega⟩) (by exact ⟨rfl, rfl, rfl, rfl, rfl, rfl, rfl, trivial⟩) (sk_ sr_)
 intro hc26
 refine q_ 2 rfl<|b_ (m_ (C := int (RL[z.1]'hlt).chg.view) (h_ tabOk rfl rfl l0_ List.not_mem_nil rfl) rfl) rfl rfl<|q_ 3 rfl<|g_<|c_<|r_ rfl ?_ ?_
 rotate_left
 ·intro hc32
  refine p_<|c_<|a_<|q_ 1 rfl<|b_ (s_ rfl rfl (by simp only [InR, lo, hi]; omega)) rfl rfl ?_
  refine q_ 1 rfl<|g_<|o_<|c_<|a_<|b_ (s_ rfl rfl (by simp only [InR, lo, hi]; omega)) rfl rfl ?_
  refine q_ 1 rfl<|g_<|x_ (z.1 + 1, z.2.1 + 1, z.2.2) (by omega) (⟨by dsimp only; omega, by dsimp only; rw [W_ _ _ hlt, ← hz.2.1]; exact ((if_pos hc23).trans (congrArg (Prod.mk _) (if_neg (by omega)))).symm, by have := hz.2.2; dsimp only; omega⟩) (by exact ⟨rfl, rfl, rfl, rfl, rfl, rfl, rfl, trivial⟩) (sk_ sr_)
 intro hc32
 refine a_<|q_ 2 rfl<|b_ (m_ (C := int (RL[z.1]'hlt).chg.view) (h_ tabOk rfl rfl l0_ List.not_mem_nil rfl) rfl) rfl rfl<|q_ 1 rfl<|g_<|c_<|a_<|q_ 1 rfl<|b_ (s_ rfl rfl (by simp only [InR, lo, hi]; omega)) rfl rfl ?_
 refine q_ 1 rfl<|g_<|o_<|c_<|a_<|b_ (s_ rfl rfl (by simp only [InR, lo, hi]; omega)) rfl rfl ?_
 refine q_ 1 rfl<|g_<|x_ (z.1 + 1, z.2.1 + 1, (RL[z.1]'hlt).chg.view) (by omega) (⟨by dsimp only; omega, by dsimp only; rw [W_ _ _ hlt, ← hz.2.1]; exact ((if_pos hc23).trans (congrArg (Prod.mk _) (if_pos (by omega)))).symm, by have := hz.2.2; dsimp only; omega⟩) (by exact ⟨rfl, rfl, rfl, rfl, rfl, rfl, rfl, trivial⟩) (sk_ sr_)
end
theorem up_ {x a : It} {l : Blks} : (∃ y ∈ l, x = y.toRd) → ∃ y ∈ a :: l, x = y.toRd := fun ⟨y, h1, h2⟩ => ⟨y, List.mem_cons_of_mem _ h1, h2⟩
section
variable {RL : List Sgn} {RA : List RAk} {who of_ seq view : Int} {r q bd bt n : Nat} {c : Chg} {s : Sgn} {k : Sd} {D : List (ByteArray × Nat)} 
set_option maxHeartbeats 2000000 in
theorem kD_ (h7 : n ≤ 7) (hra : RA.length ≤ 1000) : Spec Tryz.prog 23 [ptr r, int who, .agg (voA k seq)] [.blk r 70 [ptr q, int (n : Nat), sgnsA RL, acksA RA]] (fun _ : Unit => [.blk r 70 [ptr q, int (n : Nat), sgnsA RL, acksA (rackL n RA who seq k)]]) (fun _ => int (rackE n RA who seq k)) := by
 refine G_ Tryz.func23 rfl Tryz.ntmps23 rfl fun G w =>d_<|a_<|eb_ (L_ (cs := voA k seq) rfl) rfl rfl fun b5=>?_
 refine q_ 1 rfl<|g_<|c_<|d_<|d_<|Y_ [] (.q 0 (.q 1 (.q 2 (.q 3 (.q 4 (.q 5 (.q 6 (.q 7 (.q 8 (.q 9 (.q 10 (.q 11 (.q 12 (.q 13 (.q 14 (.q 15 (.q 16 (.q 17 (.q 18 (.q 19 (.q 20 (.q 21 (.q 22 (.q 23 .nil)))))))))))))))))))))))) (by kernel_rfl) (by kernel_rfl) ?_
 refine qs_ 3 rfl<|am_ (t := 12) rfl ?_ ?_
 ·intro hc12
  refine qs_ 21 rfl<|N_<|c_<|O_ rfl<|d_<|a_<|q_ 1 rfl<|g_<|c_<|n_<|i_ nofun ?_
  have hE : rackE n RA who seq k = 17 := if_pos (by omega)
  refine f_ (rs := [.tmp 6]) rfl (RV.tmp rfl RV.nil) (()) (by rw [show rackL n RA who seq k = RA from if_neg (by rw [hE]; decide)]; repeat (first | exact List.nil_sublist _ | exact List.Sublist.refl _ | apply List.Sublist.cons_cons | apply List.Sublist.cons)) ?_
  rw [hE]
  rfl
 intro hc12
 refine qs_ 4 rfl<|ag_ (by (simp [mids, It.mids, ownPc, mapPc]; done)) fun hx9 => ?_
 refine l_ rfl (m_ (C := int (n : Nat)) (h_ tabOk rfl rfl l1_ List.not_mem_nil rfl) rfl) hx9 rfl rfl<|qs_ 3 rfl<|am_ (t := 20) rfl ?_ ?_
 ·intro hc20
  refine qs_ 13 rfl<|N_<|c_<|O_ rfl<|d_<|a_<|q_ 1 rfl<|g_<|c_<|n_<|i_ nofun ?_
  have hE : rackE n RA who seq k = 17 := if_pos (by omega)
  refine f_ (rs := [.tmp 6]) rfl (RV.tmp rfl RV.nil) (()) (by rw [show rackL n RA who seq k = RA from if_neg (by rw [hE]; decide)]; repeat (first | exact List.nil_sublist _ | exact List.Sublist.refl _ | apply List.Sublist.cons_cons | apply List.Sublist.cons)) ?_
  rw [hE]
  rfl
 intro hc20
 refine qs_ 1 rfl<|l_ rfl (m_ (C := int seq) (h_ tabOk rfl rfl l0_ List.not_mem_nil rfl) rfl) hx9 rfl rfl<|qs_ 3 rfl<|am_ (t := 25) rfl ?_ ?_
 ·intro hc25
  refine qs_ 8 rfl<|N_<|c_<|O_ rfl<|d_<|a_<|q_ 1 rfl<|g_<|c_<|n_<|i_ nofun ?_
  have hE : rackE n RA who seq k = 17 := if_pos (by omega)
  refine f_ (rs := [.tmp 6]) rfl (RV.tmp rfl RV.nil) (()) (by rw [show rackL n RA who seq k = RA from if_neg (by rw [hE]; decide)]; repeat (first | exact List.nil_sublist _ | exact List.Sublist.refl _ | apply List.Sublist.cons_cons | apply List.Sublist.cons)) ?_
  rw [hE]
  rfl
 intro hc25
 refine qs_ 1 rfl<|l_ rfl (m_ (C := int seq) (h_ tabOk rfl rfl l0_ List.not_mem_nil rfl) rfl) hx9 rfl rfl<|qs_ 3 rfl<|l_ rfl (m_ (C := int (n : Nat)) (h_ tabOk rfl rfl l1_ List.not_mem_nil rfl) rfl) hx9 rfl rfl<|qs_ 2 rfl<|N_<|c_<|r_ rfl ?_ ?_
 ·intro hc33
  refine d_<|a_<|q_ 1 rfl<|g_<|c_<|n_<|i_ nofun ?_
  have hE : rackE n RA who seq k = 17 := if_pos (by omega)
  refine f_ (rs := [.tmp 6]) rfl (RV.tmp rfl RV.nil) (()) (by rw [show rackL n RA who seq k = RA from if_neg (by rw [hE]; decide)]; repeat (first | exact List.nil_sublist _ | exact List.Sublist.refl _ | apply List.Sublist.cons_cons | apply List.Sublist.cons)) ?_
  rw [hE]
  rfl
 intro hc33
 have hin : (0 ≤ who ∧ who < n) ∧ 0 ≤ seq ∧ seq < n := by omega
 refine p_<|c_<|d_<|a_<|q_ 1 rfl<|g_<|c_<|d_<|d_<|a_<|q_ 3 rfl<|b_ (m_ (C := acksA RA) (h_ tabOk rfl rfl l1_ List.not_mem_nil rfl) rfl) rfl rfl<|b_ (z_ rfl Tryz.underlying68 (List.length_map _)) rfl rfl<|q_ 1 rfl<|g_<|c_<|t_<|bO_ 121 35<|S_ (ι := Nat × Value) (fun z => [own 121 35 z.2 ((rackR (RA.take z.1) who seq).map RAk.abs), .blk b5 43 (voA k seq), .blk r 70 [ptr q, int (n : Nat), sgnsA RL, acksA RA]]) (fun z => [(0, ptr r), (1, int who), (5, ptr b5), (7, .v z.2), (37, acksA RA), (38, int (RA.length : Nat)), (39, int (z.1 : Nat))]) (fun z => z.1 ≤ RA.length ∧ ∀ j (hj : j < RA.length), j < z.1 → (sameA who seq RA[j] && decide (k.view ≤ RA[j].k.view)) = false) (fun z => RA.length - z.1) (0, .slice none 0 0) (⟨Nat.zero_le _, fun j hj h => by omega⟩) (by exact ⟨rfl, rfl, rfl, rfl, rfl, rfl, rfl, trivial⟩) sr_ ?_
 intro z hz
 refine d_<|a_<|q_ 1 rfl<|g_<|c_<|d_<|r_ rfl ?_ ?_
 rotate_left
 ·intro hc40
  have hE : rackE n RA who seq k = 0 := rackE_no hin hz.2 (by omega)
  refine Q_<|i_ nofun<|i_ nofun<|P_<|c_<|d_<|a_<|q_ 4 rfl<|b_ (m_ (C := int seq) (h_ tabOk rfl rfl l1_ List.not_mem_nil rfl) rfl) rfl rfl<|q_ 1 rfl<|b_ (m_ (C := int k.view) (h_ tabOk rfl rfl l1_ List.not_mem_nil rfl) rfl) rfl rfl<|q_ 1 rfl<|b_ (m_ (C := .agg (digA k.dig)) (H_ tabOk rfl rfl rfl l1_ List.not_mem_nil (by show 2 + 32 ≤ (voA k seq).length; rw [bu_]; omega)) (by exact dR_ _ _)) rfl rfl ?_
  refine b_ (m_ (C := .agg (⟨who, seq, k⟩ : RAk).abs) (J_ tabOk rfl rfl rfl (rak_fill (a := (⟨who, seq, k⟩ : RAk)) rfl rfl rfl rfl rfl)) rfl) rfl rfl<|e_ (ae_ tabOk Tryz.underlying68 rfl rfl rfl (a2_ (RAk.size _)) rfl rfl rfl) rfl rfl<|eb_ (ak_ (zs := (rackR (RA.take z.1) who seq ++ [(⟨who, seq, k⟩ : RAk)]).map RAk.abs) tabOk [] (by rw [List.map_append]; rfl) Tryz.underlying68 rfl rfl rfl rfl rfl rfl (by intro c hc; rw [List.mem_singleton] at hc; subst hc; exact RAk.ones _) (by have := b8_ (RA := RA.take z.1) (who := who) (seq := seq); have := List.length_take_le z.1 RA; unfold maxLen; simp only [List.length_map, List.length_cons, List.length_nil]; omega) (by have := b8_ (RA := RA.take z.1) (who := who) (seq := seq); have := List.length_take_le z.1 RA; rw [show Tryz.prog.bytesOf 121 = 56 by kernel_rfl]; simp only [List.length_map, List.length_cons, List.length_nil]; omega)) rfl rfl fun r80=>?_
  refine hB_ [] (t := 80) rfl rfl<|q_ 2 rfl<|e_ (w_ tabOk rfl rfl rfl u1_ rfl (Nat.le_of_ble_eq_true rfl) rfl rfl) rfl rfl<|g_<|c_<|d_<|a_<|q_ 1 rfl<|g_<|c_<|n_<|f_ (rs := [.tmp 6]) rfl (RV.tmp rfl RV.nil) (()) (by rw [show rackL n RA who seq k = rackR (RA.take z.1) who seq ++ [⟨who, seq, k⟩] from (if_pos hE).trans (by rw [List.take_of_length_le (by omega)])]; repeat (first | exact List.nil_sublist _ | exact List.Sublist.refl _ | apply List.Sublist.cons_cons | apply List.Sublist.cons)) ?_
  rw [hE]
  rfl
 intro hc40
 have hlt : z.1 < RA.length := by omega
 refine p_<|c_<|d_<|t_<|d_<|a_<|b_ (D_ tabOk Tryz.underlying68 rfl rfl rfl rfl (aa_ (by omega)) rfl rfl) rfl rfl ?_
 refine b_ (K_ tabOk rfl rfl rfl (RAk.size _)) rfl rfl<|eb_ (B_ tabOk rfl) rfl rfl fun b9=>?_
 refine e_ (w_ (L' := (RA[z.1]'hlt).abs) tabOk rfl rfl rfl u0_ (RAk.size _) (Nat.le_of_ble_eq_true rfl) (RAk.ones _) (by exact A_ (RAk.size _))) rfl rfl ?_
 refine g_<|c_<|d_<|d_<|a_<|q_ 1 rfl<|b_ (m_ (C := int (RA[z.1]'hlt).from_) (h_ tabOk rfl rfl l0_ List.not_mem_nil rfl) rfl) rfl rfl<|q_ 3 rfl<|C_ (t := 47) rfl ?_ ?_
 ·intro hc47
  have hsm : sameA who seq (RA[z.1]'hlt) = false := by unfold sameA; rw [decide_eq_false hc47]; rfl
  refine q_ 6 rfl<|g_<|c_<|O_ rfl<|d_<|a_<|q_ 1 rfl<|b_ (m_ (C := .agg (RA[z.1]'hlt).abs) (F_ tabOk rfl rfl rfl l0_ List.not_mem_nil (RAk.size _)) rfl) rfl rfl<|e_ (ae_ tabOk Tryz.underlying68 rfl rfl rfl (a2_ (RAk.size _)) rfl rfl rfl) rfl rfl<|eb_ (ak_ (zs := (rackR (RA.take (z.1 + 1)) who seq).map RAk.abs) tabOk [_] (by rw [g0_ hlt hsm, List.map_append]; rfl) Tryz.underlying68 rfl rfl rfl rfl rfl rfl (by intro c hc; rw [List.mem_singleton] at hc; subst hc; exact RAk.ones _) (by have := b8_ (RA := RA.take z.1) (who := who) (seq := seq); have := List.length_take_le z.1 RA; unfold maxLen; simp only [List.length_map, List.length_cons, List.length_nil]; omega) (by have := b8_ (RA := RA.take z.1) (who := who) (seq := seq); have := List.length_take_le z.1 RA; rw [show Tryz.prog.bytesOf 121 = 56 by kernel_rfl]; simp only [List.length_map, List.length_cons, List.length_nil]; omega)) rfl rfl fun r57=>?_
  refine q_ 1 rfl<|g_<|c_<|Q_<|i_ nofun<|P_<|c_<|a_<|b_ (s_ rfl rfl (by simp only [InR, lo, hi]; omega)) rfl rfl ?_
  refine q_ 1 rfl<|g_<|x_ (z.1 + 1, r57) (by omega) (⟨by dsimp only; omega, fun j hj hjz => by
   rcases Nat.lt_or_ge j z.1 with h1 | h1
   ·exact hz.2 j hj h1
   obtain rfl : j = z.1 := (by dsimp only at hjz; omega)
   rw [hsm]; rfl⟩) (by exact ⟨rfl, rfl, rfl, rfl, rfl, rfl, rfl, trivial⟩) (sk_ sr_)
 intro hc47
 refine q_ 1 rfl<|b_ (m_ (C := int (RA[z.1]'hlt).of_) (h_ tabOk rfl rfl l0_ List.not_mem_nil rfl) rfl) rfl rfl<|q_ 1 rfl<|b_ (m_ (C := int seq) (h_ tabOk rfl rfl l2_ List.not_mem_nil rfl) rfl) rfl rfl<|q_ 2 rfl<|g_<|c_<|r_ rfl ?_ ?_
 ·intro hc53
  have hsm : sameA who seq (RA[z.1]'hlt) = false := by unfold sameA; rw [decide_eq_false hc53, Bool.and_false]
  refine d_<|a_<|q_ 1 rfl<|b_ (m_ (C := .agg (RA[z.1]'hlt).abs) (F_ tabOk rfl rfl rfl l0_ List.not_mem_nil (RAk.size _)) rfl) rfl rfl<|e_ (ae_ tabOk Tryz.underlying68 rfl rfl rfl (a2_ (RAk.size _)) rfl rfl rfl) rfl rfl<|eb_ (ak_ (zs := (rackR (RA.take (z.1 + 1)) who seq).map RAk.abs) tabOk [_] (by rw [g0_ hlt hsm, List.map_append]; rfl) Tryz.underlying68 rfl rfl rfl rfl rfl rfl (by intro c hc; rw [List.mem_singleton] at hc; subst hc; exact RAk.ones _) (by have := b8_ (RA := RA.take z.1) (who := who) (seq := seq); have := List.length_take_le z.1 RA; unfold maxLen; simp only [List.length_map, List.length_cons, List.length_nil]; omega) (by have := b8_ (RA := RA.take z.1) (who := who) (seq := seq); have := List.length_take_le z.1 RA; rw [show Tryz.prog.bytesOf 121 = 56 by kernel_rfl]; simp only [List.length_map, List.length_cons, List.length_nil]; omega)) rfl rfl fun r57=>?_
  refine q_ 1 rfl<|g_<|c_<|Q_<|i_ nofun<|P_<|c_<|a_<|b_ (s_ rfl rfl (by simp only [InR, lo, hi]; omega)) rfl rfl ?_
  refine q_ 1 rfl<|g_<|x_ (z.1 + 1, r57) (by omega) (⟨by dsimp only; omega, fun j hj hjz => by
   rcases Nat.lt_or_ge j z.1 with h1 | h1
   ·exact hz.2 j hj h1
   obtain rfl : j = z.1 := (by dsimp only at hjz; omega)
   rw [hsm]; rfl⟩) (by exact ⟨rfl, rfl, rfl, rfl, rfl, rfl, rfl, trivial⟩) (sk_ sr_)
 intro hc53
 have hsm : sameA who seq (RA[z.1]'hlt) = true := by unfold sameA; rw [decide_eq_true (Classical.not_not.1 hc47), decide_eq_true (Classical.not_not.1 hc53)]; rfl
 refine p_<|c_<|d_<|d_<|a_<|q_ 1 rfl<|b_ (m_ (C := int (RA[z.1]'hlt).k.view) (h_ tabOk rfl rfl l0_ List.not_mem_nil rfl) rfl) rfl rfl<|q_ 1 rfl<|b_ (m_ (C := int k.view) (h_ tabOk rfl rfl l2_ List.not_mem_nil rfl) rfl) rfl rfl<|q_ 1 rfl<|g_<|c_<|r_ rfl ?_ ?_
 ·intro hc62
  have hE : rackE n RA who seq k = 13 := (iP_ hin hlt hsm (by omega) hz.2).trans (if_pos hc62)
  refine d_<|a_<|q_ 1 rfl<|g_<|c_<|n_<|i_ nofun<|E_<|i_ nofun<|i_ nofun<|E_<|i_ nofun<|f_ (rs := [.tmp 6]) rfl (RV.tmp rfl RV.nil) (()) (by rw [show rackL n RA who seq k = RA from if_neg (by rw [hE]; decide)]; repeat (first | exact List.nil_sublist _ | exact List.Sublist.refl _ | apply List.Sublist.cons_cons | apply List.Sublist.cons)) ?_
  rw [hE]
  rfl
 intro hc62
 refine p_<|c_<|d_<|a_<|q_ 1 rfl<|b_ (m_ (C := int (RA[z.1]'hlt).k.view) (h_ tabOk rfl rfl l0_ List.not_mem_nil rfl) rfl) rfl rfl<|q_ 1 rfl<|b_ (m_ (C := int k.view) (h_ tabOk rfl rfl l2_ List.not_mem_nil rfl) rfl) rfl rfl<|q_ 1 rfl<|g_<|c_<|r_ rfl ?_ ?_
 rotate_left
 ·intro hc67
  refine p_<|o_<|c_<|a_<|b_ (s_ rfl rfl (by simp only [InR, lo, hi]; omega)) rfl rfl ?_
  refine q_ 1 rfl<|g_<|x_ (z.1 + 1, z.2) (by omega) (⟨by dsimp only; omega, fun j hj hjz => by
   rcases Nat.lt_or_ge j z.1 with h1 | h1
   ·exact hz.2 j hj h1
   obtain rfl : j = z.1 := (by dsimp only at hjz; omega)
   rw [hsm, decide_eq_false (by omega)]; rfl⟩) (by exact ⟨rfl, rfl, rfl, rfl, rfl, rfl, rfl, trivial⟩) (by rw [show rackR (RA.take (z.1 + 1, z.2).1) who seq = rackR (RA.take z.1) who seq from rackR_no hlt hsm]; repeat (first | exact List.nil_sublist _ | exact List.Sublist.refl _ | apply List.Sublist.cons_cons | apply List.Sublist.cons))
 intro hc67
 have hE : rackE n RA who seq k = 15 := (iP_ hin hlt hsm (by omega) hz.2).trans ((if_neg hc62).trans (if_pos hc67.symm))
 refine d_<|a_<|q_ 1 rfl<|g_<|c_<|n_<|E_<|i_ nofun<|i_ nofun<|E_<|i_ nofun<|f_ (rs := [.tmp 6]) rfl (RV.tmp rfl RV.nil) (()) (by rw [show rackL n RA who seq k = RA from if_neg (by rw [hE]; decide)]; repeat (first | exact List.nil_sublist _ | exact List.Sublist.refl _ | apply List.Sublist.cons_cons | apply List.Sublist.cons)) ?_
 rw [hE]
 rfl
theorem f4_ (hra : RA.length ≤ 1000) : Spec Tryz.prog 24 [ptr r, int of_, int k.view, .agg (digA k.dig)] [.rd r 70 [ptr q, int (n : Nat), sgnsA RL, acksA RA]] (fun _ : Unit => []) (fun _ => int (votR RA of_ k : Nat)) := by
 refine G_ Tryz.func24 rfl Tryz.ntmps24 rfl fun G w =>d_<|a_<|eb_ (L_ (cs := digA k.dig) rfl) rfl rfl fun b7=>?_
 refine q_ 1 rfl<|g_<|c_<|d_<|a_<|q_ 1 rfl<|g_<|c_<|d_<|d_<|a_<|q_ 3 rfl<|b_ (m_ (C := acksA RA) (h_ tabOk rfl rfl r1_ List.not_mem_nil rfl) rfl) rfl rfl<|b_ (z_ rfl Tryz.underlying68 (List.length_map _)) rfl rfl<|q_ 1 rfl<|g_<|c_<|t_<|S_ (ι := Nat × Nat) (fun z => [.blk b7 40 (digA k.dig)]) (fun z => [(1, int of_), (2, int k.view), (7, ptr b7), (9, int (z.2 : Nat)), (15, acksA RA), (16, int (RA.length : Nat)), (17, int (z.1 : Nat))]) (fun z => z.1 ≤ RA.length ∧ z.2 = votR (RA.take z.1) of_ k) (fun z => RA.length - z.1) (0, 0) (⟨Nat.zero_le _, rfl⟩) (by exact ⟨rfl, rfl, rfl, rfl, rfl, rfl, rfl, trivial⟩) (sc_ sn_) ?_
 intro z hz
 refine d_<|a_<|q_ 1 rfl<|g_<|c_<|d_<|r_ rfl ?_ ?_
 rotate_left
 ·intro hc18
  refine Q_<|i_ nofun<|i_ nofun<|P_<|c_<|d_<|a_<|q_ 2 rfl<|g_<|c_<|n_<|f_ (rs := [.tmp 8]) rfl (RV.tmp rfl RV.nil) (()) sn_ ?_
  rw [show votR RA of_ k = z.2 by rw [hz.2, List.take_of_length_le (by omega)]]
  rfl
 intro hc18
 have hlt : z.1 < RA.length := by omega
 have hle := votR_le (RA := RA.take z.1) (of_ := of_) (k := k)
 rw [← hz.2, List.length_take] at hle
 refine p_<|c_<|d_<|t_<|d_<|a_<|b_ (D_ tabOk Tryz.underlying68 rfl rfl rfl rfl (aa_ (by omega)) rfl rfl) rfl rfl ?_
 refine b_ (K_ tabOk rfl rfl rfl (RAk.size _)) rfl rfl<|eb_ (B_ tabOk rfl) rfl rfl fun b11=>?_
 refine e_ (w_ (L' := (RA[z.1]'hlt).abs) tabOk rfl rfl rfl u0_ (RAk.size _) (Nat.le_of_ble_eq_true rfl) (RAk.ones _) (by exact A_ (RAk.size _))) rfl rfl ?_
 refine g_<|c_<|d_<|a_<|q_ 1 rfl<|b_ (m_ (C := int (RA[z.1]'hlt).of_) (h_ tabOk rfl rfl l0_ List.not_mem_nil rfl) rfl) rfl rfl<|q_ 3 rfl<|C_ (t := 25) rfl ?_ ?_
 rotate_left
 ·intro hc25
  refine q_ 11 rfl<|g_<|c_<|V_ rfl<|p_<|o_<|c_<|a_<|b_ (s_ rfl rfl (by simp only [InR, lo, hi]; omega)) rfl rfl ?_
  refine q_ 1 rfl<|g_<|x_ (z.1 + 1, z.2) (by omega) (⟨by dsimp only; omega, by dsimp only; rw [hF_ hlt (by unfold voteB; simp_all), ← hz.2]⟩) (by exact ⟨rfl, rfl, rfl, rfl, rfl, rfl, rfl, trivial⟩) (sk_ sr_)
 intro hc25
 refine q_ 1 rfl<|b_ (m_ (C := int (RA[z.1]'hlt).k.view) (h_ tabOk rfl rfl l0_ List.not_mem_nil rfl) rfl) rfl rfl<|q_ 4 rfl<|C_ (t := 31) rfl ?_ ?_
 rotate_left
 ·intro hc31
  refine q_ 5 rfl<|g_<|c_<|V_ rfl<|p_<|o_<|c_<|a_<|b_ (s_ rfl rfl (by simp only [InR, lo, hi]; omega)) rfl rfl ?_
  refine q_ 1 rfl<|g_<|x_ (z.1 + 1, z.2) (by omega) (⟨by dsimp only; omega, by dsimp only; rw [hF_ hlt (by unfold voteB; simp_all), ← hz.2]⟩) (by exact ⟨rfl, rfl, rfl, rfl, rfl, rfl, rfl, trivial⟩) (sk_ sr_)
 intro hc31
 refine q_ 1 rfl<|b_ (m_ (C := .agg (digA (RA[z.1]'hlt).k.dig)) (H_ tabOk rfl rfl rfl l0_ List.not_mem_nil (by show 3 + 32 ≤ (RA[z.1]'hlt).abs.length; rw [RAk.size]; omega)) (by exact RAk.dig _)) rfl rfl ?_
 refine b_ (m_ (C := .agg (digA k.dig)) (F_ tabOk rfl rfl rfl l1_ List.not_mem_nil (by simp [digA, k.len])) rfl) rfl rfl ?_
 refine b_ (gC_ rfl rfl (dX_ _) (dX_ _) (by kernel_rfl) (eqlB Tryz.underlying40 (by kernel_rfl) (by kernel_rfl) _ _ (RA[z.1]'hlt).k.len k.len _ rfl)) rfl rfl ?_
 refine q_ 1 rfl<|g_<|c_<|r_ rfl ?_ ?_
 rotate_left
 ·intro hc36
  refine p_<|o_<|c_<|a_<|b_ (s_ rfl rfl (by simp only [InR, lo, hi]; omega)) rfl rfl ?_
  refine q_ 1 rfl<|g_<|x_ (z.1 + 1, z.2) (by omega) (⟨by dsimp only; omega, by dsimp only; rw [hF_ hlt (by unfold voteB; simp_all), ← hz.2]⟩) (by exact ⟨rfl, rfl, rfl, rfl, rfl, rfl, rfl, trivial⟩) (sk_ sr_)
 intro hc36
 refine a_<|q_ 1 rfl<|b_ (s_ rfl rfl (by simp only [InR, lo, hi]; omega)) rfl rfl ?_
 refine q_ 1 rfl<|g_<|o_<|c_<|a_<|b_ (s_ rfl rfl (by simp only [InR, lo, hi]; omega)) rfl rfl ?_
 refine q_ 1 rfl<|g_<|x_ (z.1 + 1, z.2 + 1) (by omega) (⟨by dsimp only; omega, by dsimp only; rw [votR_yes hlt (by unfold voteB; simp_all), ← hz.2]⟩) (by exact ⟨rfl, rfl, rfl, rfl, rfl, rfl, rfl, trivial⟩) (sk_ sr_)
set_option maxHeartbeats 1000000 in
theorem eZ_ (hra : RA.length ≤ 1000) (hs : CIn s.chg) (hN : Num1 D) (hT : D.length < 1000000) : Spec Tryz.prog 58 [ptr r, .agg s.abs] [.rd r 70 [ptr q, int (n : Nat), sgnsA RL, acksA RA], .blk q 86 [mapV bd, mapV bt], .pc (mapPc bd Value.string cntV sOk D)] (fun _ : Unit => [.blk q 86 [mapV bd, mapV bt], .pc (mapPc bd Value.string cntV sOk (pm D (dKey s.chg.bytes)))]) (fun _ => int (votR RA s.who (sdOf D s.chg) : Nat)) := by
 refine G_ Tryz.func58 rfl Tryz.ntmps58 rfl fun G w =>d_<|a_<|eb_ (L_ (cs := s.abs) rfl) rfl rfl fun b3=>?_
 refine q_ 1 rfl<|g_<|c_<|d_<|aH_ (p := b3 ∉ mids [.blk q 86 [mapV bd, mapV bt], .pc (mapPc bd Value.string cntV sOk D)] ∧ r ∉ mids [.blk q 86 [mapV bd, mapV bt], .pc (mapPc bd Value.string cntV sOk D)]) (fun _ _ h9 => by
   have h2 : r ∉ mids [.blk q 86 [mapV bd, mapV bt], .pc (mapPc bd Value.string cntV sOk D)] := fun hm => h9.mem.sep r (aF_ (sk_ (sk_ sr_)) hm) (h9.mem.ro (.rd r 70 [ptr q, int (n : Nat), sgnsA RL, acksA RA]) (by simp) r (by simp [It.rids]))
   exact ⟨bk_ h9.mem.nodup (sc_ (sk_ sr_)), h2⟩) fun hX => ?_
 refine Y_ (mids [.blk q 86 [mapV bd, mapV bt], .pc (mapPc bd Value.string cntV sOk D)]) (.q 0 (.q 1 (.q 2 (.q 3 (.q 4 (.q 5 (.q 6 (.q 7 (.q 8 (.q 9 (.q 10 (.q 11 (.e 12 (.e 13 (.q 14 .nil))))))))))))))) (by kernel_rfl) (by kernel_rfl) ?_
 refine ag_ (by (simp [mids, It.mids, ownPc, mapPc]; done)) fun hx9 => ?_
 refine qx_ 2 hx9 rfl<|l_ rfl (m_ (C := int s.who) (h_ tabOk rfl rfl l0_ (by exact hX.1) rfl) rfl) hx9 rfl rfl ?_
 refine qx_ 2 hx9 rfl<|l_ rfl (m_ (C := int s.chg.view) (h_ tabOk rfl rfl l0_ (by exact hX.1) rfl) rfl) hx9 rfl rfl ?_
 refine qx_ 3 hx9 rfl<|l_ rfl (m_ (C := ptr q) (h_ tabOk rfl rfl r1_ (by exact hX.2) rfl) rfl) hx9 rfl rfl ?_
 refine qx_ 1 hx9 rfl<|l_ rfl (m_ (C := .agg s.chg.abs) (H_ tabOk rfl rfl rfl l0_ (by exact hX.1) (Nat.le_of_ble_eq_true rfl)) rfl) hx9 rfl rfl ?_
 refine I_ rfl (hR_ (q := q) (bd := bd) (bt := bt) (D := D) (c := s.chg) hs.few (Nat.le_trans hs.len (by decide)) hN hT) (fun k hk => hk) Casts.refl (by kernel_rfl) rfl rfl rfl ?_
 refine aW_ [_, _] (β := []) rfl (by intro x hx; simp only [List.mem_cons, List.not_mem_nil, or_false] at hx; rcases hx with rfl | rfl <;> rfl) ?_
 intro _
 refine I_ rfl (f4_ (r := r) (q := q) (n := n) (RL := RL) (RA := RA) (of_ := s.who) (k := sdOf D s.chg) hra) (by simp [mids, It.mids]) Casts.refl (by kernel_rfl) rfl rfl rfl ?_
 refine ap_<|fun _=>ag_ (by (simp [mids, It.mids, ownPc, mapPc]; done)) fun hx9 => ?_
 exact qx_ 1 hx9 rfl<|N_<|c_<|n_<|f_ (rs := [.tmp 4]) rfl (RV.tmp rfl RV.nil) (()) (sk_ (sk_ sr_))<|rfl
set_option maxHeartbeats 2000000 in
theorem dW_ (h7 : n ≤ 7) (hk : ∀ s ∈ RL, Knows D s.chg ∧ CIn s.chg) (hrl : RL.length ≤ 1000) (hra : RA.length ≤ 1000) (hN : Num1 D) (hT : D.length < 1000000) : Spec Tryz.prog 29 [ptr r, int view] [.rd r 70 [ptr q, int (n : Nat), sgnsA RL, acksA RA], .blk q 86 [mapV bd, mapV bt], .pc (mapPc bd Value.string cntV sOk D)] (fun _ : Unit => [.blk q 86 [mapV bd, mapV bt], .pc (mapPc bd Value.string cntV sOk D)]) (fun _ => sgnsA (certR n D RA view RL)) := by
 refine G_ Tryz.func29 rfl Tryz.ntmps29 rfl fun G w =>d_<|a_<|q_ 1 rfl<|g_<|c_<|d_<|a_<|q_ 1 rfl<|g_<|c_<|d_<|d_<|a_<|q_ 3 rfl<|b_ (m_ (C := sgnsA RL) (h_ tabOk rfl rfl r0_ List.not_mem_nil rfl) rfl) rfl rfl<|b_ (z_ rfl Tryz.underlying53 (List.length_map _)) rfl rfl<|q_ 1 rfl<|g_<|c_<|t_<|bO_ 50 6<|S_ (ι := Nat × Value) (fun z => [own 50 6 z.2 ((certR n D RA view (RL.take z.1)).map Sgn.abs), .rd r 70 [ptr q, int (n : Nat), sgnsA RL, acksA RA], .blk q 86 [mapV bd, mapV bt], .pc (mapPc bd Value.string cntV sOk D)]) (fun z => [(0, ptr r), (1, int view), (5, .v z.2), (11, sgnsA RL), (12, int (RL.length : Nat)), (13, int (z.1 : Nat))]) (fun z => z.1 ≤ RL.length) (fun z => RL.length - z.1) (0, .slice none 0 0) (Nat.zero_le _) (by exact ⟨rfl, rfl, rfl, rfl, rfl, rfl, trivial⟩) sr_ ?_
 intro z hz
 refine d_<|a_<|q_ 1 rfl<|g_<|c_<|d_<|r_ rfl ?_ ?_
 rotate_left
 ·intro hc14
  refine Q_<|i_ nofun<|i_ nofun<|P_<|c_<|d_<|a_<|q_ 2 rfl<|g_<|c_<|n_<|cV_ [] (t := 4) rfl rfl<|f_ (rs := [.tmp 4]) rfl (RV.tmp rfl RV.nil) (()) (sk_ sr_) ?_
  rw [show RL.take z.1 = RL from List.take_of_length_le (by omega)]
  rfl
 intro hc14
 have hlt : z.1 < RL.length := by omega
 have hfn : (max ((n : Nat) : Int) 1 - 1) / 3 = fN n := rfl
 refine p_<|c_<|d_<|t_<|d_<|a_<|b_ (D_ tabOk Tryz.underlying53 rfl rfl rfl rfl (aa_ (by omega)) rfl rfl) rfl rfl ?_
 refine b_ (K_ tabOk rfl rfl rfl rfl) rfl rfl<|eb_ (B_ tabOk rfl) rfl rfl fun b7=>?_
 refine e_ (w_ (L' := (RL[z.1]'hlt).abs) tabOk rfl rfl rfl u0_ rfl (Nat.le_of_ble_eq_true rfl) rfl (by exact A_ rfl)) rfl rfl ?_
 refine g_<|c_<|d_<|aH_ (p := b7 ∉ mids [.blk q 86 [mapV bd, mapV bt], .pc (mapPc bd Value.string cntV sOk D)] ∧ r ∉ mids [.blk q 86 [mapV bd, mapV bt], .pc (mapPc bd Value.string cntV sOk D)]) (fun _ _ h9 => by
   have h2 : r ∉ mids [.blk q 86 [mapV bd, mapV bt], .pc (mapPc bd Value.string cntV sOk D)] := fun hm => h9.mem.sep r (aF_ (sk_ (sk_ (sk_ sr_))) hm) (h9.mem.ro (.rd r 70 [ptr q, int (n : Nat), sgnsA RL, acksA RA]) (by simp) r (by simp [It.rids]))
   exact ⟨bk_ h9.mem.nodup (sc_ (sk_ (sk_ sr_))), h2⟩) fun hX => ?_
 refine Y_ (mids [.blk q 86 [mapV bd, mapV bt], .pc (mapPc bd Value.string cntV sOk D)]) (.q 0 (.q 1 (.q 2 (.q 3 (.q 4 (.q 5 (.q 6 (.q 7 (.q 9 (.q 10 (.q 11 (.q 12 (.e 8 (.e 13 (.q 14 (.q 15 (.q 16 (.q 17 .nil)))))))))))))))))) (by kernel_rfl) (by kernel_rfl) ?_
 refine ag_ (by (simp [mids, It.mids, ownPc, mapPc]; done)) fun hx9 => ?_
 refine qx_ 2 hx9 rfl<|l_ rfl (m_ (C := int (RL[z.1]'hlt).chg.view) (h_ tabOk rfl rfl l0_ (by exact hX.1) rfl) rfl) hx9 rfl rfl ?_
 refine qx_ 3 hx9 rfl<|am_ (t := 22) rfl ?_ ?_
 rotate_left
 ·intro hc22
  have hcb : certB n D RA view (RL[z.1]'hlt) = false := by unfold certB; rw [decide_eq_false hc22]; rfl
  iterate 6 refine bq_ rfl rfl rfl ?_
  refine aE_ rfl rfl rfl<|aE_ rfl rfl rfl<|qx_ 4 hx9 rfl<|N_<|c_<|V_ rfl<|p_<|o_<|c_<|a_<|b_ (s_ rfl rfl (by simp only [InR, lo, hi]; omega)) rfl rfl ?_
  refine q_ 1 rfl<|g_<|x_ (z.1 + 1, z.2) (by omega) ((by dsimp only; omega)) (by exact ⟨rfl, rfl, rfl, rfl, rfl, rfl, trivial⟩) (by rw [show certR n D RA view (RL.take (z.1 + 1, z.2).1) = certR n D RA view (RL.take z.1) from jf_ hlt hcb]; repeat (first | exact List.nil_sublist _ | exact List.Sublist.refl _ | apply List.Sublist.cons_cons | apply List.Sublist.cons))
 intro hc22
 refine qx_ 1 hx9 rfl<|l_ rfl (m_ (C := .agg (RL[z.1]'hlt).abs) (H_ tabOk rfl rfl rfl l0_ (by exact hX.1) (Nat.le_of_ble_eq_true rfl)) rfl) hx9 rfl rfl ?_
 refine qx_ 3 hx9 rfl<|l_ rfl (m_ (C := int (n : Nat)) (h_ tabOk rfl rfl r2_ (by exact hX.2) rfl) rfl) hx9 rfl rfl ?_
 refine I_ rfl (eZ_ (r := r) (q := q) (bd := bd) (bt := bt) (n := n) (RL := RL) (RA := RA) (D := D) (s := (RL[z.1]'hlt)) hra (hk _ (List.getElem_mem hlt)).2 hN hT) (fun k hk => hk) Casts.refl (by kernel_rfl) rfl rfl rfl ?_
 refine ah_ [.blk b7 50 (RL[z.1]'hlt).abs, own 50 6 z.2 ((certR n D RA view (RL.take z.1)).map Sgn.abs), .rd r 70 [ptr q, int (n : Nat), sgnsA RL, acksA RA]] (fun _ => [.blk b7 50 (RL[z.1]'hlt).abs, own 50 6 z.2 ((certR n D RA view (RL.take z.1)).map Sgn.abs), .rd r 70 [ptr q, int (n : Nat), sgnsA RL, acksA RA], .blk q 86 [mapV bd, mapV bt], .pc (mapPc bd Value.string cntV sOk (pm D (dKey (RL[z.1]'hlt).chg.bytes)))]) (by rw [List.perm_iff_count]; intro a; simp only [mids, It.mids, List.flatMap_cons, List.flatMap_nil, List.append_nil, List.nil_append, List.count_append, List.count_cons, List.count_nil, List.cons_append] <;> omega) (by intro x hx; simp only [List.mem_cons, List.not_mem_nil, or_false] at hx; rcases hx with rfl | rfl | rfl <;> first | exact .inl ⟨(by repeat first|assumption|exact m0_|apply m1_), rfl⟩ | (refine .inr ?_; repeat (first | exact ⟨_, List.mem_cons_self, rfl⟩ | refine up_ ?_))) (by intro x hx; simp only [List.mem_cons, List.not_mem_nil, or_false] at hx; rcases hx with rfl | rfl | rfl <;> repeat first|assumption|exact m0_|apply m1_) (fun _ => (by repeat (first | exact List.Perm.nil | refine pk_ (by repeat (first | exact Rem_.here | apply Rem_.there)) ?_))) ?_
 intro _
 rw [pm_known (hk _ (List.getElem_mem hlt)).1]
 refine I_ rfl (bS_ (n := ((n : Nat) : Int)) (by omega)) (by simp [mids, It.mids]) Casts.refl (by kernel_rfl) rfl rfl rfl ?_
 refine ap_<|fun _=>ag_ (by (simp [mids, It.mids, ownPc, mapPc]; done)) fun hx9 => ?_
 refine l_ rfl (b3_ rfl rfl (by simp only [InR, lo, hi]; omega)) hx9 rfl rfl ?_
 refine l_ rfl (s_ rfl rfl (by simp only [InR, lo, hi]; omega)) hx9 rfl rfl ?_
 refine qx_ 2 hx9 rfl<|N_<|c_<|r_ rfl ?_ ?_
 rotate_left
 ·intro hc34
  have hcb : certB n D RA view (RL[z.1]'hlt) = false := by unfold certB; rw [decide_eq_false (p := 2 * fN n + 1 ≤ _) (by omega), Bool.and_false]
  refine p_<|o_<|c_<|a_<|b_ (s_ rfl rfl (by simp only [InR, lo, hi]; omega)) rfl rfl ?_
  refine q_ 1 rfl<|g_<|x_ (z.1 + 1, z.2) (by omega) ((by dsimp only; omega)) (by exact ⟨rfl, rfl, rfl, rfl, rfl, rfl, trivial⟩) (by rw [show certR n D RA view (RL.take (z.1 + 1, z.2).1) = certR n D RA view (RL.take z.1) from jf_ hlt hcb]; repeat (first | exact List.nil_sublist _ | exact List.Sublist.refl _ | apply List.Sublist.cons_cons | apply List.Sublist.cons))
 intro hc34
 have hcb : certB n D RA view (RL[z.1]'hlt) = true := by unfold certB; rw [decide_eq_true hc22, decide_eq_true (by omega)]; rfl
 refine a_<|q_ 1 rfl<|b_ (m_ (C := .agg (RL[z.1]'hlt).abs) (H_ tabOk rfl rfl rfl l0_ List.not_mem_nil (Nat.le_of_ble_eq_true rfl)) rfl) rfl rfl<|e_ (ae_ tabOk Tryz.underlying53 rfl rfl rfl (a2_ rfl) rfl rfl rfl) rfl rfl<|eb_ (ak_ (zs := (certR n D RA view (RL.take (z.1 + 1))).map Sgn.abs) tabOk [_] (by rw [lq_ hlt hcb, List.map_append]; rfl) Tryz.underlying53 rfl rfl rfl rfl rfl rfl (by intro c hc; rw [List.mem_singleton] at hc; subst hc; rfl) (by have := fm_ (n := n) (D := D) (RA := RA) (view := view) (RL := RL.take z.1); have := List.length_take_le z.1 RL; unfold maxLen; simp only [List.length_map, List.length_cons, List.length_nil]; omega) (by have := fm_ (n := n) (D := D) (RA := RA) (view := view) (RL := RL.take z.1); have := List.length_take_le z.1 RL; rw [show Tryz.prog.bytesOf 50 = 96 by kernel_rfl]; simp only [List.length_map, List.length_cons, List.length_nil]; omega)) rfl rfl fun r38=>?_
 refine q_ 1 rfl<|g_<|o_<|c_<|a_<|b_ (s_ rfl rfl (by simp only [InR, lo, hi]; omega)) rfl rfl ?_
 refine q_ 1 rfl<|g_<|x_ (z.1 + 1, r38) (by omega) ((by dsimp only; omega)) (by exact ⟨rfl, rfl, rfl, rfl, rfl, rfl, trivial⟩) (sk_ sr_)
set_option maxHeartbeats 2000000 in
theorem kr_ (h7 : n ≤ 7) (hk : ∀ s ∈ RL, CIn s.chg) (hrl : RL.length ≤ 1000) (hra : RA.length ≤ 1000) (hs : CIn s.chg) (hN : Num1 D) (hT : D.length < 1000000) : Spec Tryz.prog 27 [ptr r, .agg s.abs] [.rd r 70 [ptr q, int (n : Nat), sgnsA RL, acksA RA], .blk q 86 [mapV bd, mapV bt], .pc (mapPc bd Value.string cntV sOk D)] (fun _ : Unit => [.blk q 86 [mapV bd, mapV bt], .pc (mapPc bd Value.string cntV sOk (realDR D RL s))]) (fun _ => boo (realBR D n RL RA s)) := by
 refine G_ Tryz.func27 rfl Tryz.ntmps27 rfl fun G w =>d_<|a_<|eb_ (L_ (cs := s.abs) rfl) rfl rfl fun b3=>?_
 refine q_ 1 rfl<|g_<|c_<|d_<|a_<|q_ 2 rfl<|b_ (m_ (C := int s.who) (h_ tabOk rfl rfl l0_ List.not_mem_nil rfl) rfl) rfl rfl<|u_ (dS_ (r := r) (q := q) (n := n) (RL := RL) (RA := RA) (who := s.who) hrl) Casts.refl (by kernel_rfl) rfl rfl rfl ?_
 refine ap_<|fun _=>q_ 3 rfl<|eb_ (B_ tabOk rfl) rfl rfl fun b5=>?_
 refine e_ (w_ (L' := ((keptR RL s.who).getD Chg.zero).abs) tabOk rfl rfl rfl u0_ rfl (Nat.le_of_ble_eq_true rfl) rfl (by exact A_ rfl)) rfl rfl ?_
 refine q_ 1 rfl<|g_<|c_<|d_<|aH_ (p := b5 ∉ mids [.blk q 86 [mapV bd, mapV bt], .pc (mapPc bd Value.string cntV sOk D)] ∧ b3 ∉ mids [.blk q 86 [mapV bd, mapV bt], .pc (mapPc bd Value.string cntV sOk D)] ∧ r ∉ mids [.blk q 86 [mapV bd, mapV bt], .pc (mapPc bd Value.string cntV sOk D)]) (fun _ _ h9 => by
   have h2 : r ∉ mids [.blk q 86 [mapV bd, mapV bt], .pc (mapPc bd Value.string cntV sOk D)] := fun hm => h9.mem.sep r (aF_ (sk_ (sk_ (sk_ sr_))) hm) (h9.mem.ro (.rd r 70 [ptr q, int (n : Nat), sgnsA RL, acksA RA]) (by simp) r (by simp [It.rids]))
   exact ⟨bk_ h9.mem.nodup (sc_ (sk_ (sk_ sr_))), bk_ h9.mem.nodup (sk_ (sc_ (sk_ sr_))), h2⟩) fun hX => ?_
 refine Y_ (mids [.blk q 86 [mapV bd, mapV bt], .pc (mapPc bd Value.string cntV sOk D)]) (.q 0 (.q 1 (.q 2 (.q 3 (.q 4 (.e 5 (.q 6 (.q 7 (.q 8 (.q 9 (.q 11 (.q 12 (.q 13 (.q 14 (.e 10 (.e 15 (.q 16 (.q 17 (.q 18 (.q 19 .nil)))))))))))))))))))) (by kernel_rfl) (by kernel_rfl) ?_
 refine ag_ (by (simp [mids, It.mids, ownPc, mapPc]; done)) fun hx9 => ?_
 refine qx_ 2 hx9 rfl<|cU_ (t := 15) rfl ?_ ?_
 rotate_left
 ·intro hc15
  have hs0 : sameR RL s = false := by
   unfold sameR
   rw [show keptR RL s.who = none by simpa using hc15]
  iterate 3 refine bq_ rfl rfl rfl ?_
  refine aE_ rfl rfl rfl<|qx_ 3 hx9 rfl<|l_ rfl (m_ (C := .agg s.abs) (H_ tabOk rfl rfl rfl l1_ (by exact hX.2.1) (Nat.le_of_ble_eq_true rfl)) rfl) hx9 rfl rfl ?_
  refine qx_ 3 hx9 rfl<|l_ rfl (m_ (C := int (n : Nat)) (h_ tabOk rfl rfl r2_ (by exact hX.2.2) rfl) rfl) hx9 rfl rfl ?_
  refine I_ rfl (eZ_ (r := r) (q := q) (bd := bd) (bt := bt) (n := n) (RL := RL) (RA := RA) (D := D) (s := s) hra hs hN hT) (fun k hk => hk) Casts.refl (by kernel_rfl) rfl rfl rfl ?_
  refine ah_ [.blk b5 26 ((keptR RL s.who).getD Chg.zero).abs, .blk b3 50 s.abs, .rd r 70 [ptr q, int (n : Nat), sgnsA RL, acksA RA]] (fun _ => [.blk b5 26 ((keptR RL s.who).getD Chg.zero).abs, .blk b3 50 s.abs, .rd r 70 [ptr q, int (n : Nat), sgnsA RL, acksA RA], .blk q 86 [mapV bd, mapV bt], .pc (mapPc bd Value.string cntV sOk (pm D (dKey s.chg.bytes)))]) (by rw [List.perm_iff_count]; intro a; simp only [mids, It.mids, List.flatMap_cons, List.flatMap_nil, List.append_nil, List.nil_append, List.count_append, List.count_cons, List.count_nil, List.cons_append] <;> omega) (by intro x hx; simp only [List.mem_cons, List.not_mem_nil, or_false] at hx; rcases hx with rfl | rfl | rfl <;> first | exact .inl ⟨(by repeat first|assumption|exact m0_|apply m1_), rfl⟩ | (refine .inr ?_; repeat (first | exact ⟨_, List.mem_cons_self, rfl⟩ | refine up_ ?_))) (by intro x hx; simp only [List.mem_cons, List.not_mem_nil, or_false] at hx; rcases hx with rfl | rfl | rfl <;> repeat first|assumption|exact m0_|apply m1_) (fun _ => (by repeat (first | exact List.Perm.nil | refine pk_ (by repeat (first | exact Rem_.here | apply Rem_.there)) ?_))) ?_
  intro _
  refine I_ rfl (bS_ (n := ((n : Nat) : Int)) (by omega)) (by simp [mids, It.mids]) Casts.refl (by kernel_rfl) rfl rfl rfl ?_
  refine ap_<|fun _=>ag_ (by (simp [mids, It.mids, ownPc, mapPc]; done)) fun hx9 => ?_
  refine l_ rfl (s_ rfl rfl (by simp only [InR, lo, hi]; omega)) hx9 rfl rfl ?_
  refine qx_ 3 hx9 rfl<|N_<|c_<|n_<|f_ (rs := [.tmp 4]) rfl (RV.tmp rfl RV.nil) (()) (by rw [show realDR D RL s = pm D (dKey s.chg.bytes) from if_neg (by rw [hs0]; decide)]; repeat (first | exact List.nil_sublist _ | exact List.Sublist.refl _ | apply List.Sublist.cons_cons | apply List.Sublist.cons)) ?_
  rw [show realBR D n RL RA s = decide (fN n + 1 ≤ ((votR RA s.who (sdOf D s.chg) : Nat) : Int)) by unfold realBR; rw [hs0]; rfl]
  rfl
 intro hc15
 obtain ⟨kd, hkd⟩ := Option.isSome_iff_exists.1 hc15
 have hWas : ((keptR RL s.who).getD Chg.zero) = kd := by rw [hkd]; rfl
 have hkd2 : CIn ((keptR RL s.who).getD Chg.zero) := by
  rw [hWas]
  obtain ⟨t, h1, _, h3⟩ := ha_ hkd
  exact h3 ▸ hk t h1
 refine l_ rfl (m_ (C := .agg ((keptR RL s.who).getD Chg.zero).abs) (H_ tabOk rfl rfl rfl l0_ (by exact hX.1) (Nat.le_of_ble_eq_true rfl)) rfl) hx9 rfl rfl ?_
 refine qx_ 1 hx9 rfl<|l_ rfl (m_ (C := .agg s.chg.abs) (H_ tabOk rfl rfl rfl l1_ (by exact hX.2.1) (Nat.le_of_ble_eq_true rfl)) rfl) hx9 rfl rfl ?_
 refine I_ rfl (hO_ (c := ((keptR RL s.who).getD Chg.zero)) (d := s.chg) hkd2.asked.sized.pts hkd2.asked.sized.prep hkd2.asked.sized.prop hkd2.lits hs.lits) (by simp [mids, It.mids]) Casts.refl (by kernel_rfl) rfl rfl rfl ?_
 refine ap_<|fun _=>ag_ (by (simp [mids, It.mids, ownPc, mapPc]; done)) fun hx9 => ?_
 refine qx_ 2 hx9 rfl<|cU_ (t := 21) rfl ?_ ?_
 ·intro hc21
  have hs0 : sameR RL s = true := by
   unfold sameR
   rw [hkd]
   show yes (kd = s.chg) = true
   rw [← hWas]
   simpa using hc21
  iterate 6 refine bq_ rfl rfl rfl ?_
  refine aE_ rfl rfl rfl<|aE_ rfl rfl rfl<|qx_ 4 hx9 rfl<|N_<|c_<|n_<|f_ (rs := [.tmp 4]) rfl (RV.tmp rfl RV.nil) (()) (by rw [show realDR D RL s = D from if_pos hs0]; repeat (first | exact List.nil_sublist _ | exact List.Sublist.refl _ | apply List.Sublist.cons_cons | apply List.Sublist.cons)) ?_
  rw [show realBR D n RL RA s = true by unfold realBR; rw [hs0]; rfl]
  rfl
 intro hc21
 have hs0 : sameR RL s = false := by
  unfold sameR
  rw [hkd]
  show yes (kd = s.chg) = false
  rw [← hWas]
  simpa using hc21
 refine qx_ 1 hx9 rfl<|l_ rfl (m_ (C := .agg s.abs) (H_ tabOk rfl rfl rfl l1_ (by exact hX.2.1) (Nat.le_of_ble_eq_true rfl)) rfl) hx9 rfl rfl ?_
 refine qx_ 3 hx9 rfl<|l_ rfl (m_ (C := int (n : Nat)) (h_ tabOk rfl rfl r2_ (by exact hX.2.2) rfl) rfl) hx9 rfl rfl ?_
 refine I_ rfl (eZ_ (r := r) (q := q) (bd := bd) (bt := bt) (n := n) (RL := RL) (RA := RA) (D := D) (s := s) hra hs hN hT) (fun k hk => hk) Casts.refl (by kernel_rfl) rfl rfl rfl ?_
 refine ah_ [.blk b5 26 ((keptR RL s.who).getD Chg.zero).abs, .blk b3 50 s.abs, .rd r 70 [ptr q, int (n : Nat), sgnsA RL, acksA RA]] (fun _ => [.blk b5 26 ((keptR RL s.who).getD Chg.zero).abs, .blk b3 50 s.abs, .rd r 70 [ptr q, int (n : Nat), sgnsA RL, acksA RA], .blk q 86 [mapV bd, mapV bt], .pc (mapPc bd Value.string cntV sOk (pm D (dKey s.chg.bytes)))]) (by rw [List.perm_iff_count]; intro a; simp only [mids, It.mids, List.flatMap_cons, List.flatMap_nil, List.append_nil, List.nil_append, List.count_append, List.count_cons, List.count_nil, List.cons_append] <;> omega) (by intro x hx; simp only [List.mem_cons, List.not_mem_nil, or_false] at hx; rcases hx with rfl | rfl | rfl <;> first | exact .inl ⟨(by repeat first|assumption|exact m0_|apply m1_), rfl⟩ | (refine .inr ?_; repeat (first | exact ⟨_, List.mem_cons_self, rfl⟩ | refine up_ ?_))) (by intro x hx; simp only [List.mem_cons, List.not_mem_nil, or_false] at hx; rcases hx with rfl | rfl | rfl <;> repeat first|assumption|exact m0_|apply m1_) (fun _ => (by repeat (first | exact List.Perm.nil | refine pk_ (by repeat (first | exact Rem_.here | apply Rem_.there)) ?_))) ?_
 intro _
 refine I_ rfl (bS_ (n := ((n : Nat) : Int)) (by omega)) (by simp [mids, It.mids]) Casts.refl (by kernel_rfl) rfl rfl rfl ?_
 refine ap_<|fun _=>ag_ (by (simp [mids, It.mids, ownPc, mapPc]; done)) fun hx9 => ?_
 refine l_ rfl (s_ rfl rfl (by simp only [InR, lo, hi]; omega)) hx9 rfl rfl ?_
 refine qx_ 3 hx9 rfl<|N_<|c_<|n_<|f_ (rs := [.tmp 4]) rfl (RV.tmp rfl RV.nil) (()) (by rw [show realDR D RL s = pm D (dKey s.chg.bytes) from if_neg (by rw [hs0]; decide)]; repeat (first | exact List.nil_sublist _ | exact List.Sublist.refl _ | apply List.Sublist.cons_cons | apply List.Sublist.cons)) ?_
 rw [show realBR D n RL RA s = decide (fN n + 1 ≤ ((votR RA s.who (sdOf D s.chg) : Nat) : Int)) by unfold realBR; rw [hs0]; rfl]
 rfl
end
end Go.Proofs.YtggajaigfkekhaaGreat.A
