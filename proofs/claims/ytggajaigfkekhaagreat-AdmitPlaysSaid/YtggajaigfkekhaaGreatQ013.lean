/-
  Packed out of the texts: AP8, AdmQ, AdmT, AP9.
-/
import Derived.Test.YtggajaigfkekhaaGreatQ012
set_option maxRecDepth 100000
set_option linter.unusedSimpArgs false
set_option linter.unusedVariables false
namespace Go.Proofs.YtggajaigfkekhaaGreat.A
open Go.RowKit
theorem jE_ (D : List (ByteArray × Nat)) (RL : List Sgn) (s : Sgn) : (realDR D RL s).length ≤ D.length + 1 := by
  unfold realDR
  split
  · omega
  · exact ca_ _ _
theorem jD_ {D : List (ByteArray × Nat)} {RL : List Sgn} {s : Sgn} (h : Num1 D) : Num1 (realDR D RL s) := by
  unfold realDR
  split
  · exact h
  · exact h.put _
section
variable {h q bd bt bm n r b : Nat} {av : Value} {D : List (ByteArray × Nat)} {cm : List (Int × Kp)} {L : List Tl} {RL l : List Sgn} {RA : List RAk} {s : Sgn} {view : Int} 
theorem padm1_s (hk : KOk n cm) (hL : L.length = n) (h7 : n ≤ 7) (hs : CIn s.chg) (hw : intOk s.who) (hN : Num1 D) (hT : D.length < 1000000) : Spec Tryz.prog 54 [.agg s.abs, ptr b] [.rd b 36 [ptr h], .rd h 92 [.ifc 34 (ptr q), int (n : Nat), mapV bm, .v av], .rdpc (tmPc bm intK intOk Kp.enc cm), .rdpc (ownPc 93 1 av (L.map fun x => [ptr x.t])), .rdpc (tlsP L), .blk q 86 [mapV bd, mapV bt], .pc (mapPc bd Value.string cntV sOk D)] (fun _ : Unit => [.blk q 86 [mapV bd, mapV bt], .pc (mapPc bd Value.string cntV sOk (realD D cm s))]) (fun _ => boo (!realB D n cm L s)) := by
 refine G_ Tryz.func54 rfl Tryz.ntmps54 rfl fun G w =>d_<|a_<|eb_ (L_ (cs := s.abs) rfl) rfl rfl fun b2=>?_
 refine q_ 1 rfl<|g_<|c_<|d_<|a_<|b_ (m_ (C := ptr h) (h_ tabOk rfl rfl r1_ List.not_mem_nil rfl) rfl) rfl rfl<|b_ (m_ (C := .agg s.abs) (H_ tabOk rfl rfl rfl l0_ List.not_mem_nil (Nat.le_of_ble_eq_true rfl)) rfl) rfl rfl<|u_ (lu_ (h := h) (q := q) (bd := bd) (bt := bt) (bm := bm) (n := n) (av := av) (D := D) (cm := cm) (L := L) (s := s) hk hL h7 hs hw hN hT) Casts.refl (by kernel_rfl) rfl rfl rfl ?_
 refine ah_ [.blk b2 50 s.abs, .rd b 36 [ptr h], .rd h 92 [.ifc 34 (ptr q), int (n : Nat), mapV bm, .v av], .rdpc (tmPc bm intK intOk Kp.enc cm), .rdpc (ownPc 93 1 av (L.map fun x => [ptr x.t])), .rdpc (tlsP L)] (fun _ => [.blk b2 50 s.abs, .rd b 36 [ptr h], .rd h 92 [.ifc 34 (ptr q), int (n : Nat), mapV bm, .v av], .rdpc (tmPc bm intK intOk Kp.enc cm), .rdpc (ownPc 93 1 av (L.map fun x => [ptr x.t])), .rdpc (tlsP L), .blk q 86 [mapV bd, mapV bt], .pc (mapPc bd Value.string cntV sOk (realD D cm s))]) (by rw [List.perm_iff_count]; intro a; simp only [mids, It.mids, List.flatMap_cons, List.flatMap_nil, List.append_nil, List.nil_append, List.count_append, List.count_cons, List.count_nil, List.cons_append] <;> omega) (by intro x hx; simp only [List.mem_cons, List.not_mem_nil, or_false] at hx; rcases hx with rfl | rfl | rfl | rfl | rfl | rfl <;> first | exact .inl ⟨(by repeat first|assumption|exact m0_|apply m1_), rfl⟩ | (refine .inr ?_; repeat (first | exact ⟨_, List.mem_cons_self, rfl⟩ | refine up_ ?_))) (by intro x hx; simp only [List.mem_cons, List.not_mem_nil, or_false] at hx; rcases hx with rfl | rfl | rfl | rfl | rfl | rfl <;> repeat first|assumption|exact m0_|apply m1_) (fun _ => (by repeat (first | exact List.Perm.nil | refine pk_ (by repeat (first | exact Rem_.here | apply Rem_.there)) ?_))) ?_
 intro _
 exact b_ (ai_ rfl) rfl rfl<|q_ 1 rfl<|g_<|c_<|n_<|f_ (rs := [.tmp 3]) rfl (RV.tmp rfl RV.nil) (()) (sk_ (sk_ (sk_ (sk_ (sk_ (sk_ sr_))))))<|rfl
theorem kI_ (hk : KOk n cm) (hL : L.length = n) (h7 : n ≤ 7) (hl : ∀ s ∈ l, CIn s.chg ∧ intOk s.who) (hn : l.length ≤ 100) (hN : Num1 D) (hT : D.length < 900000) : Spec Tryz.prog 89 [sgnsA l, .fn (.func 54) [] [ptr b]] [.rd b 36 [ptr h], .rd h 92 [.ifc 34 (ptr q), int (n : Nat), mapV bm, .v av], .rdpc (tmPc bm intK intOk Kp.enc cm), .rdpc (ownPc 93 1 av (L.map fun x => [ptr x.t])), .rdpc (tlsP L), .blk q 86 [mapV bd, mapV bt], .pc (mapPc bd Value.string cntV sOk D)] (fun _ : {i : Int // 0 ≤ i ↔ (allR (fun D s => realB D n cm L s) (fun D s => realD D cm s) D l).2 = false} => [.blk q 86 [mapV bd, mapV bt], .pc (mapPc bd Value.string cntV sOk (allR (fun D s => realB D n cm L s) (fun D s => realD D cm s) D l).1)]) (fun z => int z.1) := by
 refine G_ Tryz.func89 rfl Tryz.ntmps89 rfl fun G w =>d_<|a_<|q_ 1 rfl<|g_<|c_<|d_<|d_<|a_<|q_ 1 rfl<|b_ (z_ rfl Tryz.underlying53 (List.length_map _)) rfl rfl<|q_ 1 rfl<|g_<|c_<|t_<|S_ (ι := Nat × List (ByteArray × Nat)) (fun z => [.rd b 36 [ptr h], .rd h 92 [.ifc 34 (ptr q), int (n : Nat), mapV bm, .v av], .rdpc (tmPc bm intK intOk Kp.enc cm), .rdpc (ownPc 93 1 av (L.map fun x => [ptr x.t])), .rdpc (tlsP L), .blk q 86 [mapV bd, mapV bt], .pc (mapPc bd Value.string cntV sOk z.2)]) (fun z => [(0, sgnsA l), (1, .fn (.func 54) [] [ptr b]), (7, int (l.length : Nat)), (8, int (z.1 : Nat))]) (fun z => z.1 ≤ l.length ∧ (allR (fun D s => realB D n cm L s) (fun D s => realD D cm s) D l) = (allR (fun D s => realB D n cm L s) (fun D s => realD D cm s) z.2 (l.drop z.1)) ∧ Num1 z.2 ∧ z.2.length ≤ D.length + z.1) (fun z => l.length - z.1) (0, D) (⟨Nat.zero_le _, rfl, hN, Nat.le_refl _⟩) (by exact ⟨rfl, rfl, rfl, rfl, trivial⟩) sr_ ?_
 intro z hz
 refine d_<|a_<|q_ 1 rfl<|g_<|c_<|d_<|r_ rfl ?_ ?_
 rotate_left
 ·intro hc9
  have hae : (allR (fun D s => realB D n cm L s) (fun D s => realD D cm s) D l) = (z.2, true) := hz.2.1.trans (jl_ (by omega))
  refine Q_<|i_ nofun<|i_ nofun<|P_<|c_<|d_<|a_<|q_ 1 rfl<|g_<|c_<|n_<|f_ (rs := [.tmp 4]) rfl (RV.tmp rfl RV.nil) (⟨-1, ⟨fun h9 => by omega, fun h9 => by rw [hae] at h9; cases h9⟩⟩) (by rw [hae]; repeat (first | exact List.nil_sublist _ | exact List.Sublist.refl _ | apply List.Sublist.cons_cons | apply List.Sublist.cons)) ?_
  exact rfl
 intro hc9
 have hlt : z.1 < l.length := by omega
 refine p_<|c_<|d_<|t_<|d_<|a_<|q_ 2 rfl<|g_<|c_<|d_<|a_<|q_ 3 rfl<|b_ (D_ tabOk Tryz.underlying53 rfl rfl rfl rfl (aa_ (by omega)) rfl rfl) rfl rfl ?_
 refine b_ (K_ tabOk rfl rfl rfl rfl) rfl rfl<|b5_ (padm1_s (h := h) (q := q) (bd := bd) (bt := bt) (bm := bm) (n := n) (av := av) (D := z.2) (cm := cm) (L := L) (s := (l[z.1]'hlt)) (b := b) hk hL h7 (hl _ (List.getElem_mem hlt)).1 (hl _ (List.getElem_mem hlt)).2 hz.2.2.1 (by omega)) rfl Casts.refl (by kernel_rfl) rfl rfl rfl ?_
 refine ah_ [.rd b 36 [ptr h], .rd h 92 [.ifc 34 (ptr q), int (n : Nat), mapV bm, .v av], .rdpc (tmPc bm intK intOk Kp.enc cm), .rdpc (ownPc 93 1 av (L.map fun x => [ptr x.t])), .rdpc (tlsP L)] (fun _ => [.rd b 36 [ptr h], .rd h 92 [.ifc 34 (ptr q), int (n : Nat), mapV bm, .v av], .rdpc (tmPc bm intK intOk Kp.enc cm), .rdpc (ownPc 93 1 av (L.map fun x => [ptr x.t])), .rdpc (tlsP L), .blk q 86 [mapV bd, mapV bt], .pc (mapPc bd Value.string cntV sOk (realD z.2 cm (l[z.1]'hlt)))]) (by rw [List.perm_iff_count]; intro a; simp only [mids, It.mids, List.flatMap_cons, List.flatMap_nil, List.append_nil, List.nil_append, List.count_append, List.count_cons, List.count_nil, List.cons_append] <;> omega) (by intro x hx; simp only [List.mem_cons, List.not_mem_nil, or_false] at hx; rcases hx with rfl | rfl | rfl | rfl | rfl | rfl | rfl <;> first | exact .inl ⟨(by repeat first|assumption|exact m0_|apply m1_), rfl⟩ | (refine .inr ?_; repeat (first | exact ⟨_, List.mem_cons_self, rfl⟩ | refine up_ ?_))) (by intro x hx; simp only [List.mem_cons, List.not_mem_nil, or_false] at hx; rcases hx with rfl | rfl | rfl | rfl | rfl <;> repeat first|assumption|exact m0_|apply m1_) (fun _ => (by repeat (first | exact List.Perm.nil | refine pk_ (by repeat (first | exact Rem_.here | apply Rem_.there)) ?_))) ?_
 intro _
 refine g_<|c_<|ac_ rfl ?_ ?_
 rotate_left
 ·intro hc16
  refine p_<|o_<|c_<|a_<|b_ (s_ rfl rfl (by simp only [InR, lo, hi]; omega)) rfl rfl ?_
  refine q_ 1 rfl<|g_<|x_ (z.1 + 1, realD z.2 cm (l[z.1]'hlt)) (by omega) (⟨by dsimp only; omega, hz.2.1.trans (jk_ (B := fun D s => realB D n cm L s) (Dn := fun D s => realD D cm s) hlt (by simpa using hc16)), iM_ (cm := cm) (s := (l[z.1]'hlt)) hz.2.2.1, by have h8 := c1_ z.2 cm (l[z.1]'hlt); have h9 := hz.2.2.2; dsimp only; omega⟩) (by exact ⟨rfl, rfl, rfl, rfl, trivial⟩) sr_
 intro hc16
 have hae : (allR (fun D s => realB D n cm L s) (fun D s => realD D cm s) D l) = (realD z.2 cm (l[z.1]'hlt), false) := hz.2.1.trans (lv_ (B := fun D s => realB D n cm L s) (Dn := fun D s => realD D cm s) hlt (by simpa using hc16))
 refine d_<|a_<|q_ 2 rfl<|g_<|c_<|n_<|E_<|i_ nofun<|i_ nofun<|E_<|i_ nofun<|f_ (rs := [.tmp 4]) rfl (RV.tmp rfl RV.nil) (⟨(z.1 : Nat), ⟨fun _ => by rw [hae], fun _ => by omega⟩⟩) (by rw [hae]; repeat (first | exact List.nil_sublist _ | exact List.Sublist.refl _ | apply List.Sublist.cons_cons | apply List.Sublist.cons)) ?_
 exact rfl
theorem g3_ (hk : KOk n cm) (hL : L.length = n) (h7 : n ≤ 7) (hl : ∀ s ∈ l, CIn s.chg ∧ intOk s.who) (hn : l.length ≤ 100) (hN : Num1 D) (hT : D.length < 900000) : Spec Tryz.prog 53 [sgnsA l, .fn (.func 54) [] [ptr b]] [.rd b 36 [ptr h], .rd h 92 [.ifc 34 (ptr q), int (n : Nat), mapV bm, .v av], .rdpc (tmPc bm intK intOk Kp.enc cm), .rdpc (ownPc 93 1 av (L.map fun x => [ptr x.t])), .rdpc (tlsP L), .blk q 86 [mapV bd, mapV bt], .pc (mapPc bd Value.string cntV sOk D)] (fun _ : Unit => [.blk q 86 [mapV bd, mapV bt], .pc (mapPc bd Value.string cntV sOk (allR (fun D s => realB D n cm L s) (fun D s => realD D cm s) D l).1)]) (fun _ => boo (!(allR (fun D s => realB D n cm L s) (fun D s => realD D cm s) D l).2)) := by
 refine G_ Tryz.func53 rfl Tryz.ntmps53 rfl fun G w =>d_<|a_<|q_ 1 rfl<|g_<|c_<|d_<|a_<|q_ 2 rfl<|u_ (kI_ (h := h) (q := q) (bm := bm) (bd := bd) (bt := bt) (av := av) hk hL h7 hl hn hN hT) Casts.refl (by kernel_rfl) rfl rfl rfl ?_
 refine ah_ [.rd b 36 [ptr h], .rd h 92 [.ifc 34 (ptr q), int (n : Nat), mapV bm, .v av], .rdpc (tmPc bm intK intOk Kp.enc cm), .rdpc (ownPc 93 1 av (L.map fun x => [ptr x.t])), .rdpc (tlsP L)] (fun _ => [.rd b 36 [ptr h], .rd h 92 [.ifc 34 (ptr q), int (n : Nat), mapV bm, .v av], .rdpc (tmPc bm intK intOk Kp.enc cm), .rdpc (ownPc 93 1 av (L.map fun x => [ptr x.t])), .rdpc (tlsP L), .blk q 86 [mapV bd, mapV bt], .pc (mapPc bd Value.string cntV sOk (allR (fun D s => realB D n cm L s) (fun D s => realD D cm s) D l).1)]) (by rw [List.perm_iff_count]; intro a; simp only [mids, It.mids, List.flatMap_cons, List.flatMap_nil, List.append_nil, List.nil_append, List.count_append, List.count_cons, List.count_nil, List.cons_append] <;> omega) (by intro x hx; simp only [List.mem_cons, List.not_mem_nil, or_false] at hx; rcases hx with rfl | rfl | rfl | rfl | rfl | rfl | rfl <;> first | exact .inl ⟨(by repeat first|assumption|exact m0_|apply m1_), rfl⟩ | (refine .inr ?_; repeat (first | exact ⟨_, List.mem_cons_self, rfl⟩ | refine up_ ?_))) (by intro x hx; simp only [List.mem_cons, List.not_mem_nil, or_false] at hx; rcases hx with rfl | rfl | rfl | rfl | rfl <;> repeat first|assumption|exact m0_|apply m1_) (fun _ => (by repeat (first | exact List.Perm.nil | refine pk_ (by repeat (first | exact Rem_.here | apply Rem_.there)) ?_))) ?_
 intro q0
 refine q_ 2 rfl<|g_<|c_<|n_<|f_ (rs := [.tmp 4]) rfl (RV.tmp rfl RV.nil) (()) (sk_ (sk_ (sk_ (sk_ (sk_ sr_)))))<|congrArg (fun b => Abs.v (Value.bool b)) ?_
 rw [Bool.eq_iff_iff, decide_eq_true_iff, q0.2, Bool.not_eq_true']
set_option maxHeartbeats 1000000 in
theorem iR_ (hk : KOk n cm) (hL : L.length = n) (h7 : n ≤ 7) (h1 : 1 ≤ n) (hl : ∀ s ∈ l, CIn s.chg ∧ intOk s.who) (hn : l.length ≤ 100) (hN : Num1 D) (hT : D.length < 900000) : Spec Tryz.prog 18 [ptr h, int view, sgnsA l] [.rd h 92 [.ifc 34 (ptr q), int (n : Nat), mapV bm, .v av], .rdpc (tmPc bm intK intOk Kp.enc cm), .rdpc (ownPc 93 1 av (L.map fun x => [ptr x.t])), .rdpc (tlsP L), .blk q 86 [mapV bd, mapV bt], .pc (mapPc bd Value.string cntV sOk D)] (fun _ : Unit => [.blk q 86 [mapV bd, mapV bt], .pc (mapPc bd Value.string cntV sOk (admTo (chkV view l ((n : Nat) : Int)) D (allR (fun D s => realB D n cm L s) (fun D s => realD D cm s) D l).1))]) (fun _ => .tup [.agg (admO (chkV view l ((n : Nat) : Int)) (allR (fun D s => realB D n cm L s) (fun D s => realD D cm s) D l).2 (chooseF l ((n : Nat) : Int))).1.abs, int (admO (chkV view l ((n : Nat) : Int)) (allR (fun D s => realB D n cm L s) (fun D s => realD D cm s) D l).2 (chooseF l ((n : Nat) : Int))).2]) := by
 refine G_ Tryz.func18 rfl Tryz.ntmps18 rfl fun G w =>d_<|a_<|eb_ (cn_ rfl rfl) rfl rfl fun b3=>?_
 refine eb_ (B_ tabOk rfl) rfl rfl fun b6=>?_
 refine q_ 1 rfl<|g_<|c_<|d_<|d_<|a_<|b_ (m_ (C := ptr h) (h_ tabOk rfl rfl l1_ List.not_mem_nil rfl) rfl) rfl rfl<|b_ (aJ_ rfl rfl (by kernel_rfl)) rfl rfl ?_
 refine g_<|c_<|V_ rfl<|p_<|c_<|d_<|d_<|a_<|q_ 2 rfl<|b_ (m_ (C := ptr h) (h_ tabOk rfl rfl l1_ List.not_mem_nil rfl) rfl) rfl rfl<|q_ 2 rfl<|b_ (m_ (C := int (n : Nat)) (h_ tabOk rfl rfl r2_ List.not_mem_nil rfl) rfl) rfl rfl<|u_ (vcheck_s (view := view) (l := l) (n := ((n : Nat) : Int)) (by omega) (fun s hs => (hl s hs).1.asked.sized)) Casts.refl (by kernel_rfl) rfl rfl rfl ?_
 refine ap_<|fun _=>q_ 1 rfl<|g_<|c_<|d_<|a_<|q_ 2 rfl<|g_<|c_<|r_ rfl ?_ ?_
 ·intro hc20
  refine d_<|a_<|b_ (m_ (C := .agg (chL pz (.v (.slice none 0 0)))) (J_ tabOk rfl rfl rfl rfl) rfl) rfl rfl<|q_ 1 rfl<|e_ (w_ (L' := chL pz (.v (.slice none 0 0))) tabOk rfl rfl rfl u0_ (T_ _ _) (Nat.le_of_ble_eq_true rfl) (aK_ _ rfl) (by exact A_ (T_ _ _))) rfl rfl ?_
  refine q_ 1 rfl<|g_<|c_<|n_<|i_ nofun<|fC_ (rs := [.cell 6 62, .tmp 7]) rfl (RV.cell rfl (RV.cellA tabOk rfl rfl l0_ ((T_ _ _))) (RV.tmp rfl RV.nil)) (Casts.cons (aN_ cG_) Casts.refl) (()) (by rw [show admTo (chkV view l ((n : Nat) : Int)) D (allR (fun D s => realB D n cm L s) (fun D s => realD D cm s) D l).1 = D from if_pos hc20]; repeat (first | exact List.nil_sublist _ | exact List.Sublist.refl _ | apply List.Sublist.cons_cons | apply List.Sublist.cons)) ?_
  rw [jq_ hc20]
  rfl
 intro hc20
 refine p_<|c_<|d_<|d_<|a_<|q_ 1 rfl<|b_ (ao_ rfl rfl) rfl rfl<|u_ (g3_ (h := h) (q := q) (bm := bm) (b := b3) (bd := bd) (bt := bt) (av := av) hk hL h7 hl hn hN hT) Casts.refl (by kernel_rfl) rfl rfl rfl ?_
 refine ah_ [.blk b6 62 (chL pz (.v (.slice none 0 0))), .blk b3 36 [ptr h], .rd h 92 [.ifc 34 (ptr q), int (n : Nat), mapV bm, .v av], .rdpc (tmPc bm intK intOk Kp.enc cm), .rdpc (ownPc 93 1 av (L.map fun x => [ptr x.t])), .rdpc (tlsP L)] (fun _ => [.blk b6 62 (chL pz (.v (.slice none 0 0))), .blk b3 36 [ptr h], .rd h 92 [.ifc 34 (ptr q), int (n : Nat), mapV bm, .v av], .rdpc (tmPc bm intK intOk Kp.enc cm), .rdpc (ownPc 93 1 av (L.map fun x => [ptr x.t])), .rdpc (tlsP L), .blk q 86 [mapV bd, mapV bt], .pc (mapPc bd Value.string cntV sOk (allR (fun D s => realB D n cm L s) (fun D s => realD D cm s) D l).1)]) (by rw [List.perm_iff_count]; intro a; simp only [mids, It.mids, List.flatMap_cons, List.flatMap_nil, List.append_nil, List.nil_append, List.count_append, List.count_cons, List.count_nil, List.cons_append] <;> omega) (by intro x hx; simp only [List.mem_cons, List.not_mem_nil, or_false] at hx; rcases hx with rfl | rfl | rfl | rfl | rfl | rfl | rfl <;> first | exact .inl ⟨(by repeat first|assumption|exact m0_|apply m1_), rfl⟩ | (refine .inr ?_; repeat (first | exact ⟨_, List.mem_cons_self, rfl⟩ | refine up_ ?_))) (by intro x hx; simp only [List.mem_cons, List.not_mem_nil, or_false] at hx; rcases hx with rfl | rfl | rfl | rfl | rfl | rfl <;> repeat first|assumption|exact m0_|apply m1_) (fun _ => (by repeat (first | exact List.Perm.nil | refine pk_ (by repeat (first | exact Rem_.here | apply Rem_.there)) ?_))) ?_
 intro _
 refine g_<|c_<|ac_ rfl ?_ ?_
 ·intro hc25
  refine d_<|a_<|b_ (m_ (C := .agg (chL pz (.v (.slice none 0 0)))) (J_ tabOk rfl rfl rfl rfl) rfl) rfl rfl<|e_ (w_ (L' := chL pz (.v (.slice none 0 0))) tabOk rfl rfl rfl u0_ (T_ _ _) (eo_ _ _) (aK_ _ rfl) (by exact A_ ((T_ _ _).trans (T_ _ _).symm))) rfl rfl ?_
  refine q_ 1 rfl<|g_<|c_<|n_<|i_ nofun<|fC_ (rs := [.cell 6 62, .tmp 7]) rfl (RV.cell rfl (RV.cellA tabOk rfl rfl l0_ ((T_ _ _))) (RV.tmp rfl RV.nil)) (Casts.cons (aN_ cG_) Casts.refl) (()) (by rw [show admTo (chkV view l ((n : Nat) : Int)) D (allR (fun D s => realB D n cm L s) (fun D s => realD D cm s) D l).1 = (allR (fun D s => realB D n cm L s) (fun D s => realD D cm s) D l).1 from if_neg hc20]; repeat (first | exact List.nil_sublist _ | exact List.Sublist.refl _ | apply List.Sublist.cons_cons | apply List.Sublist.cons)) ?_
  rw [ly_ hc20 (by simpa using hc25)]
  rfl
 intro hc25
 refine p_<|c_<|d_<|a_<|q_ 1 rfl<|b_ (m_ (C := ptr h) (h_ tabOk rfl rfl l1_ List.not_mem_nil rfl) rfl) rfl rfl<|q_ 2 rfl<|b_ (m_ (C := int (n : Nat)) (h_ tabOk rfl rfl r2_ List.not_mem_nil rfl) rfl) rfl rfl<|u_ (ls_ (l := l) (n := ((n : Nat) : Int)) (by omega) (by omega) (fun s hs => (hl s hs).1) hn) Casts.refl (by kernel_rfl) rfl rfl rfl ?_
 refine ap_<|fun _=>q_ 2 rfl<|e_ (w_ (L' := (chooseF l ((n : Nat) : Int)).1.abs) tabOk rfl rfl rfl u0_ (T_ _ _) (eo_ _ _) (aK_ _ rfl) (by exact A_ ((T_ _ _).trans (T_ _ _).symm))) rfl rfl ?_
 refine q_ 1 rfl<|g_<|c_<|n_<|f_ (rs := [.cell 6 62, .tmp 7]) rfl (RV.cell rfl (RV.cellA tabOk rfl rfl l0_ ((T_ _ _))) (RV.tmp rfl RV.nil)) (()) (by rw [show admTo (chkV view l ((n : Nat) : Int)) D (allR (fun D s => realB D n cm L s) (fun D s => realD D cm s) D l).1 = (allR (fun D s => realB D n cm L s) (fun D s => realD D cm s) D l).1 from if_neg hc20]; repeat (first | exact List.nil_sublist _ | exact List.Sublist.refl _ | apply List.Sublist.cons_cons | apply List.Sublist.cons)) ?_
 rw [jp_ hc20 (by simpa using hc25)]
 rfl
set_option maxHeartbeats 1000000 in
theorem iO_ (h7 : n ≤ 7) (h1 : 1 ≤ n) (hk : ∀ s ∈ RL, CIn s.chg) (hrl : RL.length ≤ 1000) (hra : RA.length ≤ 1000) (hl : ∀ s ∈ l, CIn s.chg ∧ intOk s.who) (hn : l.length ≤ 100) (hN : Num1 D) (hT : D.length < 900000) : Spec Tryz.prog 30 [ptr r, int view, sgnsA l] [.rd r 70 [ptr q, int (n : Nat), sgnsA RL, acksA RA], .blk q 86 [mapV bd, mapV bt], .pc (mapPc bd Value.string cntV sOk D)] (fun _ : Unit => [.blk q 86 [mapV bd, mapV bt], .pc (mapPc bd Value.string cntV sOk (admTo (chkV view l ((n : Nat) : Int)) D (allR (fun D s => realBR D n RL RA s) (fun D s => realDR D RL s) D l).1))]) (fun _ => .tup [.agg (admO (chkV view l ((n : Nat) : Int)) (allR (fun D s => realBR D n RL RA s) (fun D s => realDR D RL s) D l).2 (chooseF l ((n : Nat) : Int))).1.abs, int (admO (chkV view l ((n : Nat) : Int)) (allR (fun D s => realBR D n RL RA s) (fun D s => realDR D RL s) D l).2 (chooseF l ((n : Nat) : Int))).2]) := by
 refine G_ Tryz.func30 rfl Tryz.ntmps30 rfl fun G w =>d_<|a_<|eb_ (B_ tabOk rfl) rfl rfl fun b6=>?_
 refine q_ 1 rfl<|g_<|c_<|d_<|d_<|a_<|q_ 5 rfl<|b_ (m_ (C := int (n : Nat)) (h_ tabOk rfl rfl r1_ List.not_mem_nil rfl) rfl) rfl rfl<|u_ (kq_ (view := view) (l := l) (n := ((n : Nat) : Int)) (by omega) (fun s hs => (hl s hs).1.asked.fit)) Casts.refl (by kernel_rfl) rfl rfl rfl ?_
 refine ap_<|fun _=>q_ 1 rfl<|g_<|c_<|d_<|a_<|q_ 2 rfl<|g_<|c_<|r_ rfl ?_ ?_
 ·intro hc19
  refine d_<|a_<|b_ (m_ (C := .agg (chL pz (.v (.slice none 0 0)))) (J_ tabOk rfl rfl rfl rfl) rfl) rfl rfl<|q_ 1 rfl<|e_ (w_ (L' := chL pz (.v (.slice none 0 0))) tabOk rfl rfl rfl u0_ (T_ _ _) (Nat.le_of_ble_eq_true rfl) (aK_ _ rfl) (by exact A_ (T_ _ _))) rfl rfl ?_
  refine q_ 1 rfl<|g_<|c_<|n_<|i_ nofun<|fC_ (rs := [.cell 6 62, .tmp 7]) rfl (RV.cell rfl (RV.cellA tabOk rfl rfl l0_ ((T_ _ _))) (RV.tmp rfl RV.nil)) (Casts.cons (aN_ cG_) Casts.refl) (()) (by rw [show admTo (chkV view l ((n : Nat) : Int)) D (allR (fun D s => realBR D n RL RA s) (fun D s => realDR D RL s) D l).1 = D from if_pos hc19]; repeat (first | exact List.nil_sublist _ | exact List.Sublist.refl _ | apply List.Sublist.cons_cons | apply List.Sublist.cons)) ?_
  rw [jq_ hc19]
  rfl
 intro hc19
 refine p_<|c_<|d_<|d_<|a_<|q_ 1 rfl<|b_ (z_ rfl Tryz.underlying53 (List.length_map _)) rfl rfl<|q_ 1 rfl<|g_<|c_<|t_<|S_ (ι := Nat × List (ByteArray × Nat)) (fun z => [.blk b6 62 (chL pz (.v (.slice none 0 0))), .rd r 70 [ptr q, int (n : Nat), sgnsA RL, acksA RA], .blk q 86 [mapV bd, mapV bt], .pc (mapPc bd Value.string cntV sOk z.2)]) (fun z => [(0, ptr r), (2, sgnsA l), (6, ptr b6), (22, sgnsA l), (23, int (l.length : Nat)), (24, int (z.1 : Nat))]) (fun z => z.1 ≤ l.length ∧ (allR (fun D s => realBR D n RL RA s) (fun D s => realDR D RL s) D l) = (allR (fun D s => realBR D n RL RA s) (fun D s => realDR D RL s) z.2 (l.drop z.1)) ∧ Num1 z.2 ∧ z.2.length ≤ D.length + z.1) (fun z => l.length - z.1) (0, D) (⟨Nat.zero_le _, rfl, hN, Nat.le_refl _⟩) (by exact ⟨rfl, rfl, rfl, rfl, rfl, rfl, trivial⟩) sr_ ?_
 intro z hz
 refine d_<|a_<|q_ 1 rfl<|g_<|c_<|d_<|r_ rfl ?_ ?_
 rotate_left
 ·intro hc25
  have hae : (allR (fun D s => realBR D n RL RA s) (fun D s => realDR D RL s) D l) = (z.2, true) := hz.2.1.trans (jl_ (by omega))
  refine Q_<|i_ nofun<|i_ nofun<|P_<|c_<|d_<|a_<|q_ 4 rfl<|b_ (m_ (C := int (n : Nat)) (h_ tabOk rfl rfl r1_ List.not_mem_nil rfl) rfl) rfl rfl<|u_ (kz_ (l := l) (n := ((n : Nat) : Int)) (by omega) (by omega) (fun s hs => (hl s hs).1) hn) Casts.refl (by kernel_rfl) rfl rfl rfl ?_
  refine ap_<|fun _=>q_ 2 rfl<|e_ (w_ (L' := (chooseF l ((n : Nat) : Int)).1.abs) tabOk rfl rfl rfl u0_ (T_ _ _) (eo_ _ _) (aK_ _ rfl) (by exact A_ ((T_ _ _).trans (T_ _ _).symm))) rfl rfl ?_
  refine q_ 1 rfl<|g_<|c_<|n_<|f_ (rs := [.cell 6 62, .tmp 7]) rfl (RV.cell rfl (RV.cellA tabOk rfl rfl l0_ ((T_ _ _))) (RV.tmp rfl RV.nil)) (()) (by rw [show admTo (chkV view l ((n : Nat) : Int)) D (allR (fun D s => realBR D n RL RA s) (fun D s => realDR D RL s) D l).1 = z.2 from (if_neg hc19).trans (by rw [hae])]; repeat (first | exact List.nil_sublist _ | exact List.Sublist.refl _ | apply List.Sublist.cons_cons | apply List.Sublist.cons)) ?_
  rw [jp_ hc19 (by rw [hae])]
  rfl
 intro hc25
 have hlt : z.1 < l.length := by omega
 refine p_<|c_<|d_<|t_<|d_<|a_<|b_ (D_ tabOk Tryz.underlying53 rfl rfl rfl rfl (aa_ (by omega)) rfl rfl) rfl rfl ?_
 refine b_ (K_ tabOk rfl rfl rfl rfl) rfl rfl<|eb_ (B_ tabOk rfl) rfl rfl fun b10=>?_
 refine e_ (w_ (L' := (l[z.1]'hlt).abs) tabOk rfl rfl rfl u0_ rfl (Nat.le_of_ble_eq_true rfl) rfl (by exact A_ rfl)) rfl rfl ?_
 refine g_<|c_<|d_<|a_<|q_ 1 rfl<|b_ (m_ (C := .agg (l[z.1]'hlt).abs) (H_ tabOk rfl rfl rfl l0_ List.not_mem_nil (Nat.le_of_ble_eq_true rfl)) rfl) rfl rfl<|u_ (kr_ (r := r) (q := q) (bd := bd) (bt := bt) (n := n) (RL := RL) (RA := RA) (D := z.2) (s := (l[z.1]'hlt)) h7 hk hrl hra (hl _ (List.getElem_mem hlt)).1 hz.2.2.1 (by omega)) Casts.refl (by kernel_rfl) rfl rfl rfl ?_
 refine ah_ [.blk b10 50 (l[z.1]'hlt).abs, .blk b6 62 (chL pz (.v (.slice none 0 0))), .rd r 70 [ptr q, int (n : Nat), sgnsA RL, acksA RA]] (fun _ => [.blk b10 50 (l[z.1]'hlt).abs, .blk b6 62 (chL pz (.v (.slice none 0 0))), .rd r 70 [ptr q, int (n : Nat), sgnsA RL, acksA RA], .blk q 86 [mapV bd, mapV bt], .pc (mapPc bd Value.string cntV sOk (realDR z.2 RL (l[z.1]'hlt)))]) (by rw [List.perm_iff_count]; intro a; simp only [mids, It.mids, List.flatMap_cons, List.flatMap_nil, List.append_nil, List.nil_append, List.count_append, List.count_cons, List.count_nil, List.cons_append] <;> omega) (by intro x hx; simp only [List.mem_cons, List.not_mem_nil, or_false] at hx; rcases hx with rfl | rfl | rfl <;> first | exact .inl ⟨(by repeat first|assumption|exact m0_|apply m1_), rfl⟩ | (refine .inr ?_; repeat (first | exact ⟨_, List.mem_cons_self, rfl⟩ | refine up_ ?_))) (by intro x hx; simp only [List.mem_cons, List.not_mem_nil, or_false] at hx; rcases hx with rfl | rfl | rfl <;> repeat first|assumption|exact m0_|apply m1_) (fun _ => (by repeat (first | exact List.Perm.nil | refine pk_ (by repeat (first | exact Rem_.here | apply Rem_.there)) ?_))) ?_
 intro _
 refine b_ (ai_ rfl) rfl rfl<|g_<|c_<|ac_ rfl ?_ ?_
 rotate_left
 ·intro hc31
  refine p_<|o_<|c_<|a_<|b_ (s_ rfl rfl (by simp only [InR, lo, hi]; omega)) rfl rfl ?_
  refine q_ 1 rfl<|g_<|x_ (z.1 + 1, realDR z.2 RL (l[z.1]'hlt)) (by omega) (⟨by dsimp only; omega, hz.2.1.trans (jk_ (B := fun D s => realBR D n RL RA s) (Dn := fun D s => realDR D RL s) hlt (by simpa using hc31)), jD_ (RL := RL) (s := (l[z.1]'hlt)) hz.2.2.1, by have h8 := jE_ z.2 RL (l[z.1]'hlt); have h9 := hz.2.2.2; dsimp only; omega⟩) (by exact ⟨rfl, rfl, rfl, rfl, rfl, rfl, trivial⟩) (sk_ sr_)
 intro hc31
 have hae : (allR (fun D s => realBR D n RL RA s) (fun D s => realDR D RL s) D l) = (realDR z.2 RL (l[z.1]'hlt), false) := hz.2.1.trans (lv_ (B := fun D s => realBR D n RL RA s) (Dn := fun D s => realDR D RL s) hlt (by simpa using hc31))
 refine d_<|a_<|b_ (m_ (C := .agg (chL pz (.v (.slice none 0 0)))) (J_ tabOk rfl rfl rfl rfl) rfl) rfl rfl<|e_ (w_ (L' := chL pz (.v (.slice none 0 0))) tabOk rfl rfl rfl u1_ (T_ _ _) (eo_ _ _) (aK_ _ rfl) (by exact A_ ((T_ _ _).trans (T_ _ _).symm))) rfl rfl ?_
 refine q_ 1 rfl<|g_<|c_<|n_<|E_<|i_ nofun<|i_ nofun<|E_<|i_ nofun<|fC_ (rs := [.cell 6 62, .tmp 7]) rfl (RV.cell rfl (RV.cellA tabOk rfl rfl l1_ ((T_ _ _))) (RV.tmp rfl RV.nil)) (Casts.cons (aN_ cG_) Casts.refl) (()) (by rw [show admTo (chkV view l ((n : Nat) : Int)) D (allR (fun D s => realBR D n RL RA s) (fun D s => realDR D RL s) D l).1 = realDR z.2 RL (l[z.1]'hlt) from (if_neg hc19).trans (by rw [hae])]; repeat (first | exact List.nil_sublist _ | exact List.Sublist.refl _ | apply List.Sublist.cons_cons | apply List.Sublist.cons)) ?_
 rw [ly_ hc19 (by rw [hae])]
 rfl
end
section
variable {n b : Nat} {D : List (ByteArray × Nat)} {cm : List (Int × Kp)} {L : List Tl} {RA : List RAk} {who seq view of_ : Int} {c : Chg} {k : Sd} {s : Sgn} {i : Nat}
def rowAt' (cm : List (Int × Kp)) (i : Nat) : Option Sgn := (aget cm (i : Int)).map fun v => ⟨(i : Int), v.c⟩
def rowK (n : Nat) (cm : List (Int × Kp)) : List Sgn := (List.range n).filterMap (rowAt' cm)
structure KIn (n : Nat) (D : List (ByteArray × Nat)) (cm : List (Int × Kp)) : Prop where
  nd : (cm.map (·.1)).Nodup
  rng : ∀ w v, aget cm w = some v → 0 ≤ w ∧ w < n
  ok : KOk n cm
  know : ∀ w v, aget cm w = some v → Knows D v.c ∧ v = mkKp D v.c
theorem KIn.nil : KIn n D [] := ⟨List.nodup_nil, (fun w v h => by cases h), (fun w v h => by cases h), (fun w v h => by cases h)⟩
theorem KIn.put (h : KIn n D cm) (j : ByteArray) : KIn n (pm D j) cm := ⟨h.nd, h.rng, h.ok, fun w v hv => by
  obtain ⟨h1, h2⟩ := h.know w v hv
  exact ⟨(h1.put j).1, by rw [iT_ h1]; exact h2⟩⟩
theorem di_ : s ∈ rowK n cm ↔ ∃ i v, i < n ∧ aget cm (i : Int) = some v ∧ s = ⟨(i : Int), v.c⟩ := by
  unfold rowK rowAt'
  rw [List.mem_filterMap]
  constructor
  · rintro ⟨i, hi, h⟩
    obtain ⟨v, h1, h2⟩ := Option.map_eq_some_iff.1 h
    exact ⟨i, v, List.mem_range.1 hi, h1, h2.symm⟩
  · rintro ⟨i, v, hi, h1, h2⟩
    exact ⟨i, List.mem_range.2 hi, by rw [h1, h2]; rfl⟩
theorem bK_ : (rowK n cm).length ≤ n := by
  unfold rowK
  exact Nat.le_trans (List.length_filterMap_le ..) (by rw [List.length_range]; exact Nat.le_refl _)
theorem a7_ (h : KIn n D cm) (h7 : n ≤ 7) (hs : s ∈ rowK n cm) : CIn s.chg ∧ intOk s.who ∧ Knows D s.chg ∧ aget cm s.who = some (mkKp D s.chg) ∧ keptC cm s.who = s.chg := by
  obtain ⟨i, v, hin, h1, rfl⟩ := di_.1 hs
  obtain ⟨h2, h3⟩ := h.know _ _ h1
  refine ⟨(h.ok _ _ h1).1, by simp only [intOk, InR, lo, hi]; omega, h2, h3 ▸ h1, ?_⟩
  show keptC cm (i : Int) = v.c
  unfold keptC
  rw [h1]
  rfl
theorem eH_ (h : KIn n D cm) : keptR (rowK n cm) who = (aget cm who).map (·.c) := by
  cases hv : aget cm who with
  | none =>
    refine iY_ (i := (rowK n cm).length) (fun j hj _ he => ?_) (Nat.le_refl _)
    obtain ⟨i, v, _, h1, h2⟩ := di_.1 (List.getElem_mem hj)
    rw [h2] at he
    have he : (i : Int) = who := he
    rw [he, hv] at h1
    cases h1
  | some v =>
    obtain ⟨h0, h1⟩ := h.rng _ _ hv
    have hm : (⟨who, v.c⟩ : Sgn) ∈ rowK n cm := di_.2 ⟨who.toNat, v, by omega, by rw [show ((who.toNat : Nat) : Int) = who by omega]; exact hv, by rw [show ((who.toNat : Nat) : Int) = who by omega]⟩
    cases hk : keptR (rowK n cm) who with
    | none =>
      unfold keptR at hk
      rw [Option.map_eq_none_iff, List.find?_eq_none] at hk
      exact absurd (by simp) (hk _ hm)
    | some d =>
      obtain ⟨s, hs, h2, h3⟩ := ha_ hk
      obtain ⟨i, u, _, h4, rfl⟩ := di_.1 hs
      have h2 : (i : Int) = who := h2
      rw [h2, hv] at h4
      obtain rfl := Option.some.inj h4
      rw [← h3]
      rfl
theorem hZ_ (h : KIn n D cm) : (keptR (rowK n cm) who).getD Chg.zero = keptC cm who ∧ (keptR (rowK n cm) who).isSome = (aget cm who).isSome := by
  rw [eH_ h]
  unfold keptC
  cases aget cm who <;> exact ⟨rfl, rfl⟩
/-! ### Take -/
theorem gL_ (h : KIn n D cm) : rtakeE n (rowK n cm) who c = takeE n cm who c := by
  unfold rtakeE takeE
  rw [eH_ h]
  cases aget cm who <;> rfl
theorem take_row (h : KIn n D cm) : rtakeL n (rowK n cm) who c = rowK n (takeCm n D cm who c) := by
  unfold rtakeL takeCm
  rw [gL_ h]
  split
  · show (List.range n).filterMap (tkAt (rowK n cm) who c) = (List.range n).filterMap (rowAt' (aput cm who (mkKp D c)))
    congr 1
    funext i
    unfold tkAt rowAt'
    rw [ba_]
    split
    · next h1 => rw [h1]; rfl
    · rw [eH_ h, Option.map_map]
      rfl
  · rfl
theorem KIn.take (h : KIn n D cm) (hc : CIn c) : KIn n (takeD n D cm who c) (takeCm n D cm who c) := by
  by_cases h0 : takeE n cm who c = 0
  · obtain ⟨e1, e2, _⟩ := cW_ (D := D) h0
    rw [e1, e2]
    have hin : (0 ≤ who ∧ who < n) ∧ c.check n = 0 := by
      unfold takeE at h0
      split at h0
      · cases h0
      · next h1 =>
        split at h0
        · next h2 => exact absurd h0 h2
        · next h2 => exact ⟨Classical.not_not.1 h1, Classical.not_not.1 h2⟩
    have hp := h.put (dKey c.bytes)
    refine ⟨cy_ h.nd _ _, fun w v hv => ?_, fun w v hv => ?_, fun w v hv => ?_⟩
    all_goals rw [ba_] at hv
    all_goals split at hv
    · next h1 => rw [h1]; exact hin.1
    · exact h.rng w v hv
    · rw [← Option.some.inj hv]; exact ⟨hc, hin.2⟩
    · exact h.ok w v hv
    · rw [← Option.some.inj hv]
      exact ⟨jO_, mkKp_self.symm⟩
    · exact hp.know w v hv
  · obtain ⟨e1, e2, _⟩ := eV_ (D := D) rfl h0
    rw [e1, e2]
    exact h
theorem kk_ : (takeD n D cm who c).length ≤ D.length + 1 := by
  unfold takeD
  split
  · exact ca_ _ _
  · omega
theorem kj_ (h : Num1 D) : Num1 (takeD n D cm who c) := by
  unfold takeD
  split
  · exact h.put _
  · exact h
/-! ### acks -/
structure RelA (n : Nat) (L : List Tl) (RA : List RAk) : Prop where
  acks : ∀ (i : Nat) (w : Int), ackOf L i w = (RA.find? (sameA w (i : Int))).map (·.k)
  nd : (RA.map fun a => (a.from_, a.of_)).Nodup
  rng : ∀ a ∈ RA, 0 ≤ a.of_ ∧ a.of_ < n
theorem RelA.start (zs : List (Nat × Nat × Nat)) : RelA n (newTls zs) [] := ⟨fun i w => by rw [jM_]; rfl, List.nodup_nil, fun a h => by cases h⟩
theorem bD_ {a : RAk} : sameA who seq a = true ↔ a.from_ = who ∧ a.of_ = seq := by
  unfold sameA
  simp
theorem RelA.one (h : RelA n L RA) {a d : RAk} (ha : a ∈ RA) (hd : d ∈ RA) (h1 : sameA who seq a = true) (h2 : sameA who seq d = true) : a = d := by
  have e1 := bD_.1 h1
  have e2 := bD_.1 h2
  obtain ⟨i, hi, rfl⟩ := List.getElem_of_mem ha
  obtain ⟨j, hj, rfl⟩ := List.getElem_of_mem hd
  have key : ∀ (i j : Nat) (hi : i < RA.length) (hj : j < RA.length), i < j → RA[i].from_ = RA[j].from_ → RA[i].of_ = RA[j].of_ → False := fun i j hi hj hij e1 e2 => by
    have h3 := List.pairwise_iff_getElem.1 h.nd i j (by rw [List.length_map]; exact hi) (by rw [List.length_map]; exact hj) hij
    simp only [List.getElem_map] at h3
    exact h3 (by rw [e1, e2])
  rcases Nat.lt_trichotomy i j with hij | hij | hij
  · exact (key i j hi hj hij (by rw [e1.1, e2.1]) (by rw [e1.2, e2.2])).elim
  · subst hij; rfl
  · exact (key j i hj hi hij (by rw [e1.1, e2.1]) (by rw [e1.2, e2.2])).elim
theorem RelA.find (h : RelA n L RA) {a : RAk} (ha : a ∈ RA) (h1 : sameA who seq a = true) : RA.find? (sameA who seq) = some a := by
  cases hf : RA.find? (sameA who seq) with
  | none =>
    rw [List.find?_eq_none] at hf
    exact absurd h1 (hf a ha)
  | some d => rw [h.one ha (List.mem_of_find?_eq_some hf) h1 (List.find?_some hf)]
theorem dM_ (h : RelA n L RA) (hL : L.length = n) : rackE n RA who seq k = ackE n L who seq k := by
  unfold rackE ackE
  split
  · rfl
  · next h9 =>
    have hin := Classical.not_not.1 h9
    have hlt : seq.toNat < L.length := by omega
    rw [List.getElem?_eq_getElem hlt]
    dsimp only
    have h2 := h.acks seq.toNat who
    rw [js_ hlt, show ((seq.toNat : Nat) : Int) = seq by omega] at h2
    rw [h2]
    cases hf : RA.find? (sameA who seq) with
    | none =>
      rw [List.find?_eq_none] at hf
      rw [List.find?_eq_none.2 fun a ha => by simp [Bool.eq_false_iff.2 (hf a ha)]]
      rfl
    | some a =>
      have ham := List.mem_of_find?_eq_some hf
      have has := List.find?_some hf
      show _ = laterE k.view a.k.view
      by_cases hv : k.view ≤ a.k.view
      · cases hf2 : RA.find? (fun d => sameA who seq d && decide (k.view ≤ d.k.view)) with
        | none =>
          rw [List.find?_eq_none] at hf2
          exact absurd (by rw [has, decide_eq_true hv]; rfl) (hf2 a ham)
        | some d =>
          have hd := List.find?_some hf2
          rw [Bool.and_eq_true] at hd
          rw [h.one (List.mem_of_find?_eq_some hf2) ham hd.1 has]
      · rw [List.find?_eq_none.2 fun d hd hs => by
          rw [Bool.and_eq_true, decide_eq_true_eq] at hs
          rw [h.one hd ham hs.1 has] at hs
          exact hv hs.2]
        unfold laterE
        rw [if_neg (by omega), if_neg (by omega)]
theorem RelA.ack (h : RelA n L RA) (hL : L.length = n) : RelA n (ackL n L who seq k) (rackL n RA who seq k) := by
  by_cases h0 : ackE n L who seq k = 0
  · have hin : (0 ≤ who ∧ who < n) ∧ 0 ≤ seq ∧ seq < n := Classical.byContradiction fun hx => by
      rw [io_ hx] at h0
      cases h0
    have er : rackL n RA who seq k = rackR RA who seq ++ [⟨who, seq, k⟩] := if_pos ((dM_ h hL).trans h0)
    rw [er]
    have hnew : sameA who seq ⟨who, seq, k⟩ = true := bD_.2 ⟨rfl, rfl⟩
    have hsub : ∀ a ∈ rackR RA who seq, a ∈ RA ∧ sameA who seq a = false := fun a ha => by
      obtain ⟨h1, h2⟩ := List.mem_filter.1 ha
      exact ⟨h1, by simpa using h2⟩
    refine ⟨fun i w => ?_, ?_, fun a ha => ?_⟩
    · rw [lB_, List.find?_append]
      by_cases hi : i = seq.toNat ∧ w = who
      · rw [if_pos ⟨hi.1, hi.2, h0, by omega⟩, hi.1, hi.2, show ((seq.toNat : Nat) : Int) = seq by omega]
        rw [List.find?_eq_none.2 fun a ha => by rw [(hsub a ha).2]; decide]
        rw [List.find?_cons, hnew]
        rfl
      · rw [if_neg fun hx => hi ⟨hx.1, hx.2.1⟩, h.acks]
        have hno : sameA w (i : Int) ⟨who, seq, k⟩ = false := Bool.eq_false_iff.2 fun hx => hi (by
          have := bD_.1 hx
          dsimp only at this
          omega)
        rw [List.find?_cons, hno, List.find?_nil, Option.or_none]
        congr 1
        unfold rackR
        rw [List.find?_filter]
        congr 1
        funext a
        by_cases hx : sameA w (i : Int) a = true
        · have e1 := bD_.1 hx
          rw [hx]
          refine (decide_eq_true ⟨?_, rfl⟩).symm
          rw [Bool.not_eq_true']
          refine Bool.eq_false_iff.2 fun hy => hi ?_
          have e2 := bD_.1 hy
          omega
        · rw [Bool.eq_false_iff.2 hx]
          exact (decide_eq_false fun h9 => by cases h9.2).symm
    · rw [List.map_append, List.nodup_append]
      refine ⟨h.nd.sublist (List.filter_sublist.map _), by simp, fun x hx y hy e => ?_⟩
      obtain ⟨a, ha, rfl⟩ := List.mem_map.1 hx
      have hy : y = (who, seq) := by simpa using hy
      rw [hy] at e
      have := (hsub a ha).2
      rw [bD_.2 ⟨congrArg Prod.fst e, congrArg Prod.snd e⟩] at this
      cases this
    · rcases List.mem_append.1 ha with ha | ha
      · exact h.rng a (hsub a ha).1
      · rw [List.mem_singleton.1 ha]
        exact hin.2
  · rw [(jr_ rfl h0).1, show rackL n RA who seq k = RA from if_neg (by rw [dM_ h hL]; exact h0)]
    exact h
theorem e8_ : (rackL n RA who seq k).length ≤ RA.length + 1 := by
  unfold rackL
  split
  · rw [List.length_append]
    have := b8_ (RA := RA) (who := who) (seq := seq)
    simp only [List.length_cons, List.length_nil]
    omega
  · omega
theorem dQ_ (h : RelA n L RA) (hL : L.length = n) (hok : ∀ x ∈ L, TlOk x) : votR RA of_ k = votesN n L of_ k := by
  by_cases hin : 0 ≤ of_ ∧ of_ < n
  · obtain ⟨j, hj⟩ : ∃ j : Nat, of_ = j := ⟨of_.toNat, by omega⟩
    subst hj
    have hlt : j < L.length := by omega
    rw [votes_at hok hL (by omega)]
    unfold votR cnt
    have ti := (hok _ (List.getElem_mem hlt)).ti
    have key : ((RA.filter (voteB (j : Int) k)).map (·.from_)).Perm (((L[j]'hlt).m.filter fun p => decide (p.2 = k)).map (·.1)) := by
      refine (List.perm_ext_iff_of_nodup ?_ (ti.nd.sublist (List.filter_sublist.map _))).2 fun w => ?_
      · have h1 : ((RA.filter (voteB (j : Int) k)).map fun a => (a.from_, a.of_)).Nodup := h.nd.sublist (List.filter_sublist.map _)
        rw [show ((RA.filter (voteB (j : Int) k)).map fun a => (a.from_, a.of_)) = ((RA.filter (voteB (j : Int) k)).map (·.from_)).map fun w => (w, (j : Int)) by
          rw [List.map_map]
          refine List.map_congr_left fun a ha => ?_
          have h2 := (List.mem_filter.1 ha).2
          unfold voteB at h2
          simp only [Bool.and_eq_true, decide_eq_true_eq] at h2
          exact congrArg (Prod.mk _) h2.1.1] at h1
        exact List.Pairwise.of_map _ (fun a b hab e => hab (by rw [e])) h1
      · have hv : ∀ a : RAk, voteB (j : Int) k a = true ↔ a.of_ = (j : Int) ∧ a.k = k := fun a => by
          unfold voteB
          simp only [Bool.and_eq_true, decide_eq_true_eq]
          exact ⟨fun ⟨⟨h1, h2⟩, h3⟩ => ⟨h1, Sd.same h2 h3⟩, fun ⟨h1, h2⟩ => ⟨⟨h1, by rw [h2]⟩, by rw [h2]⟩⟩
        have hq := h.acks j w
        rw [js_ hlt] at hq
        constructor
        · intro hm
          obtain ⟨a, ha, rfl⟩ := List.mem_map.1 hm
          obtain ⟨h1, h2⟩ := List.mem_filter.1 ha
          obtain ⟨h3, h4⟩ := (hv a).1 h2
          rw [h.find h1 (bD_.2 ⟨rfl, h3⟩)] at hq
          exact List.mem_map.2 ⟨_, List.mem_filter.2 ⟨gu_ hq, decide_eq_true h4⟩, rfl⟩
        · intro hm
          obtain ⟨p, hp, rfl⟩ := List.mem_map.1 hm
          obtain ⟨h1, h2⟩ := List.mem_filter.1 hp
          rw [gl_ ti.nd h1] at hq
          obtain ⟨a, h3, h4⟩ := Option.map_eq_some_iff.1 hq.symm
          obtain ⟨h5, h6⟩ := bD_.1 (List.find?_some h3)
          exact List.mem_map.2 ⟨a, List.mem_filter.2 ⟨List.mem_of_find?_eq_some h3, (hv a).2 ⟨h6, h4.trans (by simpa using h2)⟩⟩, h5⟩
    have h2 := key.length_eq
    rw [List.length_map, List.length_map] at h2
    rw [List.countP_eq_length_filter]
    exact h2
  · unfold votesN
    rw [if_neg hin]
    unfold votR
    rw [List.countP_eq_zero]
    intro a ha hb
    unfold voteB at hb
    simp only [Bool.and_eq_true, decide_eq_true_eq] at hb
    have := h.rng a ha
    omega
end
section
variable {n b : Nat} {D : List (ByteArray × Nat)} {cm : List (Int × Kp)} {L : List Tl} {RA : List RAk} {who seq view of_ : Int} {c : Chg} {k : Sd} {s : Sgn} {i : Nat}
/-! ### the same changes -/
theorem row_rise : (rowK n cm).Pairwise fun s t => s.who < t.who := by
  unfold rowK
  rw [List.pairwise_filterMap]
  refine List.pairwise_lt_range.imp fun {i j} hij s hs t ht => ?_
  unfold rowAt' at hs ht
  obtain ⟨_, _, rfl⟩ := Option.map_eq_some_iff.1 hs
  obtain ⟨_, _, rfl⟩ := Option.map_eq_some_iff.1 ht
  show (i : Int) < (j : Int)
  omega
theorem f5_ (h : KIn n D cm) : ((rowK n cm).map (·.chg)).Perm (cm.map (·.2.c)) := by
  have key : ((rowK n cm).map fun s => (s.who, s.chg)).Perm (cm.map fun e => (e.1, e.2.c)) := by
    refine (List.perm_ext_iff_of_nodup ?_ ?_).2 fun p => ?_
    · refine List.pairwise_map.2 (row_rise.imp fun {s t} hst e => ?_)
      have := congrArg Prod.fst e
      dsimp only at this
      omega
    · refine List.pairwise_map.2 ((List.pairwise_map.1 h.nd).imp fun {x y} hxy (e : (x.1, x.2.c) = (y.1, y.2.c)) => hxy (by have h9 := congrArg (fun p : Int × Chg => p.1) e; exact h9))
    · constructor
      · intro hp
        obtain ⟨s, hs, rfl⟩ := List.mem_map.1 hp
        obtain ⟨i, v, hi, h1, rfl⟩ := di_.1 hs
        exact List.mem_map.2 ⟨_, gu_ h1, rfl⟩
      · intro hp
        obtain ⟨e, he, rfl⟩ := List.mem_map.1 hp
        have h1 : aget cm e.1 = some e.2 := gl_ h.nd he
        obtain ⟨h2, h3⟩ := h.rng _ _ h1
        exact List.mem_map.2 ⟨⟨e.1, e.2.c⟩, di_.2 ⟨e.1.toNat, e.2, by omega, by rw [show ((e.1.toNat : Nat) : Int) = e.1 by omega]; exact h1, by rw [show ((e.1.toNat : Nat) : Int) = e.1 by omega]⟩, rfl⟩
  have h2 := key.map Prod.snd
  rw [List.map_map, List.map_map] at h2
  exact h2
theorem gV_ (h : KIn n D cm) (p : Chg → Bool) : (rowK n cm).countP (fun s => p s.chg) = cm.countP fun e => p e.2.c := by
  have h1 := (f5_ h).countP_eq p
  rw [List.countP_map, List.countP_map] at h1
  exact h1
theorem k2_ (h : KIn n D cm) : fromR (rowK n cm) view = (vwK cm view).length := by
  unfold fromR vwK
  rw [gV_ h (fun c => decide (view ≤ c.view)), List.length_map, List.countP_eq_length_filter]
/-! ### Join -/
def JInv (view : Int) (done : List Sgn) (a : Nat × Int) : Prop := a.1 = done.countP (fun s => decide (view < s.chg.view)) ∧ (0 < a.1 → (∃ s ∈ done, view < s.chg.view ∧ s.chg.view = a.2) ∧ ∀ s ∈ done, view < s.chg.view → a.2 ≤ s.chg.view)
theorem JInv.step {done : List Sgn} {a : Nat × Int} (h : JInv view done a) (s : Sgn) : JInv view (done ++ [s]) (jst view a s) := by
  obtain ⟨h1, h2⟩ := h
  unfold jst
  by_cases hs : view < s.chg.view
  · rw [if_pos hs]
    refine ⟨?_, fun _ => ?_⟩
    · rw [List.countP_append, List.countP_singleton, if_pos (decide_eq_true hs), ← h1]
    · dsimp only
      by_cases h0 : a.1 = 0 ∨ s.chg.view < a.2
      · rw [if_pos h0]
        refine ⟨⟨s, by simp, hs, rfl⟩, fun t ht hv => ?_⟩
        rcases List.mem_append.1 ht with ht | ht
        · rcases h0 with h0 | h0
          · rw [h0] at h1
            exact absurd (decide_eq_true hv) (List.countP_eq_zero.1 h1.symm t ht)
          · have h3 : 0 < a.1 := by
              rw [h1]
              exact List.countP_pos_iff.2 ⟨t, ht, decide_eq_true hv⟩
            have := (h2 h3).2 t ht hv
            omega
        · rw [List.mem_singleton.1 ht]; exact Int.le_refl _
      · rw [if_neg h0]
        have h3 : 0 < a.1 := by omega
        obtain ⟨⟨t, h4, h5, h6⟩, h7⟩ := h2 h3
        refine ⟨⟨t, List.mem_append_left _ h4, h5, h6⟩, fun u hu hv => ?_⟩
        rcases List.mem_append.1 hu with hu | hu
        · exact h7 u hu hv
        · rw [List.mem_singleton.1 hu]; omega
  · rw [if_neg hs]
    refine ⟨?_, fun h3 => ?_⟩
    · rw [List.countP_append, List.countP_singleton, if_neg (by simpa using hs), ← h1]
      rfl
    · obtain ⟨⟨t, h4, h5, h6⟩, h7⟩ := h2 h3
      refine ⟨⟨t, List.mem_append_left _ h4, h5, h6⟩, fun u hu hv => ?_⟩
      rcases List.mem_append.1 hu with hu | hu
      · exact h7 u hu hv
      · rw [List.mem_singleton.1 hu] at hv; exact absurd hv hs
theorem JInv.all : ∀ {l done : List Sgn} {a : Nat × Int}, JInv view done a → JInv view (done ++ l) (l.foldl (jst view) a)
  | [], done, a, h => by rw [List.append_nil]; exact h
  | s :: l, done, a, h => by
    have h2 := JInv.all (l := l) (h.step s)
    rw [List.append_assoc] at h2
    exact h2
theorem kY_ (RL : List Sgn) : JInv view RL (joinF RL view) := JInv.all (done := []) ⟨rfl, fun h => by cases h⟩
theorem kX_ : (joinL cm view).length = cm.countP fun e => decide (view < e.2.c.view) := by
  unfold joinL
  rw [← List.countP_eq_length_filter, (cC_ _).countP_eq]
  unfold vwK
  rw [List.countP_map, List.countP_filter]
  refine List.countP_congr fun e _ => ?_
  simp only [Function.comp_apply, Bool.and_eq_true, Bool.not_eq_true', decide_eq_false_iff_not, decide_eq_true_eq]
  omega
theorem hb_ {x : Int} : x ∈ joinL cm view ↔ view < x ∧ ∃ e ∈ cm, e.2.c.view = x := by
  unfold joinL
  rw [List.mem_filter, (cC_ _).mem_iff]
  unfold vwK
  simp only [List.mem_map, List.mem_filter, decide_eq_true_eq, Bool.not_eq_true', decide_eq_false_iff_not]
  constructor
  · rintro ⟨⟨e, ⟨h1, h2⟩, rfl⟩, h3⟩
    exact ⟨by omega, e, h1, rfl⟩
  · rintro ⟨h1, e, h2, rfl⟩
    exact ⟨⟨e, ⟨h2, by omega⟩, rfl⟩, by omega⟩
theorem kW_ (h : KIn n D cm) : joinRR (rowK n cm) n view = joinR n cm view := by
  have hi := kY_ (view := view) (rowK n cm)
  have h1 : (joinF (rowK n cm) view).1 = (joinL cm view).length := by
    rw [hi.1, kX_]
    exact gV_ h fun c => decide (view < c.view)
  have hm : ∀ x, (∃ s ∈ rowK n cm, s.chg.view = x) ↔ ∃ e ∈ cm, e.2.c.view = x := fun x => by
    have h3 : ∀ d, d ∈ (rowK n cm).map (·.chg) ↔ d ∈ cm.map (·.2.c) := fun d => (f5_ h).mem_iff
    constructor
    · rintro ⟨s, hs, rfl⟩
      obtain ⟨e, he, h4⟩ := List.mem_map.1 ((h3 _).1 (List.mem_map_of_mem (f := (·.chg)) hs))
      exact ⟨e, he, by rw [h4]⟩
    · rintro ⟨e, he, rfl⟩
      obtain ⟨s, hs, h4⟩ := List.mem_map.1 ((h3 _).2 (List.mem_map_of_mem (f := (·.2.c)) he))
      exact ⟨s, hs, by rw [h4]⟩
  unfold joinRR joinR
  rw [h1]
  show (if _ ≤ fN n then _ else _) = if _ ≤ fN n then _ else _
  by_cases h2 : ((joinL cm view).length : Int) ≤ fN n
  · rw [if_pos h2, if_pos h2]
  · rw [if_neg h2, if_neg h2]
    have hf : 0 ≤ fN n := by unfold fN; omega
    have h3 : 0 < (joinL cm view).length := by omega
    obtain ⟨⟨s, h4, h5, h6⟩, h7⟩ := hi.2 (by omega)
    have hs : (joinL cm view).Pairwise (· ≤ ·) := (cr_ _).sublist List.filter_sublist
    cases hj : joinL cm view with
    | nil => rw [hj] at h3; cases h3
    | cons x xs =>
      show (_, true) = (x, true)
      rw [hj] at hs
      have hx := hb_.1 (show x ∈ joinL cm view by rw [hj]; exact List.mem_cons_self)
      obtain ⟨t, h8, h9⟩ := (hm x).2 hx.2
      have e1 := h7 t h8 (by omega)
      have e2 : x ≤ s.chg.view := by
        have h10 := hb_.2 ⟨h5, (hm _).1 ⟨s, h4, rfl⟩⟩
        rw [hj] at h10
        rcases List.mem_cons.1 h10 with h11 | h11
        · omega
        · exact (List.pairwise_cons.1 hs).1 _ h11
      rw [show (joinF (rowK n cm) view).2 = x by omega]
/-! ### Real, Certain -/
theorem iG_ (h : KIn n D cm) : sameR (rowK n cm) s = sameK cm s := by
  unfold sameR sameK keptC
  rw [eH_ h]
  cases aget cm s.who with
  | none => rfl
  | some v => exact (Bool.true_and _).symm
theorem dV_ (h : KIn n D cm) (D2 : List (ByteArray × Nat)) : realDR D2 (rowK n cm) s = realD D2 cm s := by
  unfold realDR realD
  rw [iG_ h]
theorem e7_ (h : KIn n D cm) (hv : ∀ of_ k, votR RA of_ k = votesN n L of_ k) (D2 : List (ByteArray × Nat)) : realBR D2 n (rowK n cm) RA s = realB D2 n cm L s := by
  unfold realBR realB
  rw [iG_ h, hv]
  congr 1
theorem jC_ (h : KIn n D cm) (hv : ∀ of_ k, votR RA of_ k = votesN n L of_ k) : realBR (realD D cm s) n (rowK n cm) RA s = realB D n cm L s := by
  rw [e7_ h hv]
  unfold realB
  have e : sdOf (realD D cm s) s.chg = sdOf D s.chg := by
    unfold realD
    split
    · rfl
    · exact gR_
  rw [e]
theorem ho_ (h : KIn n D cm) (hv : ∀ of_ k, votR RA of_ k = votesN n L of_ k) : certR n D RA view (rowK n cm) = certTo n cm L view n := by
  unfold certR rowK certTo
  rw [List.filter_filterMap]
  congr 1
  funext i
  unfold rowAt' certOk
  cases hg : aget cm (i : Int) with
  | none => rfl
  | some v =>
    obtain ⟨_, h2⟩ := h.know _ _ hg
    show Option.filter _ (some (⟨(i : Int), v.c⟩ : Sgn)) = _
    have e : certB n D RA view ⟨(i : Int), v.c⟩ = decide (v.c.view = view ∧ 2 * fN n + 1 ≤ ((votesN n L (i : Int) ⟨view, v.dig, v.len⟩ : Nat) : Int)) := by
      unfold certB
      rw [hv]
      dsimp only
      by_cases h3 : v.c.view = view
      · rw [show sdOf D v.c = ⟨view, v.dig, v.len⟩ from Sd.same h3 (by rw [h2]; rfl)]
        simp [h3]
      · simp [h3]
    unfold Option.filter
    dsimp only
    rw [e]
    by_cases h4 : v.c.view = view ∧ 2 * fN n + 1 ≤ ((votesN n L (i : Int) ⟨view, v.dig, v.len⟩ : Nat) : Int)
    · rw [decide_eq_true h4]
      exact (if_pos h4).symm
    · rw [decide_eq_false h4]
      exact (if_neg h4).symm
theorem ct_ (h : KIn n D cm) (h7 : n ≤ 7) (hs : s ∈ rowK n cm) (D2 : List (ByteArray × Nat)) : realB D2 n cm L s = true ∧ realD D2 cm s = D2 := by
  obtain ⟨_, _, _, h4, h5⟩ := a7_ h h7 hs
  have e : sameK cm s = true := by
    unfold sameK
    rw [h4, h5, X_.2 rfl]
    rfl
  exact ⟨by unfold realB; rw [e]; rfl, if_pos e⟩
theorem cR_ {B : List (ByteArray × Nat) → Sgn → Bool} {Dn : List (ByteArray × Nat) → Sgn → List (ByteArray × Nat)} : ∀ {l : List Sgn} {D : List (ByteArray × Nat)}, (∀ s ∈ l, B D s = true ∧ Dn D s = D) → allR B Dn D l = (D, true)
  | [], D, _ => rfl
  | s :: l, D, h => by
    obtain ⟨h1, h2⟩ := h s List.mem_cons_self
    show (if B D s = true then _ else _) = _
    rw [if_pos h1, h2]
    exact cR_ fun t ht => h t (List.mem_cons_of_mem _ ht)
/-! ### both -/
structure BothK (n b : Nat) (D : List (ByteArray × Nat)) (cm : List (Int × Kp)) (L : List Tl) (RA : List RAk) : Prop where
  kin : KIn n D cm
  tls : TlsOk n b L
  ra : RelA n L RA
  num : Num1 D
  few : RA.length ≤ b
theorem BothK.vot (h : BothK n b D cm L RA) : ∀ of_ k, votR RA of_ k = votesN n L of_ k := fun _ _ => dQ_ h.ra h.tls.len h.tls.ok
theorem BothK.put (h : BothK n b D cm L RA) (j : ByteArray) : BothK n b (pm D j) cm L RA := ⟨h.kin.put j, h.tls, h.ra, h.num.put j, h.few⟩
theorem BothK.mono (h : BothK n b D cm L RA) : BothK n (b + 1) D cm L RA := ⟨h.kin, h.tls.mono (Nat.le_succ _), h.ra, h.num, Nat.le_succ_of_le h.few⟩
theorem BothK.real (h : BothK n b D cm L RA) (s : Sgn) : BothK n b (realD D cm s) cm L RA := by
  unfold realD
  split
  · exact h
  · exact h.put _
theorem BothK.take (h : BothK n b D cm L RA) (hc : CIn c) (who : Int) : BothK n b (takeD n D cm who c) (takeCm n D cm who c) L RA := ⟨h.kin.take hc, h.tls, h.ra, kj_ h.num, h.few⟩
theorem BothK.ack (h : BothK n b D cm L RA) (hb : b < 1000) (hk : sdOk k) (who seq : Int) : BothK n (b + 1) D cm (ackL n L who seq k) (rackL n RA who seq k) := ⟨h.kin, h.tls.ack hb hk, h.ra.ack h.tls.len, h.num, Nat.le_trans e8_ (Nat.succ_le_succ h.few)⟩
theorem BothK.start (zs : List (Nat × Nat × Nat)) (h : zs.length = n) : BothK n 0 [] [] (newTls zs) [] := ⟨KIn.nil, tls_new zs h, RelA.start zs, Num1.nil, Nat.le_refl _⟩
end
theorem row_nil {n : Nat} : rowK n [] = [] := List.eq_nil_iff_forall_not_mem.2 fun s hs => by
  obtain ⟨_, _, _, h, _⟩ := di_.1 hs
  cases h
theorem KIn.few {n : Nat} {D : List (ByteArray × Nat)} {cm : List (Int × Kp)} (h : KIn n D cm) : cm.length ≤ n := by
  have h1 := (f5_ h).length_eq
  rw [List.length_map, List.length_map] at h1
  rw [← h1]
  exact bK_
theorem as_ {n : Nat} {L : List Tl} {who seq : Int} {k : Sd} : (tlsP (ackL n L who seq k)).ids = (tlsP L).ids := by
  have h : ((ackL n L who seq k).map fun x => (tlP x).ids) = L.map fun x => (tlP x).ids := by
    refine List.ext_getElem? fun i => ?_
    rw [List.getElem?_map, List.getElem?_map, eO_]
    split
    · cases L[i]? <;> rfl
    · rfl
  show ((ackL n L who seq k).map tlP).flatMap (·.ids) = (L.map tlP).flatMap (·.ids)
  rw [List.flatMap_map, List.flatMap_map, List.flatMap_def, List.flatMap_def]
  exact congrArg List.flatten h
theorem c9_ {e : Int} {D : List (ByteArray × Nat)} : admTo e D D = D := by
  unfold admTo
  split <;> rfl
theorem gv_ (a : AAc) : Abs.agg (part a.abs 3 5) = .agg a.chg.abs := rfl
theorem ju_ (a : AAc) : Abs.agg (part a.abs 8 34) = .agg (voA a.k a.seq) := by
  unfold A.part AAc.abs
  rw [List.drop_succ_cons, List.drop_succ_cons, List.drop_succ_cons]
  show Abs.agg (List.take 34 (voA a.k a.seq)) = _
  rw [List.take_of_length_le (by rw [bu_]; exact Nat.le_refl _)]
structure ChOk (c : Chc) : Prop where
  seq : InR .i64 c.base.seq
  all : ∀ b ∈ c.batches, b.length ≤ 1000000 ∧ ∀ e ∈ b, e.Lits
  few : c.batches.length ≤ 1000000
theorem dH_ : ChOk Chc.zero := ⟨by show InR .i64 0; simp only [InR, lo, hi]; omega, (fun b hb => by cases hb), Nat.zero_le _⟩
theorem ib_ {l : List Sgn} {n : Int} (hl : ∀ s ∈ l, CIn s.chg) : ChOk (chooseF l n).1 := by
  cases hb : baseF l n with
  | none => rw [dr_ hb]; exact dH_
  | some b =>
    by_cases hall : allNums l n b.seq (farF l b.seq) = true
    · rw [d3_ hb hall]
      have hbs : InR .i64 b.seq := by
        rcases eN_ (m := l) (a := none) (show l.foldl (baseIn l n) none = some b from hb) with ⟨s, h1, h2⟩ | h1
        · exact (hl s h1).lits.pts _ h2
        · cases h1
      refine ⟨hbs, fun e he => ?_, ?_⟩
      · obtain ⟨i, _, rfl⟩ := List.mem_map.1 he
        exact ⟨Nat.le_trans (iS_ hl) (by decide), kR_ (Q := fun b => ∀ e ∈ b, e.Lits) (fun e he => by cases he) fun s hs x hx => ((hl s hs).lits.prep x hx).all⟩
      · have hf : FarOk b.seq (farF l b.seq) := (FarOk.zero hbs).all fun s hs x hx => ((hl s hs).lits.prep x hx).seq
        show (numsF l n b.seq (farF l b.seq)).length ≤ 1000000
        rw [bU_]
        have := hf.1
        omega
    · rw [fl_ hb (by simpa using hall)]
      exact dH_
theorem chok_adm {e : Int} {ok : Bool} {ch : Chc × Int} (h : ChOk ch.1) : ChOk (admO e ok ch).1 := by
  unfold admO
  split
  · exact dH_
  · split
    · exact h
    · exact dH_
section
variable {xs ys : List Sgn}
theorem Sgn.same {p q : Sgn} (h1 : p.who = q.who) (h2 : p.chg = q.chg) : p = q := by
  obtain ⟨a, b⟩ := p
  obtain ⟨c, d⟩ := q
  dsimp only at h1 h2
  rw [h1, h2]
set_option maxHeartbeats 2000000 in
theorem rvsame_s (hn : xs.length < 9223372036854775807) (hf : ∀ s ∈ xs, s.chg.Sized) (h1 : ∀ s ∈ xs, s.chg.Lits) (h2 : ∀ s ∈ ys, s.chg.Lits) : Spec Tryz.prog 28 [sgnsA xs, sgnsA ys] [] (fun _ : Unit => []) (fun _ => boo (yes (xs = ys))) := by
  refine G_ Tryz.func28 rfl Tryz.ntmps28 rfl fun G w =>d_<|a_<|q_ 1 rfl<|g_<|c_<|d_<|d_<|a_<|q_ 1 rfl<|b_ (z_ rfl Tryz.underlying53 (List.length_map _)) rfl rfl<|q_ 1 rfl<|b_ (z_ rfl Tryz.underlying53 (List.length_map _)) rfl rfl<|q_ 1 rfl<|g_<|c_<|r_ rfl ?_ ?_
  · intro hc10
    refine d_<|a_<|q_ 1 rfl<|g_<|c_<|n_<|i_ nofun<|f_ (rs := [.tmp 4]) rfl (RV.tmp rfl RV.nil) (()) sn_<|av_ fun h => ?_
    subst h
    exact hc10 rfl
  intro hc10
  have hle : xs.length = ys.length := by omega
  refine p_<|c_<|d_<|d_<|a_<|q_ 1 rfl<|b_ (z_ rfl Tryz.underlying53 (List.length_map _)) rfl rfl<|q_ 1 rfl<|g_<|c_<|t_<|S_ (ι := Nat) (fun z => []) (fun z => [(0, sgnsA xs), (1, sgnsA ys), (12, int (xs.length : Nat)), (13, int (z : Nat))]) (fun z => z ≤ xs.length ∧ xs.take z = ys.take z) (fun z => xs.length - z) (0) (⟨Nat.zero_le _, by simp⟩) (by exact ⟨rfl, rfl, rfl, rfl, trivial⟩) sn_ ?_
  intro z hz
  refine d_<|a_<|q_ 1 rfl<|g_<|c_<|d_<|r_ rfl ?_ ?_
  rotate_left
  · intro hc14
    refine Q_<|i_ nofun<|i_ nofun<|P_<|c_<|d_<|a_<|q_ 1 rfl<|g_<|c_<|n_<|f_ (rs := [.tmp 4]) rfl (RV.tmp rfl RV.nil) (()) sn_<|bl_ ⟨fun _ => ?_, fun _ => rfl⟩
    have h9 := hz.2
    rw [List.take_of_length_le (by omega), List.take_of_length_le (by omega)] at h9
    exact h9
  intro hc14
  have hlt : z < xs.length := by omega
  have hlt2 : z < ys.length := by omega
  refine p_<|c_<|d_<|t_<|d_<|a_<|q_ 2 rfl<|g_<|c_<|d_<|Y_ [] (.q 0 (.q 1 (.q 2 (.q 3 (.q 4 (.q 5 (.q 6 (.q 7 (.q 8 (.q 9 (.q 10 (.q 11 (.q 12 (.q 13 (.q 14 (.q 15 (.q 16 (.q 17 (.q 18 (.q 19 (.q 20 (.q 21 (.e 22 (.q 23 (.q 24 .nil))))))))))))))))))))))))) (by kernel_rfl) (by kernel_rfl) ?_
  refine qs_ 2 rfl<|l_ rfl (D_ tabOk Tryz.underlying53 rfl rfl rfl rfl (aa_ (by omega)) rfl rfl) (by simp) rfl rfl ?_
  refine l_ rfl (Z_ tabOk rfl rfl rfl rfl rfl) (by simp) rfl rfl ?_
  refine l_ rfl (au_ tabOk rfl rfl rfl) (by simp) rfl rfl ?_
  refine qs_ 2 rfl<|l_ rfl (D_ tabOk Tryz.underlying53 rfl rfl rfl rfl (aa_ (by omega)) rfl rfl) (by simp) rfl rfl ?_
  refine l_ rfl (Z_ tabOk rfl rfl rfl rfl rfl) (by simp) rfl rfl ?_
  refine l_ rfl (au_ tabOk rfl rfl rfl) (by simp) rfl rfl ?_
  refine qs_ 2 rfl<|am_ (t := 27) rfl ?_ ?_
  · intro hc27
    iterate 10 refine bq_ rfl rfl rfl ?_
    refine aE_ rfl rfl rfl<|qs_ 2 rfl<|N_<|c_<|O_ rfl<|d_<|a_<|q_ 1 rfl<|g_<|c_<|n_<|E_<|i_ nofun<|i_ nofun<|E_<|i_ nofun<|f_ (rs := [.tmp 4]) rfl (RV.tmp rfl RV.nil) (()) sn_<|av_ fun h => ?_
    subst h
    exact hc27 rfl
  intro hc27
  refine qs_ 2 rfl<|l_ rfl (D_ tabOk Tryz.underlying53 rfl rfl rfl rfl (aa_ (by omega)) rfl rfl) (by simp) rfl rfl ?_
  refine l_ rfl (Z_ tabOk rfl rfl rfl rfl rfl) (by simp) rfl rfl ?_
  refine l_ rfl (K_ tabOk rfl rfl rfl rfl) (by simp) rfl rfl ?_
  refine qs_ 2 rfl<|l_ rfl (D_ tabOk Tryz.underlying53 rfl rfl rfl rfl (aa_ (by omega)) rfl rfl) (by simp) rfl rfl ?_
  refine l_ rfl (Z_ tabOk rfl rfl rfl rfl rfl) (by simp) rfl rfl ?_
  refine l_ rfl (K_ tabOk rfl rfl rfl rfl) (by simp) rfl rfl ?_
  refine I_ rfl (hO_ (c := (xs[z]'hlt).chg) (d := (ys[z]'hlt2).chg) (hf _ (List.getElem_mem hlt)).pts (hf _ (List.getElem_mem hlt)).prep (hf _ (List.getElem_mem hlt)).prop (h1 _ (List.getElem_mem hlt)) (h2 _ (List.getElem_mem hlt2))) (by simp [mids, It.mids]) Casts.refl (by kernel_rfl) rfl rfl rfl ?_
  refine ap_<|fun _=>l_ rfl (ai_ rfl) (by simp) rfl rfl ?_
  refine qs_ 1 rfl<|N_<|c_<|ac_ rfl ?_ ?_
  rotate_left
  · intro hc40
    refine p_<|o_<|c_<|a_<|b_ (s_ rfl rfl (by simp only [InR, lo, hi]; omega)) rfl rfl ?_
    refine q_ 1 rfl<|g_<|x_ (z + 1) (by omega) (⟨hlt, bh_ hz.2 hlt hlt2 (Sgn.same (by simpa using hc27) (X_.1 (by simpa using hc40)))⟩) (by exact ⟨rfl, rfl, rfl, rfl, trivial⟩) sn_
  intro hc40
  refine d_<|a_<|q_ 1 rfl<|g_<|c_<|n_<|E_<|i_ nofun<|i_ nofun<|E_<|i_ nofun<|f_ (rs := [.tmp 4]) rfl (RV.tmp rfl RV.nil) (()) sn_<|av_ fun h => ?_
  subst h
  first
    | exact hc27 rfl
    | (have h8 := X_.2 (rfl : (xs[z]'hlt).chg = (xs[z]'hlt).chg)
       rw [h8] at hc40
       cases hc40)
end
end Go.Proofs.YtggajaigfkekhaaGreat.A
