/-
  Packed out of the texts: AN30.
-/
import Derived.Test.YtjclgkddfjbdiaaGreatDoorP012
set_option maxRecDepth 100000
set_option linter.unusedSimpArgs false
set_option linter.unusedVariables false
namespace Go.Proofs.YtjclgkddfjbdiaaGreatDoor.A
open Go.RowKit
section
variable {k : Int}
theorem iQ_  : Spec Tryz.prog 7 [int 7, .agg set0, .agg core0, .v (.int .u64 7), int 3] [] (fun _ : Unit => []) (fun _ => .tup [.v (.slice none 0 0), int 1]) := by
 refine t_ Tryz.func7 rfl Tryz.ntmps7 rfl fun G w =>c_<|a_<|eb_ (z_ (cs := set0) rfl) rfl rfl fun b6=>?_
 refine eb_ (z_ (cs := core0) rfl) rfl rfl fun b7=>?_
 refine q_ 2 rfl<|g_<|b_<|c_<|c_<|a_<|q_ 3 rfl<|D_ (t := 18) rfl (by intro hc18; exfalso; omega) ?_
 intro hc18
 refine q_ 4 rfl<|D_ (t := 22) rfl ?_ (by intro hc22; exfalso; omega)
 intro hc22
 exact q_ 7 rfl<|g_<|b_<|ab_ rfl<|c_<|a_<|q_ 2 rfl<|g_<|b_<|o_<|k_ nofun<|f_ (rs := [.tmp 10, .tmp 11]) rfl (RV.tmp rfl (RV.tmp rfl RV.nil)) (()) sn_<|rfl
set_option maxHeartbeats 4000000 in
theorem fixed45_s  : Spec Tryz.prog 5 [] [] (fun _ : Unit => []) (fun _ => boo true) := by
 refine t_ Tryz.func5 rfl Tryz.ntmps5 rfl fun G w =>c_<|a_<|q_ 1 rfl<|g_<|b_<|c_<|a_<|d_ (i_ (C := .agg core0) (u_ tabOk rfl rfl rfl rfl) rfl) rfl rfl<|eb_ (F_ tabOk rfl) rfl rfl fun b1=>?_
 refine e_ (p_ (L' := core0) tabOk rfl rfl rfl u0_ rfl (Nat.le_of_ble_eq_true rfl) rfl (by exact x_ rfl)) rfl rfl ?_
 refine g_<|b_<|c_<|a_<|d_ (i_ (C := .agg set0) (u_ tabOk rfl rfl rfl rfl) rfl) rfl rfl<|d_ (i_ (C := .agg core0) (y_ tabOk rfl rfl rfl l0_ List.not_mem_nil rfl) rfl) rfl rfl<|m_ (g7_) Casts.refl (by kernel_rfl) rfl rfl rfl ?_
 refine ap_<|fun _=>q_ 5 rfl<|g_<|b_<|c_<|a_<|d_ (i_ (C := .agg set0) (u_ tabOk rfl rfl rfl rfl) rfl) rfl rfl<|d_ (i_ (C := .agg core0) (y_ tabOk rfl rfl rfl l0_ List.not_mem_nil rfl) rfl) rfl rfl<|m_ (iQ_) Casts.refl (by kernel_rfl) rfl rfl rfl ?_
 refine ap_<|fun _=>q_ 5 rfl<|g_<|b_<|c_<|a_<|d_ (i_ (C := .agg set0) (u_ tabOk rfl rfl rfl rfl) rfl) rfl rfl<|d_ (i_ (C := .agg core0) (y_ tabOk rfl rfl rfl l0_ List.not_mem_nil rfl) rfl) rfl rfl<|m_ (play_s) Casts.refl (by kernel_rfl) rfl rfl rfl ?_
 refine Y_ (by repeat (first | exact Reads.nil | (refine Reads.blk ?_ ?_; focus ((repeat first|assumption|exact m0_|apply m1_); done)) | (refine Reads.rd ?_ ?_; focus ((repeat first|assumption|exact m0_|apply m1_); done)) | (refine Reads.pc ?_ ?_; focus ((repeat first|assumption|exact m0_|apply m1_); done)) | (refine Reads.rdpc ?_ ?_; focus ((repeat first|assumption|exact m0_|apply m1_); done)))) (fun _ => rfl) ?_
 intro z24
 refine q_ 5 rfl<|g_<|b_<|c_<|b8_ [] (Re.bigOut (xs := [.blk z24.z.c 74 [bkI z24.p, int 4, int 5, mapV z24.z.rm, mapV z24.z.cm, ptr z24.z.cr, mapV z24.z.em, .v z24.av], .pc (tmPc z24.z.rm intK intOk pE (rmL (r4 z24.z.R0 z24.z.R1 z24.z.R2 z24.z.R3))), .pc (tmPc z24.z.cm intK intOk pE [((4 : Int), some z24.z.ca)]), .blk z24.z.cr 97 [.v z24.cv], own 143 6 z24.cv z24.rows, own 26 7 z24.av [core1.cells.map .v]]) rfl) rfl<|a_<|q_ 3 rfl<|D_ (t := 29) rfl ?_ (by intro hc29; exfalso; omega)
 intro hc29
 refine q_ 4 rfl<|D_ (t := 33) rfl ?_ (by intro hc33; exfalso; omega)
 intro hc33
 refine q_ 4 rfl<|D_ (t := 37) rfl ?_ (by intro hc37; exfalso; omega)
 intro hc37
 refine q_ 1 rfl<|d_ (P_ (m := 3) rfl Tryz.underlying30 rfl) rfl rfl<|q_ 3 rfl<|D_ (t := 42) rfl ?_ (by intro hc42; exfalso; omega)
 intro hc42
 refine q_ 1 rfl<|d_ (W_ (s := 17) (q := 0) (xs := scr 2) (cs := ask0) tabOk Tryz.underlying30 rfl rfl rfl rfl rfl rfl rfl) rfl rfl<|d_ (aK_ tabOk rfl rfl rfl rfl rfl) rfl rfl<|d_ (i_ (C := int 1) (aI_ tabOk rfl rfl rfl) rfl) rfl rfl<|q_ 3 rfl<|D_ (t := 49) rfl ?_ (by intro hc49; exfalso; omega)
 intro hc49
 refine q_ 1 rfl<|d_ (W_ (s := 17) (q := 0) (xs := scr 2) (cs := ask0) tabOk Tryz.underlying30 rfl rfl rfl rfl rfl rfl rfl) rfl rfl<|d_ (aK_ tabOk rfl rfl rfl rfl rfl) rfl rfl<|d_ (i_ (C := hon0) (aI_ tabOk rfl rfl rfl) rfl) rfl rfl<|d_ (P_ (m := 4) rfl Tryz.underlying22 rfl) rfl rfl<|q_ 3 rfl<|D_ (t := 57) rfl ?_ (by intro hc57; exfalso; omega)
 intro hc57
 refine m_ (name_s (k := 6)) Casts.refl (by kernel_rfl) rfl rfl rfl ?_
 refine ap_<|fun _=>d_ (gS_ rfl rfl) rfl rfl<|q_ 2 rfl<|D_ (t := 61) rfl ?_ (by intro hc61; exfalso; exact hc61 (by decide))
 intro hc61
 refine q_ 1 rfl<|m_ (casked_s (c := z24.z.c) (p := z24.p) (rm := z24.z.rm) (cm := z24.z.cm) (cr := z24.z.cr) (em := z24.z.em) (av := z24.av)) Casts.refl (by kernel_rfl) rfl rfl rfl ?_
 refine bu_ [.pc (tmPc z24.z.rm intK intOk pE (rmL (r4 z24.z.R0 z24.z.R1 z24.z.R2 z24.z.R3))), .pc (tmPc z24.z.cm intK intOk pE [((4 : Int), some z24.z.ca)]), .blk z24.z.cr 97 [.v z24.cv], own 143 6 z24.cv z24.rows, .blk b1 26 core0] (fun _ => [.pc (tmPc z24.z.rm intK intOk pE (rmL (r4 z24.z.R0 z24.z.R1 z24.z.R2 z24.z.R3))), .pc (tmPc z24.z.cm intK intOk pE [((4 : Int), some z24.z.ca)]), .blk z24.z.cr 97 [.v z24.cv], own 143 6 z24.cv z24.rows, .blk b1 26 core0]) (by rw [List.perm_iff_count]; intro a; simp only [mids, It.mids, List.flatMap_cons, List.flatMap_nil, List.append_nil, List.nil_append, List.count_append, List.count_cons, List.count_nil, List.cons_append]; omega) (by intro x hx; simp only [List.mem_cons, List.not_mem_nil, or_false] at hx; rcases hx with rfl | rfl <;> exact .inl ⟨(by repeat first|assumption|exact m0_|apply m1_), rfl⟩) (by intro x hx; simp only [List.mem_cons, List.not_mem_nil, or_false] at hx; rcases hx with rfl | rfl | rfl | rfl | rfl <;> repeat first|assumption|exact m0_|apply m1_) (fun _ => (by repeat (first | exact List.Perm.nil | refine pk_ (by repeat (first | exact Rem_.here | apply Rem_.there)) ?_))) ?_
 intro _
 exact d_ (P_ (m := 1) rfl Tryz.underlying51 rfl) rfl rfl<|q_ 3 rfl<|g_<|b_<|o_<|f_ (rs := [.tmp 0]) rfl (RV.tmp rfl RV.nil) (()) sn_<|congrArg (fun b => Abs.v (Value.bool b)) (decide_eq_true rfl)
end
end Go.Proofs.YtjclgkddfjbdiaaGreatDoor.A
