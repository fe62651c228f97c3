/-
  Packed out of the texts: CO2, TM2, TRow, TM3, TPar, TM4, CO3, CO4, CO5.
-/
import Derived.Test.YtickdhjljpnlpaaGreatDoorQ08
set_option maxRecDepth 100000
set_option linter.unusedSimpArgs false
set_option linter.unusedVariables false
namespace Go.Proofs.YtickdhjljpnlpaaGreatDoor.A
open Go.RowKit
def Oc.zero : Oc := ⟨0, 0, 0⟩
theorem eR_ {α : Type} {eq gt : α → Bool} {xs : List α} (h : (placeG eq gt xs).2 = true) : ∃ h2 : (placeG eq gt xs).1 < xs.length, xs.find? eq = some (xs[(placeG eq gt xs).1]'h2) := by
  have ha : xs.any eq = true := by
    unfold placeG at h
    split at h
    · assumption
    · cases h
  have hp : placeG eq gt xs = (xs.findIdx eq, true) := if_pos ha
  refine ⟨by rw [hp]; exact cy_ ha, ?_⟩
  rw [j5_ ha]
  simp only [hp]
theorem eQ_ {α : Type} {eq gt : α → Bool} {xs : List α} (h : ¬ (placeG eq gt xs).2 = true) : xs.find? eq = none := by
  refine j4_ fun ha => h ?_
  unfold placeG
  rw [if_pos ha]
structure Lg.Few (l : Lg) : Prop where
  ls : l.ls.length ≤ 1000
  os : l.os.length ≤ 1000
section
variable {l : Lg} {x : Ltr} {o : Oc} {k n : Int} {s : ByteArray} {c : Core} {e : Ent} {p : Nat}
theorem gp_ (hf : l.Few) : Spec Tryz.prog 105 [.agg l.abs] [] (fun _ : Unit => []) (fun _ => .agg l.abs) := by
 have hf1 := hf.ls
 have hf2 := hf.os
 refine C_ Tryz.func105 rfl Tryz.ntmps105 rfl fun G w =>d_<|a_<|eb_ (L_ (cs := l.abs) rfl) rfl rfl fun b1=>?_
 refine eb_ (B_ tabOk rfl) rfl rfl fun b2=>?_
 refine g_<|b_<|d_<|ij_ 7 [] (.q 0 (.q 1 (.q 3 (.q 4 (.e 2 (.q 6 (.e 5 .nil))))))) (.e 7 (.q 8 (.e 9 .nil))) (by kernel_rfl) (by kernel_rfl) ?_
 refine qs_ 1 rfl<|hx_ fun hx9 =>v_ rfl (k_ (C := ltrsA l.ls) (i_ tabOk rfl rfl l1_ List.not_mem_nil rfl) rfl) hx9 rfl rfl<|qs_ 1 rfl<|v_ rfl (k_ (C := .sl 3 (l.os.map Oc.abs)) (i_ tabOk rfl rfl l1_ List.not_mem_nil rfl) rfl) hx9 rfl rfl<|Q_ rfl (bH_ (bF_ l.ls) (by rw [List.length_map]; omega)) (by simp [mids, It.mids]) Casts.refl (by kernel_rfl) rfl rfl rfl ?_
 refine ap_<|fun _=>qs_ 1 rfl<|Q_ rfl (bY_ (b4_ l.os) (by rw [List.length_map]; omega)) (by simp [mids, It.mids]) Casts.refl (by kernel_rfl) rfl rfl rfl ?_
 refine ap_<|fun _=>R_<|kB_ [b1]<|ex_ rfl (m_ (L' := l.abs) tabOk rfl rfl rfl u1_ rfl (Nat.le_of_ble_eq_true rfl) rfl rfl) (by simp) rfl rfl ?_
 refine hx_ fun hx9 =>qx_ 1 hx9 rfl<|ex_ rfl (m_ (L' := l.abs) tabOk rfl rfl rfl u1_ rfl (Nat.le_of_ble_eq_true rfl) rfl rfl) (by simp) rfl rfl ?_
 refine R_<|b_<|d_<|a_<|c_ (P_ tabOk rfl rfl rfl l1_ List.not_mem_nil rfl) rfl rfl<|e_ (m_ (L' := l.abs) tabOk rfl rfl rfl u0_ rfl (Nat.le_of_ble_eq_true rfl) rfl (by exact s_ rfl)) rfl rfl ?_
 refine g_<|b_<|l_<|f_ (rs := [.cell 2 30]) rfl (RV.cell rfl (RV.cellA tabOk rfl rfl l0_ (by rfl)) RV.nil) (()) sn_ ?_
 exact rfl
theorem llast_s (hf : l.Few) : Spec Tryz.prog 39 [.agg l.abs, int k] [] (fun _ : Unit => []) (fun _ => .tup [.agg (Oc.abs ((l.last k).getD Oc.zero)), boo (l.last k).isSome]) := by
 have hf1 := hf.ls
 have hf2 := hf.os
 refine C_ Tryz.func39 rfl Tryz.ntmps39 rfl fun G w =>d_<|a_<|eb_ (L_ (cs := l.abs) rfl) rfl rfl fun b2=>?_
 refine eb_ (B_ tabOk rfl) rfl rfl fun b4=>?_
 refine q_ 1 rfl<|g_<|b_<|d_<|a_<|q_ 1 rfl<|c_ (k_ (C := .sl 3 (l.os.map Oc.abs)) (i_ tabOk rfl rfl l1_ List.not_mem_nil rfl) rfl) rfl rfl<|q_ 1 rfl<|r_ (place_oc (xs := l.os) (k := k) (by omega)) Casts.refl (by kernel_rfl) rfl rfl rfl ?_
 refine ap_<|fun _=>q_ 5 rfl<|g_<|b_<|d_<|d_<|a_<|q_ 1 rfl<|c_ (ab_ rfl) rfl rfl<|g_<|b_<|S_ rfl ?_ ?_
 ·intro hc16
  have hnp : ¬ (placeG (eqO k) (gtO k) l.os).2 = true := by simpa using hc16
  have hfn := eQ_ hnp
  refine d_<|a_<|c_ (I_ tabOk rfl rfl rfl rfl) rfl rfl<|e_ (m_ (L' := Oc.abs Oc.zero) tabOk rfl rfl rfl u0_ rfl (Nat.le_of_ble_eq_true rfl) rfl (by exact s_ rfl)) rfl rfl ?_
  refine q_ 1 rfl<|g_<|b_<|l_<|h_ nofun<|f_ (rs := [.cell 4 40, .tmp 5]) rfl (RV.cell rfl (RV.cellA tabOk rfl rfl l0_ (by rfl)) (RV.tmp rfl RV.nil)) (()) sn_ ?_
  unfold Lg.last
  rw [hfn]
  rfl
 intro hc16
 obtain ⟨hlt, hfs⟩ := eR_ (show (placeG (eqO k) (gtO k) l.os).2 = true by simpa using hc16)
 refine o_<|b_<|d_<|a_<|q_ 1 rfl<|c_ (k_ (C := .sl 3 (l.os.map Oc.abs)) (i_ tabOk rfl rfl l1_ List.not_mem_nil rfl) rfl) rfl rfl<|q_ 1 rfl<|c_ (H_ (q := (placeG (eqO k) (gtO k) l.os).1) tabOk Tryz.underlying28 rfl rfl rfl rfl (aw_ hlt) rfl rfl) rfl rfl<|c_ (T_ tabOk rfl rfl rfl rfl) rfl rfl<|e_ (m_ (L' := Oc.abs (l.os[(placeG (eqO k) (gtO k) l.os).1]'hlt)) tabOk rfl rfl rfl u0_ rfl (Nat.le_of_ble_eq_true rfl) rfl (by exact s_ rfl)) rfl rfl ?_
 refine q_ 1 rfl<|g_<|b_<|l_<|f_ (rs := [.cell 4 40, .tmp 5]) rfl (RV.cell rfl (RV.cellA tabOk rfl rfl l0_ (by rfl)) (RV.tmp rfl RV.nil)) (()) sn_ ?_
 unfold Lg.last
 rw [hfs]
 rfl
theorem jO_ (hf : l.Few) : Spec Tryz.prog 99 [.agg l.abs, st s] [] (fun _ : Unit => []) (fun _ => .tup [.agg (ltrA ((l.find s).getD Ltr.none)), boo (l.find s).isSome]) := by
 have hf1 := hf.ls
 have hf2 := hf.os
 refine C_ Tryz.func99 rfl Tryz.ntmps99 rfl fun G w =>d_<|a_<|eb_ (L_ (cs := l.abs) rfl) rfl rfl fun b2=>?_
 refine eb_ (B_ tabOk rfl) rfl rfl fun b4=>?_
 refine q_ 1 rfl<|g_<|b_<|d_<|a_<|q_ 1 rfl<|c_ (k_ (C := .sl 6 (l.ls.map ltrA)) (i_ tabOk rfl rfl l1_ List.not_mem_nil rfl) rfl) rfl rfl<|q_ 1 rfl<|r_ (jw_ (xs := l.ls) (k := s) (by omega)) Casts.refl (by kernel_rfl) rfl rfl rfl ?_
 refine ap_<|fun _=>q_ 5 rfl<|g_<|b_<|d_<|d_<|a_<|q_ 1 rfl<|c_ (ab_ rfl) rfl rfl<|g_<|b_<|S_ rfl ?_ ?_
 ·intro hc16
  have hnp : ¬ (placeG (eqL s) (gtL s) l.ls).2 = true := by simpa using hc16
  have hfn := eQ_ hnp
  refine d_<|a_<|c_ (I_ tabOk rfl rfl rfl rfl) rfl rfl<|e_ (m_ (L' := ltrA Ltr.none) tabOk rfl rfl rfl u0_ rfl (Nat.le_of_ble_eq_true rfl) rfl (by exact s_ rfl)) rfl rfl ?_
  refine q_ 1 rfl<|g_<|b_<|l_<|h_ nofun<|f_ (rs := [.cell 4 81, .tmp 5]) rfl (RV.cell rfl (RV.cellA tabOk rfl rfl l0_ (by rfl)) (RV.tmp rfl RV.nil)) (()) sn_ ?_
  unfold Lg.find
  rw [hfn]
  rfl
 intro hc16
 obtain ⟨hlt, hfs⟩ := eR_ (show (placeG (eqL s) (gtL s) l.ls).2 = true by simpa using hc16)
 refine o_<|b_<|d_<|a_<|q_ 1 rfl<|c_ (k_ (C := .sl 6 (l.ls.map ltrA)) (i_ tabOk rfl rfl l1_ List.not_mem_nil rfl) rfl) rfl rfl<|q_ 1 rfl<|c_ (H_ (q := (placeG (eqL s) (gtL s) l.ls).1) tabOk Tryz.underlying27 rfl rfl rfl rfl (aw_ hlt) rfl rfl) rfl rfl<|c_ (T_ tabOk rfl rfl rfl rfl) rfl rfl<|e_ (m_ (L' := ltrA (l.ls[(placeG (eqL s) (gtL s) l.ls).1]'hlt)) tabOk rfl rfl rfl u0_ rfl (Nat.le_of_ble_eq_true rfl) rfl (by exact s_ rfl)) rfl rfl ?_
 refine q_ 1 rfl<|g_<|b_<|l_<|f_ (rs := [.cell 4 81, .tmp 5]) rfl (RV.cell rfl (RV.cellA tabOk rfl rfl l0_ (by rfl)) (RV.tmp rfl RV.nil)) (()) sn_ ?_
 unfold Lg.find
 rw [hfs]
 rfl
theorem ltold_s (hf : l.Few) : Spec Tryz.prog 71 [.agg l.abs, .agg o.abs] [] (fun _ : Unit => []) (fun _ => .agg (l.told o).abs) := by
 have hf1 := hf.ls
 have hf2 := hf.os
 refine C_ Tryz.func71 rfl Tryz.ntmps71 rfl fun G w =>d_<|a_<|eb_ (L_ (cs := l.abs) rfl) rfl rfl fun b2=>?_
 refine eb_ (L_ (cs := o.abs) rfl) rfl rfl fun b3=>?_
 refine eb_ (B_ tabOk rfl) rfl rfl fun b4=>?_
 refine g_<|b_<|d_<|a_<|c_ (k_ (C := .agg l.abs) (x_ tabOk rfl rfl rfl l2_ List.not_mem_nil (Nat.le_of_ble_eq_true rfl)) (congrArg Abs.agg rfl)) rfl rfl<|r_ (gp_ hf) Casts.refl (by kernel_rfl) rfl rfl rfl ?_
 refine ap_<|fun _=>eb_ (B_ tabOk rfl) rfl rfl fun b5=>?_
 refine e_ (m_ (L' := l.abs) tabOk rfl rfl rfl u0_ rfl (Nat.le_of_ble_eq_true rfl) rfl (by exact s_ rfl)) rfl rfl ?_
 refine g_<|b_<|d_<|a_<|q_ 1 rfl<|c_ (k_ (C := .sl 3 (l.os.map Oc.abs)) (i_ tabOk rfl rfl l3_ List.not_mem_nil rfl) rfl) rfl rfl<|c_ (P_ tabOk rfl rfl rfl l2_ List.not_mem_nil rfl) rfl rfl<|r_ (put_oc (xs := l.os) (x := o) (by omega)) Casts.refl (by kernel_rfl) rfl rfl rfl ?_
 refine ap_<|fun _=>q_ 1 rfl<|e_ (m_ (L' := (l.told o).abs) tabOk rfl rfl rfl u0_ rfl (Nat.le_of_ble_eq_true rfl) rfl rfl) rfl rfl<|g_<|b_<|d_<|a_<|c_ (P_ tabOk rfl rfl rfl l0_ List.not_mem_nil rfl) rfl rfl<|e_ (m_ (L' := (l.told o).abs) tabOk rfl rfl rfl u1_ rfl (Nat.le_of_ble_eq_true rfl) rfl (by exact s_ rfl)) rfl rfl ?_
 refine g_<|b_<|l_<|f_ (rs := [.cell 4 30]) rfl (RV.cell rfl (RV.cellA tabOk rfl rfl l1_ (by rfl)) RV.nil) (()) sn_ ?_
 exact rfl
theorem fu_ (hf : l.Few) : Spec Tryz.prog 103 [.agg l.abs, .agg (ltrA x)] [] (fun _ : Unit => []) (fun _ => .tup [.agg (l.with_ x).1.abs, int (l.with_ x).2]) := by
 have hf1 := hf.ls
 have hf2 := hf.os
 have hwl := bL_ (eq := eqL x.name) (gt := gtL x.name) (x := x) l.ls
 refine C_ Tryz.func103 rfl Tryz.ntmps103 rfl fun G w =>d_<|a_<|eb_ (L_ (cs := l.abs) rfl) rfl rfl fun b2=>?_
 refine eb_ (L_ (cs := ltrA x) rfl) rfl rfl fun b3=>?_
 refine eb_ (B_ tabOk rfl) rfl rfl fun b4=>?_
 refine q_ 1 rfl<|g_<|b_<|d_<|d_<|a_<|q_ 1 rfl<|c_ (k_ (C := st x.name) (i_ tabOk rfl rfl l1_ List.not_mem_nil rfl) rfl) rfl rfl<|r_ (h2_ (s := x.name)) Casts.refl (by kernel_rfl) rfl rfl rfl ?_
 refine ap_<|fun _=>c_ (ab_ rfl) rfl rfl<|g_<|b_<|S_ rfl ?_ ?_
 ·intro hc10
  have hnb : nameB x.name = false := by simpa using hc10
  refine d_<|a_<|c_ (I_ tabOk rfl rfl rfl rfl) rfl rfl<|e_ (m_ (L' := (zabs [.int .i64 0, .int .i64 0, .slice none 0 0, .slice none 0 0])) tabOk rfl rfl rfl u0_ rfl (Nat.le_of_ble_eq_true rfl) rfl (by exact s_ rfl)) rfl rfl ?_
  refine q_ 1 rfl<|g_<|b_<|l_<|h_ nofun<|fC_ (rs := [.cell 4 30, .tmp 5]) rfl (RV.cell rfl (RV.cellA tabOk rfl rfl l0_ (by rfl)) (RV.tmp rfl RV.nil)) (Casts.cons (ay_ (Casts.keep (Casts.keep (Casts.nils (s := 6) (Casts.nils (s := 3) Casts.refl))))) Casts.refl) (()) sn_ ?_
  unfold Lg.with_
  rw [if_pos hnb]
  rfl
 intro hc10
 have hnb : ¬ nameB x.name = false := by simpa using hc10
 refine o_<|b_<|d_<|a_<|c_ (k_ (C := .agg l.abs) (x_ tabOk rfl rfl rfl l2_ List.not_mem_nil (Nat.le_of_ble_eq_true rfl)) (congrArg Abs.agg rfl)) rfl rfl<|r_ (gp_ hf) Casts.refl (by kernel_rfl) rfl rfl rfl ?_
 refine ap_<|fun _=>eb_ (B_ tabOk rfl) rfl rfl fun b6=>?_
 refine e_ (m_ (L' := l.abs) tabOk rfl rfl rfl u0_ rfl (Nat.le_of_ble_eq_true rfl) rfl (by exact s_ rfl)) rfl rfl ?_
 refine g_<|b_<|d_<|d_<|a_<|q_ 1 rfl<|c_ (k_ (C := ltrsA l.ls) (i_ tabOk rfl rfl l3_ List.not_mem_nil rfl) rfl) rfl rfl<|c_ (P_ tabOk rfl rfl rfl l2_ List.not_mem_nil rfl) rfl rfl<|r_ (put_ltr (xs := l.ls) (x := x) (by omega)) Casts.refl (by kernel_rfl) rfl rfl rfl ?_
 refine ap_<|fun _=>q_ 1 rfl<|e_ (m_ (L' := (l.putL x).abs) tabOk rfl rfl rfl u0_ rfl (Nat.le_of_ble_eq_true rfl) rfl rfl) rfl rfl<|g_<|b_<|d_<|a_<|q_ 1 rfl<|c_ (k_ (C := ltrsA (l.putL x).ls) (i_ tabOk rfl rfl l0_ List.not_mem_nil rfl) rfl) rfl rfl<|c_ (E_ rfl Tryz.underlying27 (List.length_map _)) rfl rfl<|q_ 1 rfl<|g_<|b_<|p_ rfl ?_ ?_
 ·intro hc22
  refine d_<|a_<|c_ (I_ tabOk rfl rfl rfl rfl) rfl rfl<|e_ (m_ (L' := (zabs [.int .i64 0, .int .i64 0, .slice none 0 0, .slice none 0 0])) tabOk rfl rfl rfl u1_ rfl (Nat.le_of_ble_eq_true rfl) rfl (by exact s_ rfl)) rfl rfl ?_
  refine q_ 1 rfl<|g_<|b_<|l_<|h_ nofun<|fC_ (rs := [.cell 4 30, .tmp 5]) rfl (RV.cell rfl (RV.cellA tabOk rfl rfl l1_ (by rfl)) (RV.tmp rfl RV.nil)) (Casts.cons (ay_ (Casts.keep (Casts.keep (Casts.nils (s := 6) (Casts.nils (s := 3) Casts.refl))))) Casts.refl) (()) sn_ ?_
  unfold Lg.with_
  rw [if_neg hnb, if_pos (by omega)]
  rfl
 intro hc22
 refine o_<|b_<|d_<|a_<|c_ (k_ (C := .agg (l.putL x).abs) (x_ tabOk rfl rfl rfl l0_ List.not_mem_nil (Nat.le_of_ble_eq_true rfl)) (congrArg Abs.agg rfl)) rfl rfl<|e_ (m_ (L' := (l.putL x).abs) tabOk rfl rfl rfl u1_ rfl (Nat.le_of_ble_eq_true rfl) rfl (by exact s_ rfl)) rfl rfl ?_
 refine q_ 1 rfl<|g_<|b_<|l_<|f_ (rs := [.cell 4 30, .tmp 5]) rfl (RV.cell rfl (RV.cellA tabOk rfl rfl l1_ (by rfl)) (RV.tmp rfl RV.nil)) (()) sn_ ?_
 unfold Lg.with_
 rw [if_neg hnb, if_neg (by omega)]
 rfl
theorem lstale_s (hf : l.Few) : Spec Tryz.prog 40 [.agg l.abs, coreA c] [] (fun _ : Unit => []) (fun _ => boo (l.stale c)) := by
 refine C_ Tryz.func40 rfl Tryz.ntmps40 rfl fun G w =>d_<|a_<|eb_ (L_ (cs := l.abs) rfl) rfl rfl fun b2=>?_
 refine eb_ (L_ (cs := c.cells.map .v) rfl) rfl rfl fun b3=>?_
 refine q_ 1 rfl<|g_<|b_<|d_<|a_<|c_ (k_ (C := .agg l.abs) (x_ tabOk rfl rfl rfl l1_ List.not_mem_nil (Nat.le_of_ble_eq_true rfl)) (congrArg Abs.agg rfl)) rfl rfl<|q_ 1 rfl<|c_ (i_ tabOk rfl rfl l0_ List.not_mem_nil rfl) rfl rfl<|r_ (llast_s (k := c.client) hf) Casts.refl (by kernel_rfl) rfl rfl rfl ?_
 refine ap_<|fun _=>q_ 3 rfl<|eb_ (B_ tabOk rfl) rfl rfl fun b5=>?_
 refine e_ (m_ (L' := ((l.last c.client).getD Oc.zero).abs) tabOk rfl rfl rfl u0_ rfl (Nat.le_of_ble_eq_true rfl) rfl (by exact s_ rfl)) rfl rfl ?_
 refine q_ 1 rfl<|g_<|b_<|d_<|a_<|q_ 2 rfl<|aC_ (t := 15) rfl ?_ ?_
 ·intro hc15
  refine q_ 1 rfl<|c_ (i_ tabOk rfl rfl l1_ List.not_mem_nil rfl) rfl rfl<|q_ 1 rfl<|c_ (i_ tabOk rfl rfl l0_ List.not_mem_nil rfl) rfl rfl<|q_ 3 rfl<|g_<|b_<|l_<|f_ (rs := [.tmp 4]) rfl (RV.tmp rfl RV.nil) (()) sn_ ?_
  unfold Lg.stale
  cases hl : l.last c.client with
  | none => rw [hl] at hc15; cases hc15
  | some o9 => rw [hl] at hc15; rfl
 intro hc15
 refine q_ 7 rfl<|g_<|b_<|l_<|f_ (rs := [.tmp 4]) rfl (RV.tmp rfl RV.nil) (()) sn_ ?_
 unfold Lg.stale
 cases hl : l.last c.client with
 | none => rw [hl] at hc15; rfl
 | some o9 => rw [hl] at hc15; cases hc15
end
section
variable {l wd : Txt} {odd : Bool} {p : Nat} {es er : Value}
set_option maxHeartbeats 4000000 in
theorem tnum_s (he : isIf es) (hr : isIf er) (hl : l.length ≤ 100000) : Spec Tryz.prog 138 [ptr p] (.blk p 158 (psA (l) odd) :: globs es er) (fun _ : Unit => [.blk p 158 (psA (numL l) (numO l odd))]) (fun _ => int (numV l)) := by
 have hbl := aG_ l
 have hdl := fG_ (bare l)
 refine C_ Tryz.func138 rfl Tryz.ntmps138 rfl fun G w =>d_<|a_<|q_ 1 rfl<|g_<|b_<|d_<|a_<|q_ 1 rfl<|r_ (fL_ (p := p) (l := l) (odd := odd)) Casts.refl (by kernel_rfl) rfl rfl rfl ?_
 refine J_ rfl i0_ (fun _ => rfl)<|fun _=>⟨_, u0_, g_<|b_<|d_<|a_<|q_ 3 rfl<|c_ (i_ tabOk rfl rfl l0_ List.not_mem_nil rfl) rfl rfl<|c_ (k_ (C := int (((bare l).length : Nat) : Int)) (ag_ rfl Tryz.underlying9) rfl) rfl rfl<|q_ 1 rfl<|g_<|b_<|a8_ (ι := Unit) (fun z => (.blk p 158 (psA (bare l) odd) :: globs es er)) (fun z => [(0, ptr p), (3, int ((digs (bare l)).length : Nat))]) (fun z => True) ?_ ?_⟩
 ·skip
  refine d_<|a_<|q_ 3 rfl<|c_ (i_ tabOk rfl rfl l0_ List.not_mem_nil rfl) rfl rfl<|eb_ (gW_ rfl Tryz.underlying9) rfl rfl fun b20=>?_
  refine g_<|b_<|w_<|aa_ (ι := Nat) (fun z => .pc (iterPc b20 ⟨(bare l).toArray⟩ z) :: (.blk p 158 (psA (bare l) odd) :: globs es er)) (fun z => [(0, ptr p), (3, int ((bare l).length : Nat)), (20, ptr b20)]) (fun z => z ≤ (bare l).length ∧ ∀ j (hj : j < (bare l).length), j < z → isDig (bare l)[j] = true) (fun z => (bare l).length - z) (0) (⟨Nat.zero_le _, fun j _ h => absurd h (by omega)⟩) (by exact ⟨rfl, rfl, rfl, trivial⟩) sr_ ?_
  intro z hz
  refine d_<|a_<|iY_ rfl i0_ rfl rfl ?_ ?_
  rotate_left
  ·intro hnx
   refine q_ 1 rfl<|g_<|b_<|d_<|ah_ rfl<|X_<|h_ nofun<|h_ nofun<|W_ ?_
   have hdz := fH_ (t := bare l) fun j hj => hz.2 j hj (by have h9 : ¬ z < (bare l).length := hnx; omega)
   refine ad_ (()) (trivial) (by exact ⟨rfl, congrArg (fun k : Nat => some (int (k : Nat))) hdz.symm, trivial⟩) (sk_ sr_)
  intro hnx
  refine ⟨_, u0_, ?_⟩
  have hd := ev_ ⟨(bare l).toArray⟩ z hnx
  have hz1 : z < (bare l).length := hnx
  have hb8 := ((bare l)[z]'hz1).toNat_lt
  have e1 : ((bare l)[z]'hz1).toNat < 128 → Utf8.decode (ByteArray.mk (bare l).toArray) z = (((bare l)[z]'hz1).toNat, 1) := fun h => decode_ascii ⟨(bare l).toArray⟩ z hnx h
  refine q_ 1 rfl<|g_<|b_<|d_<|K_ rfl<|o_<|b_<|w_<|d_<|a_<|q_ 4 rfl<|g_<|b_<|d_<|a_<|q_ 3 rfl<|z_ (t := 27) rfl ?_ ?_
  ·intro hc27
   refine q_ 3 rfl<|g_<|b_<|K_ rfl<|d_<|a_<|q_ 2 rfl<|g_<|b_<|X_<|dj_ rfl<|h_ nofun<|W_ ?_
   have hdn : ¬ isDig ((bare l)[z]'hz1) = true := by
    intro hdd
    have h3 := of_decide_eq_true (show decide (48 ≤ ((bare l)[z]'hz1).toNat ∧ ((bare l)[z]'hz1).toNat ≤ 57) = true from hdd)
    have e2 := e1 (by omega)
    (rw [e2] at hc27; dsimp only at hc27; omega)
   have hdz := de_ hz1 hz.2 hdn
   refine ad_ (()) (trivial) (by exact ⟨rfl, congrArg (fun k : Nat => some (int (k : Nat))) hdz.symm, trivial⟩) (sk_ sr_)
  intro hc27
  refine q_ 3 rfl<|g_<|b_<|p_ rfl ?_ ?_
  rotate_left
  ·intro hc30
   refine o_<|u_ ?_
   have h128 : ((bare l)[z]'hz1).toNat < 128 := by
    rcases Nat.lt_or_ge ((bare l)[z]'hz1).toNat 128 with h | h
    ·exact h
    have h2 := hd (by show ¬ ((bare l)[z]'hz1).toNat < 128; omega)
    omega
   have e2 := e1 h128
   have hdd : isDig ((bare l)[z]'hz1) = true := decide_eq_true (by rw [e2] at hc27 hc30; dsimp only at hc27 hc30; omega)
   rw [e2]
   refine D_ (z + 1) (by omega) (⟨hz1, fun j hj h => by rcases Nat.lt_or_ge j z with h1 | h1; exact hz.2 j hj h1; obtain rfl : j = z := (by omega); exact hdd⟩) (by exact ⟨rfl, rfl, rfl, trivial⟩) sr_
  intro hc30
  refine d_<|a_<|q_ 2 rfl<|g_<|b_<|X_<|dj_ rfl<|h_ nofun<|W_ ?_
  have hdn : ¬ isDig ((bare l)[z]'hz1) = true := by
   intro hdd
   have h3 := of_decide_eq_true (show decide (48 ≤ ((bare l)[z]'hz1).toNat ∧ ((bare l)[z]'hz1).toNat ≤ 57) = true from hdd)
   have e2 := e1 (by omega)
   (rw [e2] at hc30; dsimp only at hc30; omega)
  have hdz := de_ hz1 hz.2 hdn
  refine ad_ (()) (trivial) (by exact ⟨rfl, congrArg (fun k : Nat => some (int (k : Nat))) hdz.symm, trivial⟩) (sk_ sr_)
 intro z hz
 refine d_<|a_<|q_ 3 rfl<|c_ (i_ tabOk rfl rfl l0_ List.not_mem_nil rfl) rfl rfl<|q_ 1 rfl<|c_ (k_ (C := stA (digs (bare l))) (b8_ (q := (digs (bare l)).length) Tryz.underlying9 rfl rfl rfl (by simp only [bd_]; omega)) ((st_hi _ _).trans (congrArg stA (dW_ _)))) rfl rfl ?_
 refine q_ 1 rfl<|g_<|b_<|d_<|a_<|q_ 1 rfl<|r_ (atoi_s (l := (digs (bare l))) he hr (by omega)) Casts.refl (by kernel_rfl) rfl rfl rfl ?_
 refine ap_<|fun z9=>q_ 5 rfl<|g_<|b_<|d_<|d_<|a_<|q_ 1 rfl<|c_ (Val.neIf (c := atoiBad (digs (bare l))) Tryz.underlying192 rfl (atoi_bad z9.2)) rfl rfl<|q_ 1 rfl<|aC_ (t := 45) rfl ?_ ?_
 ·intro hc45
  refine q_ 9 rfl<|g_<|b_<|K_ rfl<|d_<|a_<|q_ 3 rfl<|e_ (m_ (L' := psA (bare l) true) tabOk rfl rfl rfl u0_ rfl (Nat.le_of_ble_eq_true rfl) rfl rfl) rfl rfl<|g_<|b_<|d_<|a_<|q_ 1 rfl<|g_<|b_<|l_<|h_ nofun ?_
  have hnn : numT (bare l) = none := by
   exact numT_bad hc45
  obtain ⟨e1, e2, e3⟩ := c7_ hnn odd
  refine f_ (rs := [.tmp 2]) rfl (RV.tmp rfl RV.nil) (()) (by rw [e1, e2]; repeat (first | exact List.nil_sublist _ | exact List.Sublist.refl _ | apply List.Sublist.cons_cons | apply List.Sublist.cons)) ?_
  rw [e3]
  rfl
 intro hc45
 refine q_ 4 rfl<|z_ (t := 49) rfl ?_ ?_
 ·intro hc49
  refine q_ 5 rfl<|g_<|b_<|K_ rfl<|d_<|a_<|q_ 3 rfl<|e_ (m_ (L' := psA (bare l) true) tabOk rfl rfl rfl u0_ rfl (Nat.le_of_ble_eq_true rfl) rfl rfl) rfl rfl<|g_<|b_<|d_<|a_<|q_ 1 rfl<|g_<|b_<|l_<|h_ nofun ?_
  have hnn : numT (bare l) = none := by
   exact jI_ (by omega)
  obtain ⟨e1, e2, e3⟩ := c7_ hnn odd
  refine f_ (rs := [.tmp 2]) rfl (RV.tmp rfl RV.nil) (()) (by rw [e1, e2]; repeat (first | exact List.nil_sublist _ | exact List.Sublist.refl _ | apply List.Sublist.cons_cons | apply List.Sublist.cons)) ?_
  rw [e3]
  rfl
 intro hc49
 have hgv := good_val z9.2 hc45 (by omega)
 refine q_ 1 rfl<|r_ (itoa_s (es := es) (er := er) (v := z9.1.1) (by rw [hgv.2]; have h9 := ew_ (digs (bare l)) (cA_ _); have h10 : 10 ^ (digs (bare l)).length ≤ 10 ^ 4 := Nat.pow_le_pow_right (by omega) (by omega); simp only [InR, lo, hi]; omega)) Casts.refl (by kernel_rfl) rfl rfl rfl ?_
 refine ap_<|fun _=>q_ 1 rfl<|c_ (k_ (C := boo (decide (¬ Lib.itoa z9.1.1 = (digs (bare l))))) (eD_ rfl rfl) (congrArg (fun b => Abs.v (Value.bool b)) (decide_eq_decide.2 (not_congr is_)))) rfl rfl<|q_ 1 rfl<|g_<|b_<|p_ rfl ?_ ?_
 ·intro hc54
  refine d_<|a_<|q_ 3 rfl<|e_ (m_ (L' := psA (bare l) true) tabOk rfl rfl rfl u0_ rfl (Nat.le_of_ble_eq_true rfl) rfl rfl) rfl rfl<|g_<|b_<|d_<|a_<|q_ 1 rfl<|g_<|b_<|l_<|h_ nofun ?_
  have hnn : numT (bare l) = none := by
   exact iC_ hgv.1 (by rw [← hgv.2]; assumption)
  obtain ⟨e1, e2, e3⟩ := c7_ hnn odd
  refine f_ (rs := [.tmp 2]) rfl (RV.tmp rfl RV.nil) (()) (by rw [e1, e2]; repeat (first | exact List.nil_sublist _ | exact List.Sublist.refl _ | apply List.Sublist.cons_cons | apply List.Sublist.cons)) ?_
  rw [e3]
  rfl
 intro hc54
 refine o_<|b_<|d_<|a_<|q_ 4 rfl<|c_ (i_ tabOk rfl rfl l0_ List.not_mem_nil rfl) rfl rfl<|q_ 1 rfl<|c_ (k_ (C := stA ((bare l).drop (digs (bare l)).length)) (au_ (q := (digs (bare l)).length) Tryz.underlying9 rfl rfl rfl (by simp only [bd_]; omega)) (d0_ _ _)) rfl rfl ?_
 refine q_ 2 rfl<|e_ (m_ (L' := psA ((bare l).drop (digs (bare l)).length) odd) tabOk rfl rfl rfl u0_ rfl (Nat.le_of_ble_eq_true rfl) rfl rfl) rfl rfl<|g_<|b_<|d_<|a_<|q_ 2 rfl<|g_<|b_<|l_ ?_
 have hi9 : Lib.itoa z9.1.1 = digs (bare l) := Classical.byContradiction fun h => hc54 h
 obtain ⟨e1, e2, e3⟩ := fr_ (numT_own hgv.1 (by omega) (by rw [← hgv.2]; exact hi9)) odd
 refine f_ (rs := [.tmp 2]) rfl (RV.tmp rfl RV.nil) (()) (by rw [e1, e2]; repeat (first | exact List.nil_sublist _ | exact List.Sublist.refl _ | apply List.Sublist.cons_cons | apply List.Sublist.cons)) ?_
 rw [e3, ← hgv.2]
 rfl
end
def PolR (k : Nat) (l : Txt) (odd : Bool) (z : Txt × Bool × Frm) : Prop :=
  z.1.length ≤ l.length ∧ (odd = true → z.2.1 = true) ∧ (odd = false → polT k l = none → z.2.1 = true) ∧ (odd = false → ∀ x, polT k l = some x → z.2.1 = false ∧ bare z.1 = bare x.2 ∧ z.2.2 = x.1)
def RowF (k : Nat) (l : Txt) (odd : Bool) (z : Txt × Bool × List Frm) : Prop :=
  z.1.length ≤ l.length ∧ (odd = true → z.2.1 = true) ∧ (odd = false → rowT (polT k) l = none → z.2.1 = true) ∧ (odd = false → ∀ x, rowT (polT k) l = some x → z.2.1 = false ∧ z.1 = x.2 ∧ z.2.2 = x.1)
structure RowI (k : Nat) (l : Txt) (odd : Bool) (z : Txt × Bool × List Frm) : Prop where
  len : z.1.length ≤ l.length
  few : z.2.2.length + (if z.2.1 = true then 0 else z.1.length + 1) ≤ l.length + 2
  off : odd = true → z.2.1 = true
  no : odd = false → z.2.1 = true → rowT (polT k) l = none
  go : odd = false → z.2.1 = false → ∃ F, z.1.length + 1 ≤ F ∧ rowT (polT k) l = rowL (polT k) F z.1 z.2.2
theorem bS_ {l wd : Txt} (h : begins (bare l) wd = true) : takeT l wd = (bare l).drop wd.length := if_pos h
theorem bM_ {l wd : Txt} (h : ¬ begins (bare l) wd = true) : takeT l wd = bare l := if_neg h
theorem a2_ (l wd : Txt) : (takeT l wd).length ≤ l.length := by
  have := aG_ l
  unfold takeT
  split
  · rw [List.length_drop]; omega
  · exact this
section
variable {k : Nat} {l : Txt} {odd : Bool} {z : Txt × Bool × List Frm} {y : Txt × Bool × Frm}
theorem RowI.start (h : begins (bare l) [40] = true) : RowI k l odd (takeT l [40], odd, []) := by
  have hl := a2_ l [40]
  refine ⟨hl, (by dsimp only; split <;> simp <;> omega), fun h => h, fun h1 h2 => (by simp only at h2; rw [h1] at h2; cases h2), fun _ _ => ⟨l.length + 1, (by simp only; omega), ?_⟩⟩
  unfold rowT
  rw [if_pos h, bS_ h]
  rfl
theorem RowI.odd_ (h : ¬ begins (bare l) [40] = true) : RowI k l odd (takeT l [40], true, []) := by
  have hl := a2_ l [40]
  exact ⟨hl, (by simp), fun _ => rfl, fun _ _ => if_neg h, fun _ h2 => (by cases h2)⟩
theorem RowI.done (h : RowI k l odd z) (ho : z.2.1 = true) : RowF k l odd z :=
  ⟨h.len, h.off, fun _ _ => ho, fun h1 x hx => (by rw [h.no h1 ho] at hx; cases hx)⟩
theorem RowI.step (h : RowI k l odd z) (ho : z.2.1 = false) (hy : PolR k z.1 z.2.1 y) :
    (begins (bare y.1) [41] = true → RowF k l odd (takeT y.1 [41], y.2.1, z.2.2 ++ [y.2.2])) ∧
    (¬ begins (bare y.1) [41] = true → begins (bare (takeT y.1 [41])) [44] = true → RowI k l odd (takeT (takeT y.1 [41]) [44], y.2.1, z.2.2 ++ [y.2.2]) ∧ (y.2.1 = true ∨ (takeT (takeT y.1 [41]) [44]).length < z.1.length)) ∧
    (¬ begins (bare y.1) [41] = true → ¬ begins (bare (takeT y.1 [41])) [44] = true → RowI k l odd (takeT (takeT y.1 [41]) [44], true, z.2.2 ++ [y.2.2])) := by
  obtain ⟨h1, h2, h3, h4⟩ := hy
  have hodd : odd = false := by
    cases odd with
    | true => have := h.off rfl; rw [ho] at this; cases this
    | false => rfl
  subst hodd
  obtain ⟨F, hF, hR⟩ := h.go rfl ho
  have hlen := h.len
  have hfew := h.few
  rw [ho] at hfew
  simp only [Bool.false_eq_true, if_false] at hfew
  have hb := aG_ y.1
  have t1 := a2_ y.1 [41]
  have t2 := a2_ (takeT y.1 [41]) [44]
  have hF1 : ∃ m, F = m + 1 := ⟨F - 1, (by omega)⟩
  obtain ⟨m, rfl⟩ := hF1
  cases hp : polT k z.1 with
  | none =>
    have hno := h3 ho hp
    have hR2 : rowT (polT k) l = none := by rw [hR]; unfold rowL; rw [hp]
    refine ⟨fun _ => ⟨(by simp only; omega), fun h => (by cases h), fun _ _ => hno, fun _ x hx => (by rw [hR2] at hx; cases hx)⟩, fun _ _ => ⟨⟨(by simp only; omega), ?_, fun h => (by cases h), fun _ _ => hR2, fun _ h9 => (by simp only at h9; rw [hno] at h9; cases h9)⟩, .inl hno⟩,
      fun _ _ => ⟨(by simp only; omega), ?_, fun h => (by cases h), fun _ _ => hR2, fun _ h9 => (by cases h9)⟩⟩
    · simp only [hno, if_true, List.length_append, List.length_singleton]; omega
    · simp only [if_true, List.length_append, List.length_singleton]; omega
  | some x =>
    obtain ⟨f, r⟩ := x
    obtain ⟨q1, q2, q3⟩ := h4 ho (f, r) hp
    have hs := bU_ k z.1 f r hp
    have hbr := aG_ r
    dsimp only at q2 q3
    have hR2 : rowL (polT k) (m + 1) z.1 z.2.2 = if begins (bare r) [41] = true then some (z.2.2 ++ [f], (bare r).drop 1) else if begins (bare r) [44] = true then rowL (polT k) m ((bare r).drop 1) (z.2.2 ++ [f]) else none := by
      conv => lhs; unfold rowL
      rw [hp]
    rw [hR2] at hR
    rw [q3, q1]
    rw [q2]
    refine ⟨fun hb1 => ?_, fun hb1 hb2 => ?_, fun hb1 hb2 => ?_⟩
    · have e : takeT y.1 [41] = (bare r).drop 1 := by rw [bS_ (by rw [q2]; exact hb1), q2]; rfl
      refine ⟨(by simp only; omega), fun h => (by cases h), fun _ hn => ?_, fun _ x hx => ?_⟩
      · rw [hR, if_pos hb1] at hn; cases hn
      · rw [hR, if_pos hb1] at hx
        cases hx
        exact ⟨rfl, e, rfl⟩
    · have e1 : takeT y.1 [41] = bare r := by rw [bM_ (by rw [q2]; exact hb1), q2]
      rw [e1, a0_] at hb2
      have hbl := aT_ hb2
      have e2 : takeT (takeT y.1 [41]) [44] = (bare r).drop 1 := by rw [e1, bS_ (by rw [a0_]; exact hb2), a0_]; rfl
      have hl2 : ((bare r).drop 1).length < z.1.length := by rw [List.length_drop]; omega
      refine ⟨⟨(by simp only; omega), ?_, fun h => (by cases h), fun _ h9 => (by cases h9), fun _ _ => ⟨m, ?_, ?_⟩⟩, .inr (by rw [e2]; exact hl2)⟩
      · simp only [Bool.false_eq_true, if_false, List.length_append, List.length_singleton, e2]; omega
      · simp only [e2]; omega
      · rw [hR, if_neg hb1, if_pos hb2, e2]
    · have e1 : takeT y.1 [41] = bare r := by rw [bM_ (by rw [q2]; exact hb1), q2]
      rw [e1, a0_] at hb2
      refine ⟨(by simp only; omega), ?_, fun h => (by cases h), fun _ _ => (by rw [hR, if_neg hb1, if_neg hb2]), fun _ h9 => (by cases h9)⟩
      simp only [if_true, List.length_append, List.length_singleton]; omega
end
/-! ### Policies -/
section
variable {k : Nat} {l : Txt} {odd : Bool} {y : Txt × Bool × Frm} {z : Txt × Bool × List Frm}
theorem PolR.deep : PolR 0 l odd (l, true, .mk 0 0 []) := ⟨Nat.le_refl _, fun _ => rfl, fun _ _ => rfl, fun _ x hx => (by cases hx)⟩
theorem PolR.was (h : odd = true) (f : Frm) : PolR k l odd (l, odd, f) := ⟨Nat.le_refl _, fun h => h, fun h2 => (by rw [h] at h2; cases h2), fun h2 => (by rw [h] at h2; cases h2)⟩
theorem PolR.all (h0 : odd = false) (hb : begins (bare l) [97, 108, 108] = true) (hz : RowF k (takeT l [97, 108, 108]) odd z) : PolR (k + 1) l odd (z.1, z.2.1, .mk 0 z.2.2.length z.2.2) := by
  obtain ⟨h1, h2, h3, h4⟩ := hz
  have ht := a2_ l [97, 108, 108]
  have e : polT (k + 1) l = (rowT (polT k) (takeT l [97, 108, 108])).map fun x => (.mk 0 x.1.length x.1, x.2) := by
    conv => lhs; unfold polT
    rw [if_pos hb, bS_ hb]
    rfl
  refine ⟨(by simp only; omega), fun h => (by rw [h0] at h; cases h), fun _ hn => ?_, fun _ x hx => ?_⟩
  · cases hr : rowT (polT k) (takeT l [97, 108, 108]) with
    | none => exact h3 h0 hr
    | some x => rw [e, hr] at hn; cases hn
  · cases hr : rowT (polT k) (takeT l [97, 108, 108]) with
    | none => rw [e, hr] at hx; cases hx
    | some q =>
      rw [e, hr] at hx
      cases hx
      obtain ⟨r1, r2, r3⟩ := h4 h0 q hr
      exact ⟨r1, (by simp only [r2]), (by simp only [r3])⟩
theorem PolR.any (h0 : odd = false) (ha : ¬ begins (bare l) [97, 108, 108] = true) (hb : begins (bare l) [97, 110, 121] = true) (hz : RowF k (takeT (takeT l [97, 108, 108]) [97, 110, 121]) odd z) : PolR (k + 1) l odd (z.1, z.2.1, .mk 0 1 z.2.2) := by
  obtain ⟨h1, h2, h3, h4⟩ := hz
  have ht := a2_ (takeT l [97, 108, 108]) [97, 110, 121]
  have ht2 := a2_ l [97, 108, 108]
  have e0 : takeT l [97, 108, 108] = bare l := bM_ ha
  have e1 : takeT (takeT l [97, 108, 108]) [97, 110, 121] = (bare l).drop 3 := by
    rw [e0, bS_ (by rw [a0_]; exact hb), a0_]
    rfl
  have e : polT (k + 1) l = (rowT (polT k) (takeT (takeT l [97, 108, 108]) [97, 110, 121])).map fun x => (.mk 0 1 x.1, x.2) := by
    conv => lhs; unfold polT
    rw [if_neg ha, if_pos hb, e1]
  refine ⟨(by simp only; omega), fun h => (by rw [h0] at h; cases h), fun _ hn => ?_, fun _ x hx => ?_⟩
  · cases hr : rowT (polT k) (takeT (takeT l [97, 108, 108]) [97, 110, 121]) with
    | none => exact h3 h0 hr
    | some x => rw [e, hr] at hn; cases hn
  · cases hr : rowT (polT k) (takeT (takeT l [97, 108, 108]) [97, 110, 121]) with
    | none => rw [e, hr] at hx; cases hx
    | some q =>
      rw [e, hr] at hx
      cases hx
      obtain ⟨r1, r2, r3⟩ := h4 h0 q hr
      exact ⟨r1, (by simp only [r2]), (by simp only [r3])⟩
theorem two_no (ha : ¬ begins (bare l) [97, 108, 108] = true) (hb : ¬ begins (bare (takeT l [97, 108, 108])) [97, 110, 121] = true) : takeT (takeT l [97, 108, 108]) [97, 110, 121] = bare l := by
  rw [bM_ hb, bM_ ha, a0_]
theorem ef_ (l : Txt) (odd : Bool) : numL (bare l) = numL l ∧ numO (bare l) odd = numO l odd ∧ numV (bare l) = numV l := by
  unfold numL numO numV
  rw [a0_]
  exact ⟨rfl, rfl, rfl⟩
theorem fs_ (l : Txt) : (numL l).length ≤ l.length := by
  have hb := aG_ l
  unfold numL
  cases h : numT (bare l) with
  | none => exact hb
  | some x =>
    have := cw_ (v := x.1) (r := x.2) h
    show x.2.length ≤ _
    omega
theorem ec_ (ha : ¬ begins (bare l) [97, 108, 108] = true) (hb : ¬ begins (bare l) [97, 110, 121] = true) : polT (k + 1) l = match numT (bare l) with
    | none => none
    | some (v, r) => if begins (bare r) [111, 102] = true then (if 1 ≤ v ∧ v ≤ 99 then (rowT (polT k) ((bare r).drop 2)).map fun x => (.mk 0 v x.1, x.2) else none) else some (.mk v 0 [], r) := by
  conv => lhs; unfold polT
  rw [if_neg ha, if_neg hb]
  cases numT (bare l) with
  | none => rfl
  | some x => obtain ⟨v, r⟩ := x; rfl
theorem PolR.org (h0 : odd = false) (ha : ¬ begins (bare l) [97, 108, 108] = true) (hb : ¬ begins (bare l) [97, 110, 121] = true) (hn : ¬ (numO l odd = false ∧ begins (bare (numL l)) [111, 102] = true)) (t : Txt) (ht : t = numL l ∨ t = bare (numL l)) :
    PolR (k + 1) l odd (t, numO l odd, .mk (numV l) 0 []) := by
  have e := ec_ (k := k) ha hb
  have hl := fs_ l
  have hbl := aG_ (numL l)
  have htl : t.length ≤ l.length := by rcases ht with rfl | rfl <;> omega
  have htb : bare t = bare (numL l) := by
    rcases ht with rfl | rfl
    · rfl
    · rw [a0_]
  cases hq : numT (bare l) with
  | none =>
    rw [hq] at e
    obtain ⟨q1, q2, q3⟩ := c7_ hq odd
    exact ⟨htl, fun h => (by rw [h0] at h; cases h), fun _ _ => q2, fun _ x hx => (by rw [e] at hx; cases hx)⟩
  | some x =>
    obtain ⟨v, r⟩ := x
    rw [hq] at e
    obtain ⟨q1, q2, q3⟩ := fr_ hq odd
    rw [q1, q2] at hn
    have hof : ¬ begins (bare r) [111, 102] = true := fun h => hn ⟨h0, h⟩
    dsimp only at e
    rw [if_neg hof] at e
    refine ⟨htl, fun h => (by rw [h0] at h; cases h), fun _ h => (by rw [e] at h; cases h), fun _ x hx => ?_⟩
    rw [e] at hx
    cases hx
    exact ⟨q2.trans h0, (by rw [htb, q1]), (by rw [q3])⟩
theorem PolR.of (h0 : odd = false) (ha : ¬ begins (bare l) [97, 108, 108] = true) (hb : ¬ begins (bare l) [97, 110, 121] = true) (hq : numO l odd = false) (hof : begins (bare (numL l)) [111, 102] = true) {o2 : Bool} (ho : o2 = (numO l odd || decide (numV l < 1 ∨ 99 < numV l)))
    (hz : RowF k (takeT (numL l) [111, 102]) o2 z) : PolR (k + 1) l odd (z.1, z.2.1, .mk 0 (numV l) z.2.2) := by
  have e := ec_ (k := k) ha hb
  have hl := fs_ l
  have ht := a2_ (numL l) [111, 102]
  obtain ⟨h1, h2, h3, h4⟩ := hz
  cases hn : numT (bare l) with
  | none =>
    have := (c7_ hn odd).2.1
    rw [hq] at this
    cases this
  | some x =>
    obtain ⟨v, r⟩ := x
    rw [hn] at e
    obtain ⟨q1, q2, q3⟩ := fr_ hn odd
    rw [q1] at hof hl ht h1 h3 h4
    rw [hq, q3, Bool.false_or] at ho
    dsimp only at e
    rw [if_pos hof] at e
    have e2 : takeT r [111, 102] = (bare r).drop 2 := bS_ hof
    rw [e2] at h3 h4
    by_cases hv : 1 ≤ v ∧ v ≤ 99
    · rw [if_pos hv] at e
      have ho2 : o2 = false := by rw [ho]; exact decide_eq_false (by omega)
      refine ⟨(by simp only; omega), fun h => (by rw [h0] at h; cases h), fun _ hn2 => ?_, fun _ x hx => ?_⟩
      · cases hr : rowT (polT k) ((bare r).drop 2) with
        | none => exact h3 ho2 hr
        | some x => rw [e, hr] at hn2; cases hn2
      · cases hr : rowT (polT k) ((bare r).drop 2) with
        | none => rw [e, hr] at hx; cases hx
        | some q =>
          rw [e, hr] at hx
          cases hx
          obtain ⟨r1, r2, r3⟩ := h4 ho2 q hr
          exact ⟨r1, (by simp only [r2]), (by simp only [r3, q3])⟩
    · rw [if_neg hv] at e
      have ho2 : o2 = true := by rw [ho]; exact decide_eq_true (by omega)
      exact ⟨(by simp only; omega), fun h => (by rw [h0] at h; cases h), fun _ _ => h2 ho2, fun _ x hx => (by rw [e] at hx; cases hx)⟩
end
section
variable {l wd : Txt} {odd : Bool} {p : Nat} {es er : Value} {k : Nat} {d : Int}
theorem hO_ {o o2 : Bool} {a b : Nat} (ho : o = false) (h : o2 = true ∨ a < b) : (if o2 = true then 0 else a + 1) < if o = true then 0 else b + 1 := by
  subst ho
  rcases h with rfl | h
  · simp
  · simp only [Bool.false_eq_true, if_false]
    split <;> omega
theorem pol0_s (hl : l.length ≤ 1000) : Spec Tryz.prog 118 [ptr p, int 11] (.blk p 158 (psA (l) odd) :: globs es er) (fun z : {z : Txt × Bool × Frm // PolR 0 l odd z} => [.blk p 158 (psA z.1.1 z.1.2.1)]) (fun z => .agg z.1.2.2.abs) := by
 refine C_ Tryz.func118 rfl Tryz.ntmps118 rfl fun G w =>d_<|a_<|eb_ (B_ tabOk rfl) rfl rfl fun b4=>?_
 refine g_<|b_<|d_<|d_<|a_<|q_ 2 rfl<|g_<|b_<|p_ rfl ?_ (by intro hc8; exfalso; omega)
 intro hc8
 refine a_<|q_ 3 rfl<|e_ (m_ (L' := psA l true) tabOk rfl rfl rfl u1_ rfl (Nat.le_of_ble_eq_true rfl) rfl rfl) rfl rfl<|g_<|b_<|d_<|d_<|a_<|q_ 3 rfl<|c_ (i_ tabOk rfl rfl l1_ List.not_mem_nil rfl) rfl rfl<|g_<|b_<|S_ rfl ?_ (by intro hc15; exfalso; cases hc15)
 intro hc15
 refine d_<|a_<|c_ (I_ tabOk rfl rfl rfl rfl) rfl rfl<|e_ (m_ tabOk rfl rfl rfl u0_ rfl (Nat.le_of_ble_eq_true rfl) rfl rfl) rfl rfl<|g_<|b_<|l_<|h_ nofun<|fC_ (rs := [.cell 4 130]) rfl (RV.cell rfl (RV.cellA tabOk rfl rfl l0_ (by rfl)) RV.nil) (Casts.cons (ay_ (Casts.keep (Casts.keep (Casts.nils (s := 3) Casts.refl)))) Casts.refl) (⟨(l, true, .mk 0 0 []), PolR.deep⟩) (sk_ (sc_ sn_)) ?_
 rfl
set_option maxHeartbeats 1000000 in
theorem jc_ (he : isIf es) (hr : isIf er) (hd : 0 ≤ d ∧ d ≤ 100) (hp : ∀ (l : Txt) (odd : Bool), l.length ≤ 1000 → Spec Tryz.prog 118 [ptr p, int (d + 1)] (.blk p 158 (psA (l) odd) :: globs es er) (fun z : {z : Txt × Bool × Frm // PolR k l odd z} => [.blk p 158 (psA z.1.1 z.1.2.1)]) (fun z => .agg z.1.2.2.abs)) (hl : l.length ≤ 1000) : Spec Tryz.prog 137 [ptr p, int d] (.blk p 158 (psA (l) odd) :: globs es er) (fun z : {z : Txt × Bool × List Frm // RowF k l odd z} => [.blk p 158 (psA z.1.1 z.1.2.1)]) (fun z => .sl 3 (z.1.2.2.map Frm.abs)) := by
 refine C_ Tryz.func137 rfl Tryz.ntmps137 rfl fun G w =>d_<|a_<|q_ 1 rfl<|g_<|b_<|a8_ (ι := Txt × Bool) (fun z => (.blk p 158 (psA (z.1) z.2) :: globs es er)) (fun z => [(0, ptr p), (1, int d)]) (fun z => RowI k l odd (z.1, z.2, [])) ?_ ?_
 ·skip
  refine d_<|a_<|q_ 1 rfl<|r_ (eJ_ (p := p) (l := l) (odd := odd) (wd := [40])) Casts.refl (by kernel_rfl) rfl rfl rfl ?_
  refine J_ rfl i0_ (fun _ => rfl)<|fun _=>⟨_, u0_, c_ (ab_ rfl) rfl rfl<|g_<|b_<|S_ rfl ?_ ?_⟩
  rotate_left
  ·intro hc8
   refine o_<|ad_ (takeT l [40], odd) (RowI.start (by simpa using hc8)) (by exact ⟨rfl, rfl, trivial⟩) sr_
  intro hc8
  refine a_<|q_ 3 rfl<|e_ (m_ (L' := psA (takeT l [40]) true) tabOk rfl rfl rfl u0_ rfl (Nat.le_of_ble_eq_true rfl) rfl rfl) rfl rfl<|g_<|ad_ (takeT l [40], true) (RowI.odd_ (by simpa using hc8)) (by exact ⟨rfl, rfl, trivial⟩) sr_
 intro z hz
 refine d_<|a_<|q_ 1 rfl<|g_<|b_<|d_<|w_<|bq_ 130 3<|aa_ (ι := Txt × Bool × List Frm × Value) (fun z => own 130 3 z.2.2.2 (z.2.2.1.map Frm.abs) :: (.blk p 158 (psA (z.1) z.2.1) :: globs es er)) (fun z => [(0, ptr p), (1, int d), (5, .v z.2.2.2)]) (fun z => RowI k l odd (z.1, z.2.1, z.2.2.1)) (fun z => if z.2.1 = true then 0 else z.1.length + 1) (z.1, z.2, [], .slice none 0 0) (hz) (by exact ⟨rfl, rfl, rfl, trivial⟩) sr_ ?_
 intro z hz
 refine d_<|d_<|a_<|q_ 3 rfl<|c_ (i_ tabOk rfl rfl l1_ List.not_mem_nil rfl) rfl rfl<|c_ (ab_ rfl) rfl rfl<|g_<|b_<|S_ rfl ?_ ?_
 rotate_left
 ·intro hc16
  have hod : z.2.1 = true := by simpa using hc16
  exact X_<|h_ nofun<|h_ nofun<|W_<|b_<|d_<|a_<|q_ 2 rfl<|g_<|b_<|l_<|bb_ [] (t := 4) rfl rfl<|f_ (rs := [.tmp 4]) rfl (RV.tmp rfl RV.nil) (⟨(z.1, z.2.1, z.2.2.1), hz.done hod⟩) (sc_ sn_)<|rfl
 intro hc16
 have hod : z.2.1 = false := by simpa using hc16
 have hzl : z.1.length ≤ l.length := hz.len
 have hzf : z.2.2.1.length ≤ l.length + 2 := Nat.le_trans (Nat.le_add_right _ _) hz.few
 refine o_<|b_<|w_<|d_<|a_<|q_ 3 rfl<|c_ (y_ rfl rfl (by simp only [InR, lo, hi]; omega)) rfl rfl ?_
 refine r_ (hp z.1 z.2.1 (by omega)) Casts.refl (by kernel_rfl) rfl rfl rfl ?_
 refine aO_ (ys := globs es er) rfl i1_ (by intro y hy; simp only [globs, List.mem_cons, List.not_mem_nil, or_false] at hy; rcases hy with rfl | rfl | rfl <;> exact ⟨by repeat first|assumption|exact m0_|apply m1_, by intro h; cases h⟩) rfl (fun _ => rfl) ?_
 intro y
 refine ⟨_, u1_, e_ (Z_ tabOk Tryz.underlying128 rfl rfl rfl (gB_ (Frm.abs_len _)) rfl rfl rfl) rfl rfl<|eb_ (V_ (zs := (z.2.2.1 ++ [y.1.2.2]).map Frm.abs) tabOk [] (by rw [List.map_append]; rfl) Tryz.underlying128 rfl rfl rfl rfl rfl rfl (by intro c hc; rw [List.mem_singleton] at hc; subst hc; exact Frm.abs_ones _) (by unfold maxLen; simp only [List.length_map, List.length_cons, List.length_nil]; omega) (by rw [show Tryz.prog.bytesOf 130 = 40 by kernel_rfl]; simp only [List.length_map, List.length_cons, List.length_nil]; omega)) rfl rfl fun r23=>?_⟩
 refine q_ 1 rfl<|g_<|b_<|d_<|d_<|a_<|q_ 1 rfl<|r_ (eJ_ (p := p) (l := y.1.1) (odd := y.1.2.1) (wd := [41])) Casts.refl (by kernel_rfl) rfl rfl rfl ?_
 refine J_ rfl i1_ (fun _ => rfl)<|fun _=>⟨_, u1_, g_<|b_<|S_ rfl ?_ ?_⟩
 ·intro hc25
  exact X_<|h_ nofun<|dj_ rfl<|h_ nofun<|W_<|b_<|d_<|a_<|q_ 2 rfl<|g_<|b_<|l_<|bb_ [] (t := 4) rfl rfl<|f_ (rs := [.tmp 4]) rfl (RV.tmp rfl RV.nil) (⟨(takeT y.1.1 [41], y.1.2.1, z.2.2.1 ++ [y.1.2.2]), (hz.step hod y.2).1 hc25⟩) (sc_ sn_)<|rfl
 intro hc25
 refine o_<|b_<|d_<|a_<|q_ 1 rfl<|r_ (eJ_ (p := p) (l := takeT y.1.1 [41]) (odd := y.1.2.1) (wd := [44])) Casts.refl (by kernel_rfl) rfl rfl rfl ?_
 refine J_ rfl i1_ (fun _ => rfl)<|fun _=>⟨_, u1_, c_ (ab_ rfl) rfl rfl<|g_<|b_<|S_ rfl ?_ ?_⟩
 rotate_left
 ·intro hc28
  refine o_<|u_ ?_
  have hst := (hz.step hod y.2).2.1 (by rw [hc25]; decide) (by simpa using hc28)
  refine D_ (takeT (takeT y.1.1 [41]) [44], y.1.2.1, z.2.2.1 ++ [y.1.2.2], r23) (hO_ hod hst.2) (hst.1) (by exact ⟨rfl, rfl, rfl, trivial⟩) sr_
 intro hc28
 refine a_<|q_ 3 rfl<|e_ (m_ (L' := psA (takeT (takeT y.1.1 [41]) [44]) true) tabOk rfl rfl rfl u1_ rfl (Nat.le_of_ble_eq_true rfl) rfl rfl) rfl rfl<|g_<|u_<|D_ (takeT (takeT y.1.1 [41]) [44], true, z.2.2.1 ++ [y.1.2.2], r23) (by simp [hod]) ((hz.step hod y.2).2.2 (by rw [hc25]; decide) (by simpa using hc28)) (by exact ⟨rfl, rfl, rfl, trivial⟩) sr_
set_option maxHeartbeats 2000000 in
theorem pol_step (he : isIf es) (hr : isIf er) (hd : 1 ≤ d ∧ d ≤ 10) (hp : ∀ (l : Txt) (odd : Bool), l.length ≤ 1000 → Spec Tryz.prog 118 [ptr p, int (d + 1)] (.blk p 158 (psA (l) odd) :: globs es er) (fun z : {z : Txt × Bool × Frm // PolR k l odd z} => [.blk p 158 (psA z.1.1 z.1.2.1)]) (fun z => .agg z.1.2.2.abs)) (hl : l.length ≤ 1000) : Spec Tryz.prog 118 [ptr p, int d] (.blk p 158 (psA (l) odd) :: globs es er) (fun z : {z : Txt × Bool × Frm // PolR (k + 1) l odd z} => [.blk p 158 (psA z.1.1 z.1.2.1)]) (fun z => .agg z.1.2.2.abs) := by
 have hbl := aG_ l
 have hl1 := a2_ l [97, 108, 108]
 have hl2 := a2_ (takeT l [97, 108, 108]) [97, 110, 121]
 have hl3 := fs_ l
 have hl4 := a2_ (numL l) [111, 102]
 refine C_ Tryz.func118 rfl Tryz.ntmps118 rfl fun G w =>d_<|a_<|eb_ (B_ tabOk rfl) rfl rfl fun b4=>?_
 refine g_<|b_<|d_<|d_<|a_<|q_ 2 rfl<|g_<|b_<|p_ rfl (by intro hc8; exfalso; omega) ?_
 intro hc8
 refine o_<|b_<|d_<|d_<|a_<|q_ 3 rfl<|c_ (i_ tabOk rfl rfl l1_ List.not_mem_nil rfl) rfl rfl<|g_<|b_<|S_ rfl ?_ ?_
 ·intro hc15
  refine d_<|a_<|c_ (I_ tabOk rfl rfl rfl rfl) rfl rfl<|e_ (m_ tabOk rfl rfl rfl u0_ rfl (Nat.le_of_ble_eq_true rfl) rfl rfl) rfl rfl<|g_<|b_<|l_<|h_ nofun<|fC_ (rs := [.cell 4 130]) rfl (RV.cell rfl (RV.cellA tabOk rfl rfl l0_ (by rfl)) RV.nil) (Casts.cons (ay_ (Casts.keep (Casts.keep (Casts.nils (s := 3) Casts.refl)))) Casts.refl) (⟨(l, odd, .mk 0 0 []), PolR.was hc15 _⟩) (sk_ (sc_ sn_)) ?_
  rfl
 intro hc15
 refine o_<|b_<|d_<|w_<|d_<|a_<|q_ 1 rfl<|r_ (eJ_ (p := p) (l := l) (odd := odd) (wd := [97, 108, 108])) Casts.refl (by kernel_rfl) rfl rfl rfl ?_
 refine J_ rfl i1_ (fun _ => rfl)<|fun _=>⟨_, u1_, q_ 1 rfl<|g_<|b_<|S_ rfl ?_ ?_⟩
 ·intro hc17
  refine d_<|a_<|q_ 2 rfl<|r_ (jc_ (p := p) (l := takeT l [97, 108, 108]) (odd := odd) he hr (by omega) hp (by omega)) Casts.refl (by kernel_rfl) rfl rfl rfl ?_
  refine aO_ (ys := globs es er) rfl i1_ (by intro y hy; simp only [globs, List.mem_cons, List.not_mem_nil, or_false] at hy; rcases hy with rfl | rfl | rfl <;> exact ⟨by repeat first|assumption|exact m0_|apply m1_, by intro h; cases h⟩) rfl (fun _ => rfl) ?_
  intro y
  refine ⟨_, u1_, q_ 1 rfl<|g_<|b_<|d_<|a_<|q_ 1 rfl<|c_ (E_ rfl Tryz.underlying128 (List.length_map _)) rfl rfl<|q_ 1 rfl<|c_ (I_ tabOk rfl rfl rfl rfl) rfl rfl<|e_ (m_ tabOk rfl rfl rfl u0_ rfl (Nat.le_of_ble_eq_true rfl) rfl rfl) rfl rfl<|g_<|b_<|l_<|A_<|h_ nofun<|f_ (rs := [.cell 4 130]) rfl (RV.cell rfl (RV.cellA tabOk rfl rfl l0_ (by rfl)) RV.nil) (⟨(y.1.1, y.1.2.1, .mk 0 y.1.2.2.length y.1.2.2), PolR.all hc15 hc17 y.2⟩) (sk_ (sc_ sn_)) ?_⟩
  exact congrArg Abs.agg (Frm.abs_mk _ _ _).symm
 intro hc17
 have ha : ¬ begins (bare l) [97, 108, 108] = true := by rw [hc17]; decide
 refine d_<|a_<|q_ 1 rfl<|r_ (eJ_ (p := p) (l := takeT l [97, 108, 108]) (odd := odd) (wd := [97, 110, 121])) Casts.refl (by kernel_rfl) rfl rfl rfl ?_
 refine J_ rfl i1_ (fun _ => rfl)<|fun _=>⟨_, u1_, q_ 1 rfl<|g_<|b_<|S_ rfl ?_ ?_⟩
 ·intro hc27
  have hb : begins (bare l) [97, 110, 121] = true := by
   have h9 := hc27
   rw [bM_ ha, a0_] at h9
   exact h9
  refine d_<|a_<|q_ 2 rfl<|r_ (jc_ (p := p) (l := takeT (takeT l [97, 108, 108]) [97, 110, 121]) (odd := odd) he hr (by omega) hp (by omega)) Casts.refl (by kernel_rfl) rfl rfl rfl ?_
  refine aO_ (ys := globs es er) rfl i1_ (by intro y hy; simp only [globs, List.mem_cons, List.not_mem_nil, or_false] at hy; rcases hy with rfl | rfl | rfl <;> exact ⟨by repeat first|assumption|exact m0_|apply m1_, by intro h; cases h⟩) rfl (fun _ => rfl) ?_
  intro y
  refine ⟨_, u1_, c_ (I_ tabOk rfl rfl rfl rfl) rfl rfl<|e_ (m_ tabOk rfl rfl rfl u0_ rfl (Nat.le_of_ble_eq_true rfl) rfl rfl) rfl rfl<|g_<|b_<|l_<|A_<|h_ nofun<|f_ (rs := [.cell 4 130]) rfl (RV.cell rfl (RV.cellA tabOk rfl rfl l0_ (by rfl)) RV.nil) (⟨(y.1.1, y.1.2.1, .mk 0 1 y.1.2.2), PolR.any hc15 ha hb y.2⟩) (sk_ (sc_ sn_)) ?_⟩
  exact congrArg Abs.agg (Frm.abs_mk _ _ _).symm
 intro hc27
 have hb2 : ¬ begins (bare (takeT l [97, 108, 108])) [97, 110, 121] = true := by rw [hc27]; decide
 have hb : ¬ begins (bare l) [97, 110, 121] = true := by
  have h9 := hb2
  rw [bM_ ha, a0_] at h9
  exact h9
 rw [two_no ha hb2]
 refine o_<|u_<|b_<|d_<|a_<|q_ 1 rfl<|r_ (tnum_s (p := p) (l := bare l) (odd := odd) he hr (by omega)) Casts.refl (by kernel_rfl) rfl rfl rfl ?_
 refine aO_ (ys := globs es er) rfl i1_ (by intro y hy; simp only [globs, List.mem_cons, List.not_mem_nil, or_false] at hy; rcases hy with rfl | rfl | rfl <;> exact ⟨by repeat first|assumption|exact m0_|apply m1_, by intro h; cases h⟩) rfl (fun _ => rfl) ?_
 intro _
 refine ⟨_, u1_, ?_⟩
 rw [(ef_ l odd).1, (ef_ l odd).2.1, (ef_ l odd).2.2]
 refine q_ 1 rfl<|g_<|b_<|d_<|d_<|a_<|q_ 3 rfl<|c_ (i_ tabOk rfl rfl l1_ List.not_mem_nil rfl) rfl rfl<|q_ 1 rfl<|aC_ (t := 40) rfl ?_ ?_
 ·intro hc40
  refine q_ 4 rfl<|g_<|b_<|K_ rfl<|d_<|a_<|q_ 1 rfl<|c_ (I_ tabOk rfl rfl rfl rfl) rfl rfl<|e_ (m_ tabOk rfl rfl rfl u0_ rfl (Nat.le_of_ble_eq_true rfl) rfl rfl) rfl rfl<|g_<|b_<|l_<|h_ nofun<|fC_ (rs := [.cell 4 130]) rfl (RV.cell rfl (RV.cellA tabOk rfl rfl l0_ (by rfl)) RV.nil) (Casts.cons (ay_ (Casts.keep (Casts.keep (Casts.nils (s := 3) Casts.refl)))) Casts.refl) (⟨(numL l, numO l odd, .mk (numV l) 0 []), PolR.org hc15 ha hb (fun h => by rw [hc40] at h; cases h.1) _ (.inl rfl)⟩) (sk_ (sc_ sn_)) ?_
  rfl
 intro hc40
 refine q_ 1 rfl<|r_ (eJ_ (p := p) (l := numL l) (odd := numO l odd) (wd := [111, 102])) Casts.refl (by kernel_rfl) rfl rfl rfl ?_
 refine J_ rfl i1_ (fun _ => rfl)<|fun _=>⟨_, u1_, c_ (ab_ rfl) rfl rfl<|q_ 1 rfl<|g_<|b_<|S_ rfl ?_ ?_⟩
 ·intro hc44
  have hof : ¬ begins (bare (numL l)) [111, 102] = true := by simpa using hc44
  refine d_<|a_<|q_ 1 rfl<|c_ (I_ tabOk rfl rfl rfl rfl) rfl rfl<|e_ (m_ tabOk rfl rfl rfl u0_ rfl (Nat.le_of_ble_eq_true rfl) rfl rfl) rfl rfl<|g_<|b_<|l_<|h_ nofun<|fC_ (rs := [.cell 4 130]) rfl (RV.cell rfl (RV.cellA tabOk rfl rfl l0_ (by rfl)) RV.nil) (Casts.cons (ay_ (Casts.keep (Casts.keep (Casts.nils (s := 3) Casts.refl)))) Casts.refl) (⟨(takeT (numL l) [111, 102], numO l odd, .mk (numV l) 0 []), PolR.org hc15 ha hb (fun h => hof h.2) _ (.inr (bM_ hof))⟩) (sk_ (sc_ sn_)) ?_
  rfl
 intro hc44
 have hof : begins (bare (numL l)) [111, 102] = true := by simpa using hc44
 refine o_<|b_<|a8_ (ι := Bool) (fun z => (.blk b4 130 (zabs [.int .i64 0, .int .i64 0, .slice none 0 0]) :: (.blk p 158 (psA (takeT (numL l) [111, 102]) z) :: globs es er))) (fun z => [(0, ptr p), (1, int d), (4, ptr b4), (6, int (numV l))]) (fun z => z = (numO l odd || decide (numV l < 1 ∨ 99 < numV l))) ?_ ?_
 ·skip
  refine d_<|a_<|q_ 3 rfl<|z_ (t := 49) rfl ?_ ?_
  ·intro hc49
   refine q_ 3 rfl<|g_<|b_<|K_ rfl<|a_<|q_ 3 rfl<|e_ (m_ (L' := psA (takeT (numL l) [111, 102]) true) tabOk rfl rfl rfl u1_ rfl (Nat.le_of_ble_eq_true rfl) rfl rfl) rfl rfl<|g_<|ad_ (true) (by rw [decide_eq_true (show numV l < 1 ∨ 99 < numV l by omega), Bool.or_true]) (by exact ⟨rfl, rfl, rfl, rfl, trivial⟩) sr_
  intro hc49
  refine q_ 3 rfl<|g_<|b_<|p_ rfl ?_ ?_
  rotate_left
  ·intro hc52
   refine o_<|ad_ (numO l odd) (by rw [decide_eq_false (show ¬ (numV l < 1 ∨ 99 < numV l) by omega), Bool.or_false]) (by exact ⟨rfl, rfl, rfl, rfl, trivial⟩) sr_
  intro hc52
  refine a_<|q_ 3 rfl<|e_ (m_ (L' := psA (takeT (numL l) [111, 102]) true) tabOk rfl rfl rfl u1_ rfl (Nat.le_of_ble_eq_true rfl) rfl rfl) rfl rfl<|g_<|ad_ (true) (by rw [decide_eq_true (show numV l < 1 ∨ 99 < numV l by omega), Bool.or_true]) (by exact ⟨rfl, rfl, rfl, rfl, trivial⟩) sr_
 intro z hz
 refine d_<|a_<|q_ 3 rfl<|r_ (jc_ (p := p) (l := takeT (numL l) [111, 102]) (odd := z) he hr (by omega) hp (by omega)) Casts.refl (by kernel_rfl) rfl rfl rfl ?_
 refine aO_ (ys := globs es er) rfl i1_ (by intro y hy; simp only [globs, List.mem_cons, List.not_mem_nil, or_false] at hy; rcases hy with rfl | rfl | rfl <;> exact ⟨by repeat first|assumption|exact m0_|apply m1_, by intro h; cases h⟩) rfl (fun _ => rfl) ?_
 intro y
 refine ⟨_, u1_, c_ (I_ tabOk rfl rfl rfl rfl) rfl rfl<|e_ (m_ tabOk rfl rfl rfl u0_ rfl (Nat.le_of_ble_eq_true rfl) rfl rfl) rfl rfl<|g_<|b_<|l_<|f_ (rs := [.cell 4 130]) rfl (RV.cell rfl (RV.cellA tabOk rfl rfl l0_ (by rfl)) RV.nil) (⟨(y.1.1, y.1.2.1, .mk 0 (numV l) y.1.2.2), PolR.of hc15 ha hb hc40 hof hz y.2⟩) (sk_ (sc_ sn_)) ?_⟩
 exact congrArg Abs.agg (Frm.abs_mk _ _ _).symm
theorem pol_s (he : isIf es) (hr : isIf er) : ∀ k : Nat, k ≤ 10 → ∀ (l : Txt) (odd : Bool), l.length ≤ 1000 → Spec Tryz.prog 118 [ptr p, int (11 - (k : Int))] (.blk p 158 (psA (l) odd) :: globs es er) (fun z : {z : Txt × Bool × Frm // PolR k l odd z} => [.blk p 158 (psA z.1.1 z.1.2.1)]) (fun z => .agg z.1.2.2.abs)
  | 0, _, l, odd, hl => pol0_s (p := p) (es := es) (er := er) (odd := odd) hl
  | k + 1, hk, l, odd, hl => pol_step he hr (by omega) (by
      rw [show (11 - ((k + 1 : Nat) : Int)) + 1 = 11 - (k : Int) by omega]
      exact pol_s he hr k (by omega)) hl
end
theorem eM_ {p : Txt → Option (Frm × Txt)} (hp : ∀ t f r, p t = some (f, r) → f.nodes + r.length ≤ t.length) : ∀ (n : Nat) (t : Txt) (acc l : List Frm) (r : Txt), rowL p n t acc = some (l, r) → Frm.nodess l + r.length ≤ Frm.nodess acc + t.length
  | 0, t, acc, l, r, h => by cases h
  | n + 1, t, acc, l, r, h => by
    unfold rowL at h
    cases hq : p t with
    | none => rw [hq] at h; cases h
    | some x =>
      obtain ⟨f, r1⟩ := x
      rw [hq] at h
      have h1 := hp t f r1 hq
      have h2 := aG_ r1
      have h4 : Frm.nodess (acc ++ [f]) = Frm.nodess acc + f.nodes := by rw [Frm.nodess_app, Frm.nodess_one]
      dsimp only at h
      split at h
      · cases h
        rw [List.length_drop]
        omega
      · split at h
        · have h3 := eM_ hp n _ _ _ _ h
          rw [List.length_drop] at h3
          omega
        · cases h
theorem dq_ {p : Txt → Option (Frm × Txt)} (hp : ∀ t f r, p t = some (f, r) → f.nodes + r.length ≤ t.length) {t : Txt} {l : List Frm} {r : Txt} (h : rowT p t = some (l, r)) : Frm.nodess l + r.length + 1 ≤ t.length := by
  unfold rowT at h
  split at h
  · next hb =>
    have h1 := eM_ hp _ _ _ _ _ h
    have h2 := aG_ t
    have h3 := aT_ hb
    have h4 : Frm.nodess [] = 0 := rfl
    simp only [List.length_singleton] at h3
    rw [List.length_drop] at h1
    omega
  · cases h
theorem bV_ : ∀ k t f r, polT k t = some (f, r) → f.nodes + r.length ≤ t.length
  | 0, t, f, r, h => by cases h
  | k + 1, t, f, r, h => by
    have hb := aG_ t
    have hnn : Frm.nodess [] = 0 := rfl
    unfold polT at h
    split at h
    · next hs =>
      have hs3 := aT_ hs
      simp only [List.length_cons, List.length_nil] at hs3
      cases hr : rowT (polT k) ((bare t).drop 3) with
      | none => rw [hr] at h; cases h
      | some x =>
        rw [hr] at h
        cases h
        have h1 := dq_ (bV_ k) hr
        rw [List.length_drop] at h1
        rw [Frm.nodes_mk]
        omega
    · split at h
      · next hs =>
        have hs3 := aT_ hs
        simp only [List.length_cons, List.length_nil] at hs3
        cases hr : rowT (polT k) ((bare t).drop 3) with
        | none => rw [hr] at h; cases h
        | some x =>
          rw [hr] at h
          cases h
          have h1 := dq_ (bV_ k) hr
          rw [List.length_drop] at h1
          rw [Frm.nodes_mk]
          omega
      · cases hn : numT (bare t) with
        | none => rw [hn] at h; cases h
        | some x =>
          obtain ⟨v, r1⟩ := x
          rw [hn] at h
          dsimp only at h
          have h1 := cw_ hn
          have h2 := aG_ r1
          split at h
          · split at h
            · cases hr : rowT (polT k) ((bare r1).drop 2) with
              | none => rw [hr] at h; cases h
              | some x =>
                rw [hr] at h
                cases h
                have h3 := dq_ (bV_ k) hr
                rw [List.length_drop] at h3
                rw [Frm.nodes_mk]
                omega
            · cases h
          · cases h
            rw [Frm.nodes_mk]
            omega
section
variable {l : Txt} {n : Int} {y : Txt × Bool × Frm}
theorem eS_ (h : 200 < l.length) : parseF l n = (.mk 0 0 [], 3) := if_pos h
theorem ga_ (h : ¬ 200 < l.length) (hy : PolR 10 l false y) (ho : y.2.1 = true ∨ ¬ bare y.1 = []) : parseF l n = (.mk 0 0 [], 2) := by
  obtain ⟨_, _, h3, h4⟩ := hy
  unfold parseF
  rw [if_neg h]
  cases hp : polT 10 l with
  | none => rfl
  | some x =>
    obtain ⟨f, r⟩ := x
    obtain ⟨q1, q2, q3⟩ := h4 rfl _ hp
    dsimp only at q2 ⊢
    rcases ho with ho | ho
    · rw [q1] at ho; cases ho
    · rw [← q2, if_pos ho]
theorem jA_ (h : ¬ 200 < l.length) (hy : PolR 10 l false y) (ho : y.2.1 = false) (hb : bare y.1 = []) : y.2.2.nodes ≤ l.length ∧ parseF l n = if y.2.2.check n ≠ 0 then (.mk 0 0 [], y.2.2.check n) else (y.2.2, 0) := by
  obtain ⟨_, _, h3, h4⟩ := hy
  unfold parseF
  rw [if_neg h]
  cases hp : polT 10 l with
  | none => have := h3 rfl hp; rw [ho] at this; cases this
  | some x =>
    obtain ⟨f, r⟩ := x
    obtain ⟨q1, q2, q3⟩ := h4 rfl _ hp
    have hn := bV_ 10 l f r hp
    dsimp only at q2 q3 ⊢
    rw [q3]
    refine ⟨by omega, ?_⟩
    rw [if_neg (by rw [← q2, hb]; simp)]
end
section
variable {l wd : Txt} {odd : Bool} {p : Nat} {es er : Value} {n : Int}
theorem pol1_s (he : isIf es) (hr : isIf er) (hl : l.length ≤ 1000) : Spec Tryz.prog 118 [ptr p, int 1] (.blk p 158 (psA (l) odd) :: globs es er) (fun z : {z : Txt × Bool × Frm // PolR 10 l odd z} => [.blk p 158 (psA z.1.1 z.1.2.1)]) (fun z => .agg z.1.2.2.abs) := pol_s he hr 10 (Nat.le_refl _) l odd hl
set_option maxHeartbeats 2000000 in
theorem parse_s (he : isIf es) (hr : isIf er) : Spec Tryz.prog 100 [stA l, int n] (globs es er) (fun _ : Unit => []) (fun _ => .tup [.agg (parseF l n).1.abs, int (parseF l n).2]) := by
 refine C_ Tryz.func100 rfl Tryz.ntmps100 rfl fun G w =>d_<|a_<|eb_ (B_ tabOk rfl) rfl rfl fun b4=>?_
 refine q_ 1 rfl<|g_<|b_<|d_<|d_<|a_<|q_ 1 rfl<|c_ (k_ (C := int ((l.length : Nat) : Int)) (ag_ rfl Tryz.underlying9) rfl) rfl rfl<|q_ 1 rfl<|g_<|b_<|p_ rfl ?_ ?_
 ·intro hc11
  have hl2 : 200 < l.length := by omega
  refine d_<|a_<|c_ (I_ tabOk rfl rfl rfl rfl) rfl rfl<|e_ (m_ tabOk rfl rfl rfl u0_ rfl (Nat.le_of_ble_eq_true rfl) rfl rfl) rfl rfl<|q_ 1 rfl<|g_<|b_<|l_<|h_ nofun<|fC_ (rs := [.cell 4 130, .tmp 5]) rfl (RV.cell rfl (RV.cellA tabOk rfl rfl l0_ (by rfl)) (RV.tmp rfl RV.nil)) (Casts.cons (ay_ (Casts.keep (Casts.keep (Casts.nils (s := 3) Casts.refl)))) Casts.refl) (()) sn_ ?_
  rw [eS_ hl2]
  rw [Frm.abs_mk]
  rfl
 intro hc11
 have hl2 : ¬ 200 < l.length := by omega
 refine o_<|b_<|d_<|a_<|q_ 1 rfl<|c_ (I_ tabOk rfl rfl rfl rfl) rfl rfl<|eb_ (L_ (cs := psA l false) rfl) rfl rfl fun b15=>?_
 refine q_ 1 rfl<|g_<|b_<|d_<|a_<|q_ 1 rfl<|r_ (pol1_s (p := b15) (l := l) (odd := false) he hr (by omega)) Casts.refl (by kernel_rfl) rfl rfl rfl ?_
 refine aO_ (ys := globs es er) rfl i0_ (by intro y hy; simp only [globs, List.mem_cons, List.not_mem_nil, or_false] at hy; rcases hy with rfl | rfl | rfl <;> exact ⟨by repeat first|assumption|exact m0_|apply m1_, by intro h; cases h⟩) rfl (fun _ => rfl) ?_
 intro y
 refine ⟨_, u0_, eb_ (B_ tabOk rfl) rfl rfl fun b7=>?_⟩
 refine e_ (m_ (L' := y.1.2.2.abs) tabOk rfl rfl rfl u0_ (by exact Frm.abs_len _) (Nat.le_of_ble_eq_true rfl) (by exact Frm.abs_ones _) (s_ (by exact Frm.abs_len _))) rfl rfl ?_
 refine g_<|b_<|d_<|d_<|a_<|q_ 1 rfl<|r_ (fL_ (p := b15) (l := y.1.1) (odd := y.1.2.1)) Casts.refl (by kernel_rfl) rfl rfl rfl ?_
 refine J_ rfl i1_ (fun _ => rfl)<|fun _=>⟨_, u1_, g_<|b_<|d_<|a_<|q_ 3 rfl<|c_ (i_ tabOk rfl rfl l1_ List.not_mem_nil rfl) rfl rfl<|q_ 1 rfl<|aC_ (t := 24) rfl ?_ ?_⟩
 ·intro hc24
  refine q_ 6 rfl<|g_<|b_<|K_ rfl<|d_<|a_<|c_ (I_ tabOk rfl rfl rfl rfl) rfl rfl<|e_ (m_ tabOk rfl rfl rfl u2_ rfl (Nat.le_of_ble_eq_true rfl) rfl rfl) rfl rfl<|q_ 1 rfl<|g_<|b_<|l_<|h_ nofun<|fC_ (rs := [.cell 4 130, .tmp 5]) rfl (RV.cell rfl (RV.cellA tabOk rfl rfl l2_ (by rfl)) (RV.tmp rfl RV.nil)) (Casts.cons (ay_ (Casts.keep (Casts.keep (Casts.nils (s := 3) Casts.refl)))) Casts.refl) (()) sn_ ?_
  rw [ga_ hl2 y.2 (.inl hc24)]
  rw [Frm.abs_mk]
  rfl
 intro hc24
 refine q_ 3 rfl<|c_ (i_ tabOk rfl rfl l1_ List.not_mem_nil rfl) rfl rfl<|c_ (k_ (C := boo (decide (¬ bare y.1.1 = []))) (eD_ rfl rfl) (congrArg (fun b => Abs.v (Value.bool b)) (decide_eq_decide.2 (not_congr is_)))) rfl rfl<|q_ 1 rfl<|g_<|b_<|p_ rfl ?_ ?_
 ·intro hc30
  refine d_<|a_<|c_ (I_ tabOk rfl rfl rfl rfl) rfl rfl<|e_ (m_ tabOk rfl rfl rfl u2_ rfl (Nat.le_of_ble_eq_true rfl) rfl rfl) rfl rfl<|q_ 1 rfl<|g_<|b_<|l_<|h_ nofun<|fC_ (rs := [.cell 4 130, .tmp 5]) rfl (RV.cell rfl (RV.cellA tabOk rfl rfl l2_ (by rfl)) (RV.tmp rfl RV.nil)) (Casts.cons (ay_ (Casts.keep (Casts.keep (Casts.nils (s := 3) Casts.refl)))) Casts.refl) (()) sn_ ?_
  rw [ga_ hl2 y.2 (.inr hc30)]
  rw [Frm.abs_mk]
  rfl
 intro hc30
 have hpe := jA_ (n := n) hl2 y.2 hc24 (Classical.byContradiction hc30)
 refine o_<|b_<|d_<|d_<|a_<|c_ (P_ tabOk rfl rfl rfl l0_ List.not_mem_nil (Frm.abs_len _)) rfl rfl<|q_ 1 rfl<|r_ (fE_ (f := y.1.2.2) (n := n) (by have := hpe.1; omega)) Casts.refl (by kernel_rfl) rfl rfl rfl ?_
 refine ap_<|fun _=>q_ 1 rfl<|g_<|b_<|d_<|a_<|q_ 2 rfl<|g_<|b_<|p_ rfl ?_ ?_
 rotate_left
 ·intro hc36
  refine o_<|b_<|d_<|a_<|c_ (P_ tabOk rfl rfl rfl l0_ List.not_mem_nil (Frm.abs_len _)) rfl rfl<|e_ (m_ (L' := y.1.2.2.abs) tabOk rfl rfl rfl u2_ (by exact Frm.abs_len _) (Nat.le_of_ble_eq_true rfl) (by exact Frm.abs_ones _) (s_ (by exact Frm.abs_len _))) rfl rfl ?_
  refine q_ 1 rfl<|g_<|b_<|l_<|f_ (rs := [.cell 4 130, .tmp 5]) rfl (RV.cell rfl (RV.cellA tabOk rfl rfl l2_ (by exact Frm.abs_len _)) (RV.tmp rfl RV.nil)) (()) sn_ ?_
  rw [hpe.2, if_neg hc36]
  rfl
 intro hc36
 refine d_<|a_<|c_ (I_ tabOk rfl rfl rfl rfl) rfl rfl<|q_ 1 rfl<|e_ (m_ tabOk rfl rfl rfl u2_ rfl (Nat.le_of_ble_eq_true rfl) rfl rfl) rfl rfl<|q_ 1 rfl<|g_<|b_<|l_<|h_ nofun<|fC_ (rs := [.cell 4 130, .tmp 5]) rfl (RV.cell rfl (RV.cellA tabOk rfl rfl l2_ (by rfl)) (RV.tmp rfl RV.nil)) (Casts.cons (ay_ (Casts.keep (Casts.keep (Casts.nils (s := 3) Casts.refl)))) Casts.refl) (()) sn_ ?_
 rw [hpe.2, if_pos hc36]
 rw [Frm.abs_mk]
 rfl
end
def dgA (l : Lg) (e : Ent) (n : Int) (x : Ltr) : List Abs := l.abs ++ entA e ++ [int n] ++ ltrA x
section
variable {l : Lg} {x : Ltr} {n : Int} {e : Ent} {d : Nat} {es er : Value}
set_option maxHeartbeats 1000000 in
theorem known_s (hf : l.Few) : Spec Tryz.prog 68 [ptr d] (.blk d 112 (dgA l e n x) :: (globs es er)) (fun _ : Unit => [.blk d 112 (dgA l e n (l.old e.core.letter))]) (fun _ => int (l.known e.core)) := by
 refine C_ Tryz.func68 rfl Tryz.ntmps68 rfl fun G w =>d_<|a_<|q_ 1 rfl<|g_<|b_<|d_<|a_<|q_ 1 rfl<|g_<|b_<|d_<|d_<|Y_ [d] (.q 0 (.q 1 (.q 2 (.q 3 (.q 5 (.q 6 (.q 7 (.q 8 (.q 9 (.two 4 10 (.e 10 (.e 11 (.q 12 (.q 13 (.q 14 (.q 15 (.q 16 (.e 17 (.q 18 .nil))))))))) (.e 4 (.e 11 (.q 12 (.q 13 (.q 14 (.q 15 (.q 16 (.e 17 (.q 18 .nil))))))))))))))))))) (by kernel_rfl) (by kernel_rfl) ?_
 refine hx_ fun hx9 =>qx_ 9 hx9 rfl<|ba_ ?_ ?_
 ·skip
  refine aW_ rfl (k_ (C := .agg l.abs) (x_ tabOk rfl rfl rfl l0_ List.not_mem_nil (lb_ (by rfl))) rfl) rfl rfl ?_
  refine aW_ rfl (k_ (C := st e.core.letter) (i_ tabOk rfl rfl l0_ List.not_mem_nil (by rfl)) rfl) rfl rfl ?_
  refine Q_ rfl (jO_ (s := e.core.letter) hf) (by simp [mids, It.mids]) Casts.refl (by kernel_rfl) rfl rfl rfl ?_
  refine ap_<|fun _=>hx_ fun hx9 =>qx_ 5 hx9 rfl<|ex_ rfl (m_ (L' := dgA l e n (l.old e.core.letter)) tabOk rfl rfl rfl u0_ rfl (Nat.le_of_ble_eq_true rfl) rfl rfl) (by simp) rfl rfl ?_
  refine hx_ fun hx9 =>qx_ 1 hx9 rfl<|R_<|b_<|d_<|a_<|q_ 1 rfl<|c_ (ab_ rfl) rfl rfl<|q_ 1 rfl<|aC_ (t := 23) rfl ?_ ?_
  rotate_left
  ·intro hc23
   refine q_ 8 rfl<|g_<|b_<|ah_ rfl<|o_<|b_<|d_<|a_<|q_ 1 rfl<|g_<|b_<|l_<|f_ (rs := [.tmp 2]) rfl (RV.tmp rfl RV.nil) (()) (sc_ sn_)<|congrArg int ?_
   unfold Lg.known
   split <;> simp_all
  intro hc23
  refine q_ 5 rfl<|c_ (k_ (C := int e.core.op) (i_ tabOk rfl rfl l0_ List.not_mem_nil rfl) rfl) rfl rfl<|q_ 2 rfl<|g_<|b_<|p_ rfl ?_ ?_
  ·intro hc31
   refine d_<|a_<|q_ 1 rfl<|g_<|b_<|l_<|h_ nofun<|f_ (rs := [.tmp 2]) rfl (RV.tmp rfl RV.nil) (()) (sc_ sn_)<|congrArg int ?_
   unfold Lg.known
   split <;> simp_all
  intro hc31
  refine o_<|b_<|d_<|a_<|q_ 1 rfl<|g_<|b_<|l_<|f_ (rs := [.tmp 2]) rfl (RV.tmp rfl RV.nil) (()) (sc_ sn_)<|congrArg int ?_
  unfold Lg.known
  split <;> simp_all
 skip
 refine aW_ rfl (k_ (C := st e.core.letter) (i_ tabOk rfl rfl l0_ List.not_mem_nil (by rfl)) rfl) rfl rfl ?_
 refine aW_ rfl (k_ (C := .agg l.abs) (x_ tabOk rfl rfl rfl l0_ List.not_mem_nil (lb_ (by rfl))) rfl) rfl rfl ?_
 refine Q_ rfl (jO_ (s := e.core.letter) hf) (by simp [mids, It.mids]) Casts.refl (by kernel_rfl) rfl rfl rfl ?_
 refine ap_<|fun _=>hx_ fun hx9 =>qx_ 5 hx9 rfl<|ex_ rfl (m_ (L' := dgA l e n (l.old e.core.letter)) tabOk rfl rfl rfl u0_ rfl (Nat.le_of_ble_eq_true rfl) rfl rfl) (by simp) rfl rfl ?_
 refine hx_ fun hx9 =>qx_ 1 hx9 rfl<|R_<|b_<|d_<|a_<|q_ 1 rfl<|c_ (ab_ rfl) rfl rfl<|q_ 1 rfl<|aC_ (t := 23) rfl ?_ ?_
 rotate_left
 ·intro hc23
  refine q_ 8 rfl<|g_<|b_<|ah_ rfl<|o_<|b_<|d_<|a_<|q_ 1 rfl<|g_<|b_<|l_<|f_ (rs := [.tmp 2]) rfl (RV.tmp rfl RV.nil) (()) (sc_ sn_)<|congrArg int ?_
  unfold Lg.known
  split <;> simp_all
 intro hc23
 refine q_ 5 rfl<|c_ (k_ (C := int e.core.op) (i_ tabOk rfl rfl l0_ List.not_mem_nil rfl) rfl) rfl rfl<|q_ 2 rfl<|g_<|b_<|p_ rfl ?_ ?_
 ·intro hc31
  refine d_<|a_<|q_ 1 rfl<|g_<|b_<|l_<|h_ nofun<|f_ (rs := [.tmp 2]) rfl (RV.tmp rfl RV.nil) (()) (sc_ sn_)<|congrArg int ?_
  unfold Lg.known
  split <;> simp_all
 intro hc31
 refine o_<|b_<|d_<|a_<|q_ 1 rfl<|g_<|b_<|l_<|f_ (rs := [.tmp 2]) rfl (RV.tmp rfl RV.nil) (()) (sc_ sn_)<|congrArg int ?_
 unfold Lg.known
 split <;> simp_all
set_option maxHeartbeats 1000000 in
theorem iJ_ (he : isIf es) (hr : isIf er) (hm : e.mask < 4294967296) : Spec Tryz.prog 69 [ptr d] (.blk d 112 (dgA l e n x) :: (globs es er)) (fun _ : Unit => [.blk d 112 (dgA l e n x)]) (fun _ => int (endorsedF x e n)) := by
 refine C_ Tryz.func69 rfl Tryz.ntmps69 rfl fun G w =>d_<|a_<|q_ 1 rfl<|g_<|b_<|d_<|a_<|q_ 4 rfl<|c_ (k_ (C := st x.policy) (i_ tabOk rfl rfl l0_ List.not_mem_nil rfl) rfl) rfl rfl<|q_ 1 rfl<|g_<|b_<|a8_ (ι := Unit) (fun z => (.blk d 112 (dgA l e n x) :: (globs es er))) (fun z => [(0, ptr d), (3, st (polB x e.core))]) (fun z => True) ?_ ?_
 ·skip
  refine d_<|a_<|q_ 5 rfl<|c_ (k_ (C := int e.core.op) (i_ tabOk rfl rfl l0_ List.not_mem_nil rfl) rfl) rfl rfl<|q_ 1 rfl<|g_<|b_<|p_ rfl ?_ ?_
  rotate_left
  ·intro hc17
   refine o_<|ad_ (()) (trivial) (by exact ⟨rfl, congrArg (fun s => some (st s)) (show x.policy = (polB x e.core) from (if_neg hc17).symm), trivial⟩) sr_
  intro hc17
  refine a_<|q_ 5 rfl<|c_ (k_ (C := st e.core.text) (i_ tabOk rfl rfl l0_ List.not_mem_nil rfl) rfl) rfl rfl<|q_ 1 rfl<|g_<|ad_ (()) (trivial) (by exact ⟨rfl, congrArg (fun s => some (st s)) (show e.core.text = (polB x e.core) from (if_pos hc17).symm), trivial⟩) sr_
 intro z hz
 refine d_<|a_<|q_ 4 rfl<|c_ (k_ (C := int n) (i_ tabOk rfl rfl l0_ List.not_mem_nil rfl) rfl) rfl rfl<|r_ (parse_s (l := tx (polB x e.core)) (n := n) he hr) (Casts.of_eq (by rw [st_tx])) (by kernel_rfl) rfl rfl rfl ?_
 refine ap_<|fun _=>q_ 3 rfl<|eb_ (B_ tabOk rfl) rfl rfl fun b4=>?_
 refine e_ (m_ (L' := (parseF (tx (polB x e.core)) n).1.abs) tabOk rfl rfl rfl u0_ (by exact Frm.abs_len _) (Nat.le_of_ble_eq_true rfl) (by exact Frm.abs_ones _) (s_ (by exact Frm.abs_len _))) rfl rfl ?_
 refine q_ 1 rfl<|g_<|b_<|d_<|w_<|d_<|a_<|q_ 3 rfl<|g_<|b_<|p_ rfl ?_ ?_
 ·intro hc33
  refine d_<|a_<|q_ 1 rfl<|g_<|b_<|l_<|A_<|h_ nofun<|f_ (rs := [.tmp 2]) rfl (RV.tmp rfl RV.nil) (()) (sk_ (sc_ sn_)) ?_
  (refine congrArg int ?_; unfold endorsedF; rw [if_pos hc33])
 intro hc33
 have hpz : (parseF (tx (polB x e.core)) n).2 = 0 := Classical.byContradiction hc33
 have hck := gc_ hpz
 refine d_<|Y_ [] (.q 0 (.q 1 (.q 2 (.q 3 (.q 4 (.q 5 (.q 6 (.q 7 (.q 8 (.q 9 (.e 10 (.q 11 (.q 12 .nil))))))))))))) (by kernel_rfl) (by kernel_rfl) ?_
 refine hx_ fun hx9 =>v_ rfl (P_ tabOk rfl rfl rfl l0_ List.not_mem_nil (Frm.abs_len _)) hx9 rfl rfl<|qs_ 4 rfl<|v_ rfl (k_ (C := .v (.int .u32 (e.mask : Nat))) (i_ tabOk rfl rfl l1_ List.not_mem_nil rfl) rfl) hx9 rfl rfl<|qs_ 3 rfl<|v_ rfl (k_ (C := int n) (i_ tabOk rfl rfl l1_ List.not_mem_nil rfl) rfl) hx9 rfl rfl<|Q_ rfl (enough_s (f := (parseF (tx (polB x e.core)) n).1) (s := BitVec.ofNat 32 e.mask) (n := n) (by have h9 := (Frm.check_ok.1 hck).2.1; omega)) (by simp [mids, It.mids]) (Casts.of_eq (by rw [hW_ hm])) (by kernel_rfl) rfl rfl rfl ?_
 refine ap_<|fun _=>v_ rfl (ab_ rfl) (by simp) rfl rfl ?_
 refine qs_ 1 rfl<|R_<|b_<|S_ rfl ?_ ?_
 ·intro hc36
  refine d_<|a_<|q_ 1 rfl<|g_<|b_<|l_<|A_<|h_ nofun<|f_ (rs := [.tmp 2]) rfl (RV.tmp rfl RV.nil) (()) (sk_ (sc_ sn_)) ?_
  (refine congrArg int ?_; unfold endorsedF; rw [if_neg hc33, if_pos (by rw [hck] at hc36; simpa using hc36)])
 intro hc36
 refine o_<|u_<|b_<|d_<|a_<|q_ 1 rfl<|g_<|b_<|l_<|f_ (rs := [.tmp 2]) rfl (RV.tmp rfl RV.nil) (()) (sk_ (sc_ sn_)) ?_
 (refine congrArg int ?_; unfold endorsedF; rw [if_neg hc33, if_neg (by rw [hck] at hc36; simpa using hc36)])
set_option maxHeartbeats 1000000 in
theorem je_ (hf : l.Few) (hl : l.Wf) (hx : x.Wf) (ha : i64ok e.core.a) (ht : e.core.text.size ≤ 9223372036854775807) : Spec Tryz.prog 70 [ptr d] (.blk d 112 (dgA l e n x) :: (globs es er)) (fun _ : Unit => [.blk d 112 (dgA (l.stepped x e.core).1 e n x)]) (fun _ => int (l.stepped x e.core).2) := by
 have hsw := fj_ (op := e.core.op) (a := e.core.a) (b := e.core.b) (t := e.core.text) hx
 refine C_ Tryz.func70 rfl Tryz.ntmps70 rfl fun G w =>d_<|a_<|q_ 1 rfl<|g_<|b_<|d_<|a_<|q_ 4 rfl<|c_ (k_ (C := coreA e.core) (x_ tabOk rfl rfl rfl l0_ List.not_mem_nil (Nat.le_of_ble_eq_true rfl)) rfl) rfl rfl<|eb_ (B_ tabOk rfl) rfl rfl fun b3=>?_
 refine e_ (m_ (L' := e.core.cells.map .v) tabOk rfl rfl rfl u0_ rfl (Nat.le_of_ble_eq_true rfl) rfl (by exact s_ rfl)) rfl rfl ?_
 refine g_<|b_<|d_<|Y_ [] (.q 0 (.q 1 (.q 2 (.q 3 (.q 4 (.q 5 (.q 6 (.q 7 (.q 8 (.q 9 (.q 10 (.q 11 (.two 12 16 (.q 13 (.q 14 (.q 15 (.e 16 (.e 17 (.q 18 .nil)))))) (.e 12 (.q 13 (.q 14 (.q 15 (.e 17 (.q 18 .nil))))))))))))))))))) (by kernel_rfl) (by kernel_rfl) ?_
 refine qs_ 3 rfl<|hx_ fun hx9 =>v_ rfl (k_ (C := .agg (ltrA x)) (x_ tabOk rfl rfl rfl l1_ List.not_mem_nil (Nat.le_of_ble_eq_true rfl)) rfl) hx9 rfl rfl<|qs_ 1 rfl<|v_ rfl (k_ (C := int e.core.op) (i_ tabOk rfl rfl l0_ List.not_mem_nil rfl) rfl) hx9 rfl rfl<|qs_ 1 rfl<|v_ rfl (k_ (C := int e.core.a) (i_ tabOk rfl rfl l0_ List.not_mem_nil rfl) rfl) hx9 rfl rfl<|qs_ 1 rfl<|v_ rfl (k_ (C := int e.core.b) (i_ tabOk rfl rfl l0_ List.not_mem_nil rfl) rfl) hx9 rfl rfl<|qs_ 1 rfl<|v_ rfl (k_ (C := st e.core.text) (i_ tabOk rfl rfl l0_ List.not_mem_nil rfl) rfl) hx9 rfl rfl<|ba_ ?_ ?_
 ·skip
  refine Q_ rfl (step_s (x := x) (op := e.core.op) (a := e.core.a) (b := e.core.b) (t := e.core.text) hx ha ht) (by simp [mids, It.mids]) Casts.refl (by kernel_rfl) rfl rfl rfl ?_
  refine ap_<|fun _=>qs_ 3 rfl<|bo_ tabOk rfl rfl rfl rfl fun b4 =>ex_ rfl (m_ (L' := ltrA (x.step e.core.op e.core.a e.core.b e.core.text).1) tabOk rfl rfl rfl u0_ rfl (Nat.le_of_ble_eq_true rfl) rfl (by exact s_ rfl)) (by simp) rfl rfl ?_
  refine hx_ fun hx9 =>qx_ 1 hx9 rfl<|R_<|b_<|d_<|d_<|a_<|q_ 2 rfl<|g_<|b_<|p_ rfl ?_ ?_
  ·intro hc29
   refine d_<|a_<|q_ 2 rfl<|g_<|b_<|l_<|h_ nofun ?_
   have hst := dZ_ (l := l) hc29
   refine f_ (rs := [.tmp 2]) rfl (RV.tmp rfl RV.nil) (()) (by rw [hst]; repeat (first | exact List.nil_sublist _ | exact List.Sublist.refl _ | apply List.Sublist.cons_cons | apply List.Sublist.cons)) ?_
   rw [hst]; rfl
  intro hc29
  refine o_<|b_<|d_<|a_<|q_ 1 rfl<|c_ (k_ (C := st e.core.letter) (i_ tabOk rfl rfl l1_ List.not_mem_nil rfl) rfl) rfl rfl<|q_ 1 rfl<|e_ (m_ (L' := ltrA (nextL x e.core)) tabOk rfl rfl rfl u0_ rfl (Nat.le_of_ble_eq_true rfl) rfl rfl) rfl rfl<|g_<|b_<|d_<|Y_ [] (.q 0 (.q 1 (.q 2 (.q 3 (.q 4 (.two 5 9 (.q 6 (.q 7 (.q 8 (.e 9 (.e 10 (.q 11 .nil)))))) (.e 5 (.q 6 (.q 7 (.q 8 (.e 10 (.q 11 .nil)))))))))))) (by kernel_rfl) (by kernel_rfl) ?_
  refine qs_ 3 rfl<|hx_ fun hx9 =>v_ rfl (k_ (C := .agg l.abs) (x_ tabOk rfl rfl rfl l2_ List.not_mem_nil (Nat.le_of_ble_eq_true rfl)) rfl) hx9 rfl rfl<|v_ rfl (k_ (C := .agg (ltrA (nextL x e.core))) (x_ tabOk rfl rfl rfl l0_ List.not_mem_nil (Nat.le_of_ble_eq_true rfl)) rfl) hx9 rfl rfl<|ba_ ?_ ?_
  ·skip
   refine Q_ rfl (fu_ (x := (nextL x e.core)) hf) (by simp [mids, It.mids]) Casts.refl (by kernel_rfl) rfl rfl rfl ?_
   refine ap_<|fun _=>qs_ 3 rfl<|bo_ tabOk rfl rfl rfl rfl fun b6 =>ex_ rfl (m_ (L' := (l.with_ (nextL x e.core)).1.abs) tabOk rfl rfl rfl u0_ rfl (Nat.le_of_ble_eq_true rfl) rfl (by exact s_ rfl)) (by simp) rfl rfl ?_
   refine hx_ fun hx9 =>qx_ 1 hx9 rfl<|R_<|b_<|d_<|d_<|a_<|q_ 2 rfl<|g_<|b_<|p_ rfl ?_ ?_
   ·intro hc44
    refine d_<|a_<|q_ 2 rfl<|g_<|b_<|l_<|h_ nofun ?_
    have hst := ce_ (l := l) hc29 hc44
    refine f_ (rs := [.tmp 2]) rfl (RV.tmp rfl RV.nil) (()) (by rw [hst]; repeat (first | exact List.nil_sublist _ | exact List.Sublist.refl _ | apply List.Sublist.cons_cons | apply List.Sublist.cons)) ?_
    rw [hst]; rfl
   intro hc44
   refine o_<|b_<|d_<|d_<|a_<|q_ 1 rfl<|c_ (k_ (C := int e.core.op) (i_ tabOk rfl rfl l2_ List.not_mem_nil rfl) rfl) rfl rfl<|q_ 1 rfl<|g_<|b_<|p_ rfl ?_ ?_
   rotate_left
   ·intro hc48
    refine o_<|b_<|d_<|a_<|q_ 1 rfl<|c_ (k_ (C := .agg (Lg.abs (l.with_ (nextL x e.core)).1)) (x_ tabOk rfl rfl rfl l0_ List.not_mem_nil (Nat.le_of_ble_eq_true rfl)) rfl) rfl rfl<|q_ 2 rfl<|e_ (m_ (L' := dgA (l.with_ (nextL x e.core)).1 e n x) tabOk rfl rfl rfl u3_ rfl (Nat.le_of_ble_eq_true rfl) rfl rfl) rfl rfl<|g_<|b_<|d_<|a_<|q_ 1 rfl<|g_<|b_<|l_ ?_
    have hst := cd_ (l := l) hc29 hc44 hc48
    refine f_ (rs := [.tmp 2]) rfl (RV.tmp rfl RV.nil) (()) (by rw [hst]; repeat (first | exact List.nil_sublist _ | exact List.Sublist.refl _ | apply List.Sublist.cons_cons | apply List.Sublist.cons)) ?_
    rw [hst]; rfl
   intro hc48
   refine d_<|a_<|q_ 1 rfl<|c_ (k_ (C := int l.total) (i_ tabOk rfl rfl l0_ List.not_mem_nil rfl) (congrArg int (ct_ hc44))) rfl rfl<|q_ 1 rfl<|c_ (k_ (C := int (nextL x e.core).amount) (i_ tabOk rfl rfl l1_ List.not_mem_nil rfl) rfl) rfl rfl<|r_ (hX_ (a := l.total) (b := (nextL x e.core).amount) hl.total hsw.amount) Casts.refl (by kernel_rfl) rfl rfl rfl ?_
   refine ap_<|fun _=>q_ 4 rfl<|e_ (m_ (L' := Lg.abs { (l.with_ (nextL x e.core)).1 with total := (amtAdd l.total (nextL x e.core).amount).1 }) tabOk rfl rfl rfl u0_ rfl (Nat.le_of_ble_eq_true rfl) rfl rfl) rfl rfl<|q_ 1 rfl<|g_<|b_<|d_<|a_<|q_ 2 rfl<|g_<|b_<|p_ rfl ?_ ?_
   ·intro hc59
    refine d_<|a_<|q_ 1 rfl<|g_<|b_<|l_<|h_ nofun ?_
    have hst := cc_ (l := l) hc29 hc44 hc48 hc59
    refine f_ (rs := [.tmp 2]) rfl (RV.tmp rfl RV.nil) (()) (by rw [hst]; repeat (first | exact List.nil_sublist _ | exact List.Sublist.refl _ | apply List.Sublist.cons_cons | apply List.Sublist.cons)) ?_
    rw [hst]; rfl
   intro hc59
   refine o_<|b_<|d_<|a_<|q_ 1 rfl<|c_ (k_ (C := .agg (Lg.abs { (l.with_ (nextL x e.core)).1 with total := (amtAdd l.total (nextL x e.core).amount).1 })) (x_ tabOk rfl rfl rfl l0_ List.not_mem_nil (Nat.le_of_ble_eq_true rfl)) rfl) rfl rfl<|q_ 2 rfl<|e_ (m_ (L' := dgA { (l.with_ (nextL x e.core)).1 with total := (amtAdd l.total (nextL x e.core).amount).1 } e n x) tabOk rfl rfl rfl u3_ rfl (Nat.le_of_ble_eq_true rfl) rfl rfl) rfl rfl<|g_<|b_<|d_<|a_<|q_ 1 rfl<|g_<|b_<|l_ ?_
   have hst := cb_ (l := l) hc29 hc44 hc48 hc59
   refine f_ (rs := [.tmp 2]) rfl (RV.tmp rfl RV.nil) (()) (by rw [hst]; repeat (first | exact List.nil_sublist _ | exact List.Sublist.refl _ | apply List.Sublist.cons_cons | apply List.Sublist.cons)) ?_
   rw [hst]; rfl
  skip
  refine bo_ tabOk rfl rfl rfl rfl fun b6 =>Q_ rfl (fu_ (x := (nextL x e.core)) hf) (by simp [mids, It.mids]) Casts.refl (by kernel_rfl) rfl rfl rfl ?_
  refine ap_<|fun _=>hx_ fun hx9 =>qx_ 3 hx9 rfl<|ex_ rfl (m_ (L' := (l.with_ (nextL x e.core)).1.abs) tabOk rfl rfl rfl u0_ rfl (Nat.le_of_ble_eq_true rfl) rfl (by exact s_ rfl)) (by simp) rfl rfl ?_
  refine hx_ fun hx9 =>qx_ 1 hx9 rfl<|R_<|b_<|d_<|d_<|a_<|q_ 2 rfl<|g_<|b_<|p_ rfl ?_ ?_
  ·intro hc44
   refine d_<|a_<|q_ 2 rfl<|g_<|b_<|l_<|h_ nofun ?_
   have hst := ce_ (l := l) hc29 hc44
   refine f_ (rs := [.tmp 2]) rfl (RV.tmp rfl RV.nil) (()) (by rw [hst]; repeat (first | exact List.nil_sublist _ | exact List.Sublist.refl _ | apply List.Sublist.cons_cons | apply List.Sublist.cons)) ?_
   rw [hst]; rfl
  intro hc44
  refine o_<|b_<|d_<|d_<|a_<|q_ 1 rfl<|c_ (k_ (C := int e.core.op) (i_ tabOk rfl rfl l2_ List.not_mem_nil rfl) rfl) rfl rfl<|q_ 1 rfl<|g_<|b_<|p_ rfl ?_ ?_
  rotate_left
  ·intro hc48
   refine o_<|b_<|d_<|a_<|q_ 1 rfl<|c_ (k_ (C := .agg (Lg.abs (l.with_ (nextL x e.core)).1)) (x_ tabOk rfl rfl rfl l0_ List.not_mem_nil (Nat.le_of_ble_eq_true rfl)) rfl) rfl rfl<|q_ 2 rfl<|e_ (m_ (L' := dgA (l.with_ (nextL x e.core)).1 e n x) tabOk rfl rfl rfl u3_ rfl (Nat.le_of_ble_eq_true rfl) rfl rfl) rfl rfl<|g_<|b_<|d_<|a_<|q_ 1 rfl<|g_<|b_<|l_ ?_
   have hst := cd_ (l := l) hc29 hc44 hc48
   refine f_ (rs := [.tmp 2]) rfl (RV.tmp rfl RV.nil) (()) (by rw [hst]; repeat (first | exact List.nil_sublist _ | exact List.Sublist.refl _ | apply List.Sublist.cons_cons | apply List.Sublist.cons)) ?_
   rw [hst]; rfl
  intro hc48
  refine d_<|a_<|q_ 1 rfl<|c_ (k_ (C := int l.total) (i_ tabOk rfl rfl l0_ List.not_mem_nil rfl) (congrArg int (ct_ hc44))) rfl rfl<|q_ 1 rfl<|c_ (k_ (C := int (nextL x e.core).amount) (i_ tabOk rfl rfl l1_ List.not_mem_nil rfl) rfl) rfl rfl<|r_ (hX_ (a := l.total) (b := (nextL x e.core).amount) hl.total hsw.amount) Casts.refl (by kernel_rfl) rfl rfl rfl ?_
  refine ap_<|fun _=>q_ 4 rfl<|e_ (m_ (L' := Lg.abs { (l.with_ (nextL x e.core)).1 with total := (amtAdd l.total (nextL x e.core).amount).1 }) tabOk rfl rfl rfl u0_ rfl (Nat.le_of_ble_eq_true rfl) rfl rfl) rfl rfl<|q_ 1 rfl<|g_<|b_<|d_<|a_<|q_ 2 rfl<|g_<|b_<|p_ rfl ?_ ?_
  ·intro hc59
   refine d_<|a_<|q_ 1 rfl<|g_<|b_<|l_<|h_ nofun ?_
   have hst := cc_ (l := l) hc29 hc44 hc48 hc59
   refine f_ (rs := [.tmp 2]) rfl (RV.tmp rfl RV.nil) (()) (by rw [hst]; repeat (first | exact List.nil_sublist _ | exact List.Sublist.refl _ | apply List.Sublist.cons_cons | apply List.Sublist.cons)) ?_
   rw [hst]; rfl
  intro hc59
  refine o_<|b_<|d_<|a_<|q_ 1 rfl<|c_ (k_ (C := .agg (Lg.abs { (l.with_ (nextL x e.core)).1 with total := (amtAdd l.total (nextL x e.core).amount).1 })) (x_ tabOk rfl rfl rfl l0_ List.not_mem_nil (Nat.le_of_ble_eq_true rfl)) rfl) rfl rfl<|q_ 2 rfl<|e_ (m_ (L' := dgA { (l.with_ (nextL x e.core)).1 with total := (amtAdd l.total (nextL x e.core).amount).1 } e n x) tabOk rfl rfl rfl u3_ rfl (Nat.le_of_ble_eq_true rfl) rfl rfl) rfl rfl<|g_<|b_<|d_<|a_<|q_ 1 rfl<|g_<|b_<|l_ ?_
  have hst := cb_ (l := l) hc29 hc44 hc48 hc59
  refine f_ (rs := [.tmp 2]) rfl (RV.tmp rfl RV.nil) (()) (by rw [hst]; repeat (first | exact List.nil_sublist _ | exact List.Sublist.refl _ | apply List.Sublist.cons_cons | apply List.Sublist.cons)) ?_
  rw [hst]; rfl
 skip
 refine bo_ tabOk rfl rfl rfl rfl fun b4 =>Q_ rfl (step_s (x := x) (op := e.core.op) (a := e.core.a) (b := e.core.b) (t := e.core.text) hx ha ht) (by simp [mids, It.mids]) Casts.refl (by kernel_rfl) rfl rfl rfl ?_
 refine ap_<|fun _=>hx_ fun hx9 =>qx_ 3 hx9 rfl<|ex_ rfl (m_ (L' := ltrA (x.step e.core.op e.core.a e.core.b e.core.text).1) tabOk rfl rfl rfl u0_ rfl (Nat.le_of_ble_eq_true rfl) rfl (by exact s_ rfl)) (by simp) rfl rfl ?_
 refine hx_ fun hx9 =>qx_ 1 hx9 rfl<|R_<|b_<|d_<|d_<|a_<|q_ 2 rfl<|g_<|b_<|p_ rfl ?_ ?_
 ·intro hc29
  refine d_<|a_<|q_ 2 rfl<|g_<|b_<|l_<|h_ nofun ?_
  have hst := dZ_ (l := l) hc29
  refine f_ (rs := [.tmp 2]) rfl (RV.tmp rfl RV.nil) (()) (by rw [hst]; repeat (first | exact List.nil_sublist _ | exact List.Sublist.refl _ | apply List.Sublist.cons_cons | apply List.Sublist.cons)) ?_
  rw [hst]; rfl
 intro hc29
 refine o_<|b_<|d_<|a_<|q_ 1 rfl<|c_ (k_ (C := st e.core.letter) (i_ tabOk rfl rfl l1_ List.not_mem_nil rfl) rfl) rfl rfl<|q_ 1 rfl<|e_ (m_ (L' := ltrA (nextL x e.core)) tabOk rfl rfl rfl u0_ rfl (Nat.le_of_ble_eq_true rfl) rfl rfl) rfl rfl<|g_<|b_<|d_<|Y_ [] (.q 0 (.q 1 (.q 2 (.q 3 (.q 4 (.two 5 9 (.q 6 (.q 7 (.q 8 (.e 9 (.e 10 (.q 11 .nil)))))) (.e 5 (.q 6 (.q 7 (.q 8 (.e 10 (.q 11 .nil)))))))))))) (by kernel_rfl) (by kernel_rfl) ?_
 refine qs_ 3 rfl<|hx_ fun hx9 =>v_ rfl (k_ (C := .agg l.abs) (x_ tabOk rfl rfl rfl l2_ List.not_mem_nil (Nat.le_of_ble_eq_true rfl)) rfl) hx9 rfl rfl<|v_ rfl (k_ (C := .agg (ltrA (nextL x e.core))) (x_ tabOk rfl rfl rfl l0_ List.not_mem_nil (Nat.le_of_ble_eq_true rfl)) rfl) hx9 rfl rfl<|ba_ ?_ ?_
 ·skip
  refine Q_ rfl (fu_ (x := (nextL x e.core)) hf) (by simp [mids, It.mids]) Casts.refl (by kernel_rfl) rfl rfl rfl ?_
  refine ap_<|fun _=>qs_ 3 rfl<|bo_ tabOk rfl rfl rfl rfl fun b6 =>ex_ rfl (m_ (L' := (l.with_ (nextL x e.core)).1.abs) tabOk rfl rfl rfl u0_ rfl (Nat.le_of_ble_eq_true rfl) rfl (by exact s_ rfl)) (by simp) rfl rfl ?_
  refine hx_ fun hx9 =>qx_ 1 hx9 rfl<|R_<|b_<|d_<|d_<|a_<|q_ 2 rfl<|g_<|b_<|p_ rfl ?_ ?_
  ·intro hc44
   refine d_<|a_<|q_ 2 rfl<|g_<|b_<|l_<|h_ nofun ?_
   have hst := ce_ (l := l) hc29 hc44
   refine f_ (rs := [.tmp 2]) rfl (RV.tmp rfl RV.nil) (()) (by rw [hst]; repeat (first | exact List.nil_sublist _ | exact List.Sublist.refl _ | apply List.Sublist.cons_cons | apply List.Sublist.cons)) ?_
   rw [hst]; rfl
  intro hc44
  refine o_<|b_<|d_<|d_<|a_<|q_ 1 rfl<|c_ (k_ (C := int e.core.op) (i_ tabOk rfl rfl l2_ List.not_mem_nil rfl) rfl) rfl rfl<|q_ 1 rfl<|g_<|b_<|p_ rfl ?_ ?_
  rotate_left
  ·intro hc48
   refine o_<|b_<|d_<|a_<|q_ 1 rfl<|c_ (k_ (C := .agg (Lg.abs (l.with_ (nextL x e.core)).1)) (x_ tabOk rfl rfl rfl l0_ List.not_mem_nil (Nat.le_of_ble_eq_true rfl)) rfl) rfl rfl<|q_ 2 rfl<|e_ (m_ (L' := dgA (l.with_ (nextL x e.core)).1 e n x) tabOk rfl rfl rfl u3_ rfl (Nat.le_of_ble_eq_true rfl) rfl rfl) rfl rfl<|g_<|b_<|d_<|a_<|q_ 1 rfl<|g_<|b_<|l_ ?_
   have hst := cd_ (l := l) hc29 hc44 hc48
   refine f_ (rs := [.tmp 2]) rfl (RV.tmp rfl RV.nil) (()) (by rw [hst]; repeat (first | exact List.nil_sublist _ | exact List.Sublist.refl _ | apply List.Sublist.cons_cons | apply List.Sublist.cons)) ?_
   rw [hst]; rfl
  intro hc48
  refine d_<|a_<|q_ 1 rfl<|c_ (k_ (C := int l.total) (i_ tabOk rfl rfl l0_ List.not_mem_nil rfl) (congrArg int (ct_ hc44))) rfl rfl<|q_ 1 rfl<|c_ (k_ (C := int (nextL x e.core).amount) (i_ tabOk rfl rfl l1_ List.not_mem_nil rfl) rfl) rfl rfl<|r_ (hX_ (a := l.total) (b := (nextL x e.core).amount) hl.total hsw.amount) Casts.refl (by kernel_rfl) rfl rfl rfl ?_
  refine ap_<|fun _=>q_ 4 rfl<|e_ (m_ (L' := Lg.abs { (l.with_ (nextL x e.core)).1 with total := (amtAdd l.total (nextL x e.core).amount).1 }) tabOk rfl rfl rfl u0_ rfl (Nat.le_of_ble_eq_true rfl) rfl rfl) rfl rfl<|q_ 1 rfl<|g_<|b_<|d_<|a_<|q_ 2 rfl<|g_<|b_<|p_ rfl ?_ ?_
  ·intro hc59
   refine d_<|a_<|q_ 1 rfl<|g_<|b_<|l_<|h_ nofun ?_
   have hst := cc_ (l := l) hc29 hc44 hc48 hc59
   refine f_ (rs := [.tmp 2]) rfl (RV.tmp rfl RV.nil) (()) (by rw [hst]; repeat (first | exact List.nil_sublist _ | exact List.Sublist.refl _ | apply List.Sublist.cons_cons | apply List.Sublist.cons)) ?_
   rw [hst]; rfl
  intro hc59
  refine o_<|b_<|d_<|a_<|q_ 1 rfl<|c_ (k_ (C := .agg (Lg.abs { (l.with_ (nextL x e.core)).1 with total := (amtAdd l.total (nextL x e.core).amount).1 })) (x_ tabOk rfl rfl rfl l0_ List.not_mem_nil (Nat.le_of_ble_eq_true rfl)) rfl) rfl rfl<|q_ 2 rfl<|e_ (m_ (L' := dgA { (l.with_ (nextL x e.core)).1 with total := (amtAdd l.total (nextL x e.core).amount).1 } e n x) tabOk rfl rfl rfl u3_ rfl (Nat.le_of_ble_eq_true rfl) rfl rfl) rfl rfl<|g_<|b_<|d_<|a_<|q_ 1 rfl<|g_<|b_<|l_ ?_
  have hst := cb_ (l := l) hc29 hc44 hc48 hc59
  refine f_ (rs := [.tmp 2]) rfl (RV.tmp rfl RV.nil) (()) (by rw [hst]; repeat (first | exact List.nil_sublist _ | exact List.Sublist.refl _ | apply List.Sublist.cons_cons | apply List.Sublist.cons)) ?_
  rw [hst]; rfl
 skip
 refine bo_ tabOk rfl rfl rfl rfl fun b6 =>Q_ rfl (fu_ (x := (nextL x e.core)) hf) (by simp [mids, It.mids]) Casts.refl (by kernel_rfl) rfl rfl rfl ?_
 refine ap_<|fun _=>hx_ fun hx9 =>qx_ 3 hx9 rfl<|ex_ rfl (m_ (L' := (l.with_ (nextL x e.core)).1.abs) tabOk rfl rfl rfl u0_ rfl (Nat.le_of_ble_eq_true rfl) rfl (by exact s_ rfl)) (by simp) rfl rfl ?_
 refine hx_ fun hx9 =>qx_ 1 hx9 rfl<|R_<|b_<|d_<|d_<|a_<|q_ 2 rfl<|g_<|b_<|p_ rfl ?_ ?_
 ·intro hc44
  refine d_<|a_<|q_ 2 rfl<|g_<|b_<|l_<|h_ nofun ?_
  have hst := ce_ (l := l) hc29 hc44
  refine f_ (rs := [.tmp 2]) rfl (RV.tmp rfl RV.nil) (()) (by rw [hst]; repeat (first | exact List.nil_sublist _ | exact List.Sublist.refl _ | apply List.Sublist.cons_cons | apply List.Sublist.cons)) ?_
  rw [hst]; rfl
 intro hc44
 refine o_<|b_<|d_<|d_<|a_<|q_ 1 rfl<|c_ (k_ (C := int e.core.op) (i_ tabOk rfl rfl l2_ List.not_mem_nil rfl) rfl) rfl rfl<|q_ 1 rfl<|g_<|b_<|p_ rfl ?_ ?_
 rotate_left
 ·intro hc48
  refine o_<|b_<|d_<|a_<|q_ 1 rfl<|c_ (k_ (C := .agg (Lg.abs (l.with_ (nextL x e.core)).1)) (x_ tabOk rfl rfl rfl l0_ List.not_mem_nil (Nat.le_of_ble_eq_true rfl)) rfl) rfl rfl<|q_ 2 rfl<|e_ (m_ (L' := dgA (l.with_ (nextL x e.core)).1 e n x) tabOk rfl rfl rfl u3_ rfl (Nat.le_of_ble_eq_true rfl) rfl rfl) rfl rfl<|g_<|b_<|d_<|a_<|q_ 1 rfl<|g_<|b_<|l_ ?_
  have hst := cd_ (l := l) hc29 hc44 hc48
  refine f_ (rs := [.tmp 2]) rfl (RV.tmp rfl RV.nil) (()) (by rw [hst]; repeat (first | exact List.nil_sublist _ | exact List.Sublist.refl _ | apply List.Sublist.cons_cons | apply List.Sublist.cons)) ?_
  rw [hst]; rfl
 intro hc48
 refine d_<|a_<|q_ 1 rfl<|c_ (k_ (C := int l.total) (i_ tabOk rfl rfl l0_ List.not_mem_nil rfl) (congrArg int (ct_ hc44))) rfl rfl<|q_ 1 rfl<|c_ (k_ (C := int (nextL x e.core).amount) (i_ tabOk rfl rfl l1_ List.not_mem_nil rfl) rfl) rfl rfl<|r_ (hX_ (a := l.total) (b := (nextL x e.core).amount) hl.total hsw.amount) Casts.refl (by kernel_rfl) rfl rfl rfl ?_
 refine ap_<|fun _=>q_ 4 rfl<|e_ (m_ (L' := Lg.abs { (l.with_ (nextL x e.core)).1 with total := (amtAdd l.total (nextL x e.core).amount).1 }) tabOk rfl rfl rfl u0_ rfl (Nat.le_of_ble_eq_true rfl) rfl rfl) rfl rfl<|q_ 1 rfl<|g_<|b_<|d_<|a_<|q_ 2 rfl<|g_<|b_<|p_ rfl ?_ ?_
 ·intro hc59
  refine d_<|a_<|q_ 1 rfl<|g_<|b_<|l_<|h_ nofun ?_
  have hst := cc_ (l := l) hc29 hc44 hc48 hc59
  refine f_ (rs := [.tmp 2]) rfl (RV.tmp rfl RV.nil) (()) (by rw [hst]; repeat (first | exact List.nil_sublist _ | exact List.Sublist.refl _ | apply List.Sublist.cons_cons | apply List.Sublist.cons)) ?_
  rw [hst]; rfl
 intro hc59
 refine o_<|b_<|d_<|a_<|q_ 1 rfl<|c_ (k_ (C := .agg (Lg.abs { (l.with_ (nextL x e.core)).1 with total := (amtAdd l.total (nextL x e.core).amount).1 })) (x_ tabOk rfl rfl rfl l0_ List.not_mem_nil (Nat.le_of_ble_eq_true rfl)) rfl) rfl rfl<|q_ 2 rfl<|e_ (m_ (L' := dgA { (l.with_ (nextL x e.core)).1 with total := (amtAdd l.total (nextL x e.core).amount).1 } e n x) tabOk rfl rfl rfl u3_ rfl (Nat.le_of_ble_eq_true rfl) rfl rfl) rfl rfl<|g_<|b_<|d_<|a_<|q_ 1 rfl<|g_<|b_<|l_ ?_
 have hst := cb_ (l := l) hc29 hc44 hc48 hc59
 refine f_ (rs := [.tmp 2]) rfl (RV.tmp rfl RV.nil) (()) (by rw [hst]; repeat (first | exact List.nil_sublist _ | exact List.Sublist.refl _ | apply List.Sublist.cons_cons | apply List.Sublist.cons)) ?_
 rw [hst]; rfl
end
def fnAt : Nat → Nat
  | 0 => 68
  | 1 => 69
  | _ => 70
theorem fn_goes (z : Nat) : goesIn Tryz.prog (fnAt z) = true := by
  rcases z with _ | _ | z
  · kernel_rfl
  · kernel_rfl
  · kernel_rfl
abbrev fnRow (d : Nat) : List (List Abs) := [[.fn (.func 68) [ptr d] []], [.fn (.func 69) [ptr d] []], [.fn (.func 70) [ptr d] []]]
theorem fn_row {d z : Nat} (hz : z < 3) : (fnRow d)[z]? = some [.fn (.func (fnAt z)) [ptr d] []] := by
  rcases (by omega : z = 0 ∨ z = 1 ∨ z = 2) with rfl | rfl | rfl <;> rfl
theorem Lg.Few.more {l l2 : Lg} (h : l.ls.length ≤ 900 ∧ l.os.length ≤ 900) (h1 : l2.ls.length ≤ l.ls.length + 1) (h2 : l2.os = l.os) : l2.Few := ⟨by omega, by rw [h2]; omega⟩
section
variable {l : Lg} {x : Ltr} {n : Int} {e : Ent} {d : Nat} {es er : Value}
theorem dstep_s (he : isIf es) (hr : isIf er) (hm : e.mask < 4294967296) (hf : l.Few) (hl : l.Wf) (ha : i64ok e.core.a) (ht : e.core.text.size ≤ 9223372036854775807) {z : Nat} (hz : z < 3) :
    Spec Tryz.prog (fnAt z) [ptr d] (.blk d 112 (dgA (lgAt l e z) e n (oldAt l e z)) :: (globs es er)) (fun _ : Unit => [.blk d 112 (dgA (lgAt l e (z + 1)) e n (oldAt l e (z + 1)))]) (fun _ => int (erAt l e n z)) := by
  rcases (by omega : z = 0 ∨ z = 1 ∨ z = 2) with rfl | rfl | rfl
  · exact known_s hf
  · exact iJ_ he hr hm
  · exact je_ hf hl (Lg.old_wf hl _) ha ht
set_option maxHeartbeats 2000000 in
theorem do_s (he : isIf es) (hr : isIf er) (hm : e.mask < 4294967296) (hq : l.ls.length ≤ 900 ∧ l.os.length ≤ 900) (hl : l.Wf) (ha : i64ok e.core.a) (ht : e.core.text.size ≤ 9223372036854775807) : Spec Tryz.prog 45 [.agg l.abs, .agg (entA e), int n] (globs es er) (fun _ : Unit => []) (fun _ => .tup [.agg (l.doF e n).1.abs, int (l.doF e n).2]) := by
 have hf : l.Few := ⟨by omega, by omega⟩
 have hrl := fl_ (l := l) (e := e) (n := n)
 have hf2 : (l.res e n).1.Few := Lg.Few.more hq hrl.1 hrl.2
 refine C_ Tryz.func45 rfl Tryz.ntmps45 rfl fun G w =>d_<|a_<|eb_ (L_ (cs := l.abs) rfl) rfl rfl fun b3=>?_
 refine eb_ (L_ (cs := entA e) rfl) rfl rfl fun b4=>?_
 refine eb_ (B_ tabOk rfl) rfl rfl fun b6=>?_
 refine q_ 1 rfl<|g_<|b_<|d_<|ij_ 7 [] (.q 0 (.q 1 (.q 3 (.q 4 (.e 2 (.q 6 (.e 5 .nil))))))) (.e 7 (.q 8 (.e 9 .nil))) (by kernel_rfl) (by kernel_rfl) ?_
 refine qs_ 1 rfl<|hx_ fun hx9 =>v_ rfl (k_ (C := ltrsA l.ls) (i_ tabOk rfl rfl l2_ List.not_mem_nil rfl) rfl) hx9 rfl rfl<|qs_ 1 rfl<|v_ rfl (k_ (C := .sl 3 (l.os.map Oc.abs)) (i_ tabOk rfl rfl l2_ List.not_mem_nil rfl) rfl) hx9 rfl rfl<|Q_ rfl (bH_ (bF_ l.ls) (by rw [List.length_map]; omega)) (by simp [mids, It.mids]) Casts.refl (by kernel_rfl) rfl rfl rfl ?_
 refine ap_<|fun _=>qs_ 1 rfl<|Q_ rfl (bY_ (b4_ l.os) (by rw [List.length_map]; omega)) (by simp [mids, It.mids]) Casts.refl (by kernel_rfl) rfl rfl rfl ?_
 refine ap_<|fun _=>R_<|kB_ [b3]<|ex_ rfl (m_ (L' := l.abs) tabOk rfl rfl rfl u2_ rfl (Nat.le_of_ble_eq_true rfl) rfl rfl) (by simp) rfl rfl ?_
 refine hx_ fun hx9 =>qx_ 1 hx9 rfl<|ex_ rfl (m_ (L' := l.abs) tabOk rfl rfl rfl u2_ rfl (Nat.le_of_ble_eq_true rfl) rfl rfl) (by simp) rfl rfl ?_
 refine R_<|b_<|d_<|d_<|a_<|c_ (k_ (C := .agg l.abs) (x_ tabOk rfl rfl rfl l2_ List.not_mem_nil (Nat.le_of_ble_eq_true rfl)) rfl) rfl rfl<|q_ 1 rfl<|c_ (k_ (C := coreA e.core) (x_ tabOk rfl rfl rfl l1_ List.not_mem_nil (Nat.le_of_ble_eq_true rfl)) rfl) rfl rfl<|r_ (lstale_s (c := e.core) hf) Casts.refl (by kernel_rfl) rfl rfl rfl ?_
 refine ap_<|fun _=>g_<|b_<|S_ rfl ?_ ?_
 ·intro hc24
  refine d_<|a_<|c_ (k_ (C := .agg l.abs) (x_ tabOk rfl rfl rfl l2_ List.not_mem_nil (Nat.le_of_ble_eq_true rfl)) rfl) rfl rfl<|e_ (m_ (L' := l.abs) tabOk rfl rfl rfl u0_ rfl (Nat.le_of_ble_eq_true rfl) rfl (by exact s_ rfl)) rfl rfl ?_
  refine q_ 1 rfl<|g_<|b_<|l_<|h_ nofun<|f_ (rs := [.cell 6 30, .tmp 7]) rfl (RV.cell rfl (RV.cellA tabOk rfl rfl l0_ (by rfl)) (RV.tmp rfl RV.nil)) (()) sn_ ?_
  unfold Lg.doF
  rw [if_pos hc24]
  rfl
 intro hc24
 refine o_<|b_<|d_<|d_<|a_<|q_ 1 rfl<|c_ (k_ (C := coreA e.core) (x_ tabOk rfl rfl rfl l1_ List.not_mem_nil (Nat.le_of_ble_eq_true rfl)) rfl) rfl rfl<|q_ 1 rfl<|r_ (ccheck_s (c := e.core) (n := n)) Casts.refl (by kernel_rfl) rfl rfl rfl ?_
 refine ap_<|fun _=>q_ 1 rfl<|g_<|b_<|d_<|a_<|q_ 2 rfl<|g_<|b_<|p_ rfl ?_ ?_
 ·intro hc31
  refine d_<|a_<|c_ (k_ (C := .agg l.abs) (x_ tabOk rfl rfl rfl l2_ List.not_mem_nil (Nat.le_of_ble_eq_true rfl)) rfl) rfl rfl<|q_ 1 rfl<|e_ (m_ (L' := l.abs) tabOk rfl rfl rfl u0_ rfl (Nat.le_of_ble_eq_true rfl) rfl (by exact s_ rfl)) rfl rfl ?_
  refine q_ 1 rfl<|g_<|b_<|l_<|h_ nofun<|f_ (rs := [.cell 6 30, .tmp 7]) rfl (RV.cell rfl (RV.cellA tabOk rfl rfl l0_ (by rfl)) (RV.tmp rfl RV.nil)) (()) sn_ ?_
  unfold Lg.doF
  rw [if_neg (by rw [hc24]; decide), if_pos hc31]
  rfl
 intro hc31
 refine o_<|b_<|d_<|a_<|c_ (k_ (C := .agg l.abs) (x_ tabOk rfl rfl rfl l2_ List.not_mem_nil (Nat.le_of_ble_eq_true rfl)) rfl) rfl rfl<|c_ (k_ (C := .agg (entA e)) (x_ tabOk rfl rfl rfl l1_ List.not_mem_nil (Nat.le_of_ble_eq_true rfl)) rfl) rfl rfl<|q_ 1 rfl<|c_ (I_ (L := dgA l e n Ltr.none) tabOk rfl rfl rfl rfl) rfl rfl<|eb_ (L_ rfl) rfl rfl fun b38=>?_
 refine q_ 1 rfl<|g_<|b_<|d_<|a_<|q_ 1 rfl<|g_<|b_<|a8_ (ι := Ltr) (fun z => (.blk b38 112 (dgA (l.res e n).1 e n z) :: .blk b6 30 (zabs [.int .i64 0, .int .i64 0, .slice none 0 0, .slice none 0 0]) :: .blk b4 66 (entA e) :: (globs es er))) (fun z => [(4, ptr b4), (6, ptr b6), (9, ptr b38), (10, int (l.res e n).2)]) (fun z => True) ?_ ?_
 ·skip
  refine d_<|a_<|q_ 1 rfl<|c_ (ar_ rfl rfl) rfl rfl<|q_ 1 rfl<|c_ (ar_ rfl rfl) rfl rfl<|q_ 1 rfl<|c_ (ar_ rfl rfl) rfl rfl<|e_ (Z_ tabOk Tryz.underlying113 rfl rfl rfl rfl rfl rfl rfl) rfl rfl<|c_ (k_ (C := int 3) (E_ rfl Tryz.underlying113 rfl) rfl) rfl rfl<|q_ 1 rfl<|g_<|b_<|w_<|aa_ (ι := Nat) (fun z => (.blk b38 112 (dgA (lgAt l e z) e n (oldAt l e z)) :: .blk b6 30 (zabs [.int .i64 0, .int .i64 0, .slice none 0 0, .slice none 0 0]) :: .blk b4 66 (entA e) :: (globs es er))) (fun z => [(4, ptr b4), (6, ptr b6), (9, ptr b38), (10, int 0), (45, .sl 1 (fnRow b38)), (46, int 3), (47, int (z : Nat))]) (fun z => z ≤ 3 ∧ ∀ j, j < z → erAt l e n j = 0) (fun z => 3 - z) (0) (⟨by omega, fun j hj => by omega⟩) (by exact ⟨rfl, rfl, rfl, rfl, rfl, rfl, rfl, trivial⟩) (sc_ (sc_ (sc_ (sk_ sr_)))) ?_
  intro z hz
  refine d_<|a_<|q_ 1 rfl<|g_<|b_<|d_<|p_ rfl ?_ ?_
  rotate_left
  ·intro hc48
   refine X_<|h_ nofun<|h_ nofun<|W_ ?_
   obtain rfl : z = 3 := by omega
   have hst := res_end (l := l) (e := e) (n := n) hz.2
   refine ad_ (oldAt l e 3) (trivial) (by exact ⟨rfl, rfl, rfl, congrArg (fun k => some (int k)) (congrArg Prod.snd hst).symm, trivial⟩) (by rw [hst]; repeat (first | exact List.nil_sublist _ | exact List.Sublist.refl _ | apply List.Sublist.cons_cons | apply List.Sublist.cons))
  intro hc48
  have hz3 : z < 3 := by omega
  refine o_<|b_<|d_<|w_<|d_<|a_<|c_ (H_ (q := z) tabOk Tryz.underlying113 rfl rfl rfl rfl (fn_row hz3) rfl rfl) rfl rfl<|c_ (bs_ tabOk rfl rfl rfl) rfl rfl<|q_ 1 rfl<|g_<|b_<|d_<|a_<|q_ 1 rfl<|bx_ (dstep_s (l := l) (e := e) (n := n) he hr hm hf hl ha ht hz3) rfl Casts.refl (fn_goes z) rfl rfl rfl<|aO_ (ys := (globs es er)) rfl i0_ (by intro y hy; simp only [globs, List.mem_cons, List.not_mem_nil, or_false] at hy; rcases hy with rfl | rfl | rfl <;> exact ⟨by repeat first|assumption|exact m0_|apply m1_, by intro h; cases h⟩) rfl (fun _ => rfl) ?_
  intro _
  refine ⟨_, u0_, q_ 1 rfl<|g_<|b_<|d_<|a_<|q_ 2 rfl<|g_<|b_<|p_ rfl ?_ ?_⟩
  ·intro hc54
   refine X_<|dj_ rfl<|h_ nofun<|h_ nofun<|W_ ?_
   have hst := res_stop (l := l) (n := n) hz3 hz.2 hc54
   rw [jM_ hz3 hc54]
   refine ad_ (oldAt l e (z + 1)) (trivial) (by exact ⟨rfl, rfl, rfl, congrArg (fun k => some (int k)) (congrArg Prod.snd hst).symm, trivial⟩) (by rw [hst]; repeat (first | exact List.nil_sublist _ | exact List.Sublist.refl _ | apply List.Sublist.cons_cons | apply List.Sublist.cons))
  intro hc54
  refine o_<|u_<|b_<|a_<|c_ (y_ rfl rfl (by simp only [InR, lo, hi]; omega)) rfl rfl ?_
  refine q_ 1 rfl<|g_ ?_
  have her : erAt l e n z = 0 := Classical.byContradiction hc54
  refine D_ (z + 1) (by omega) (⟨by omega, fun j hj => by rcases Nat.lt_or_ge j z with h1 | h1; exact hz.2 j h1; obtain rfl : j = z := (by omega); exact her⟩) (by exact ⟨rfl, rfl, rfl, congrArg (fun k => some (int k)) her, rfl, rfl, rfl, trivial⟩) sr_
 intro z hz
 refine d_<|SC.known (p := b38 ∉ [b6] ∧ b4 ∉ [b6]) (fun _ _ h => by
   have h1 := h.mem.nodup
   simp [mids, It.mids] at h1 ⊢
   grind) fun hX => ?_
 refine Y_ [b6] (.q 0 (.q 1 (.q 2 (.q 3 (.q 4 (.q 5 (.q 6 (.q 7 (.q 8 (.q 9 (.q 10 (.q 11 (.q 13 (.e 12 (.e 14 (.q 15 .nil)))))))))))))))) (by kernel_rfl) (by kernel_rfl) ?_
 refine hx_ fun hx9 =>qx_ 3 hx9 rfl<|v_ rfl (k_ (C := .agg (l.res e n).1.abs) (x_ tabOk rfl rfl rfl l0_ (by exact hX.1) (Nat.le_of_ble_eq_true rfl)) rfl) hx9 rfl rfl ?_
 refine qx_ 2 hx9 rfl<|v_ rfl (k_ (C := int e.core.client) (i_ tabOk rfl rfl l2_ (by exact hX.2) rfl) rfl) hx9 rfl rfl ?_
 refine qx_ 2 hx9 rfl<|v_ rfl (k_ (C := int e.core.stamp) (i_ tabOk rfl rfl l2_ (by exact hX.2) rfl) rfl) hx9 rfl rfl ?_
 refine qx_ 1 hx9 rfl<|v_ rfl (I_ (L := Oc.abs ⟨e.core.client, e.core.stamp, (l.res e n).2⟩) tabOk rfl rfl rfl rfl) hx9 rfl rfl<|qx_ 1 hx9 rfl<|Q_ rfl (ltold_s (l := (l.res e n).1) (o := ⟨e.core.client, e.core.stamp, (l.res e n).2⟩) hf2) (by simp [mids, It.mids]) Casts.refl (by kernel_rfl) rfl rfl rfl ?_
 refine ap_<|fun _=>ex_ rfl (m_ (L' := ((l.res e n).1.told ⟨e.core.client, e.core.stamp, (l.res e n).2⟩).abs) tabOk rfl rfl rfl u1_ rfl (Nat.le_of_ble_eq_true rfl) rfl (by exact s_ rfl)) (by simp) rfl rfl ?_
 refine hx_ fun hx9 =>qx_ 1 hx9 rfl<|R_<|b_<|l_<|f_ (rs := [.cell 6 30, .tmp 7]) rfl (RV.cell rfl (RV.cellA tabOk rfl rfl l1_ (by rfl)) (RV.tmp rfl RV.nil)) (()) sn_ ?_
 unfold Lg.doF
 rw [if_neg (by rw [hc24]; decide), if_neg hc31]
 rfl
end
theorem boo_dec {p : Prop} [Decidable p] (h : p) : retA [boo true] = boo (decide p) := by rw [decide_eq_true h]; rfl
theorem U_ {p : Prop} [Decidable p] (h : ¬ p) : retA [boo false] = boo (decide p) := by rw [decide_eq_false h]; rfl
section
variable {l a b : Lg} {x : Ltr} {o : Oc} {k n : Int} {s : ByteArray} {c : Core} {e : Ent} {p : Nat} {es : List Ent}
set_option maxHeartbeats 2000000 in
theorem lsame_s (ha : a.Ins) (hb : b.Ins) : Spec Tryz.prog 17 [.agg a.abs, .agg b.abs] [] (fun _ : Unit => []) (fun _ => boo (decide (a = b))) := by
 refine C_ Tryz.func17 rfl Tryz.ntmps17 rfl fun G w =>d_<|a_<|eb_ (L_ (cs := a.abs) rfl) rfl rfl fun b2=>?_
 refine eb_ (L_ (cs := b.abs) rfl) rfl rfl fun b3=>?_
 refine q_ 1 rfl<|g_<|b_<|d_<|d_<|a_<|q_ 1 rfl<|c_ (k_ (C := int a.seq) (i_ tabOk rfl rfl l1_ List.not_mem_nil rfl) rfl) rfl rfl<|q_ 1 rfl<|c_ (k_ (C := int b.seq) (i_ tabOk rfl rfl l0_ List.not_mem_nil rfl) rfl) rfl rfl<|q_ 2 rfl<|z_ (t := 12) rfl ?_ ?_
 ·intro hc12
  refine q_ 24 rfl<|g_<|b_<|K_ rfl<|d_<|a_<|q_ 1 rfl<|g_<|b_<|l_<|h_ nofun<|f_ (rs := [.tmp 4]) rfl (RV.tmp rfl RV.nil) (()) sn_<|U_ fun he => ?_
  subst he
  exact absurd rfl (by assumption)
 intro hc12
 refine q_ 1 rfl<|c_ (k_ (C := int a.total) (i_ tabOk rfl rfl l1_ List.not_mem_nil rfl) rfl) rfl rfl<|q_ 1 rfl<|c_ (k_ (C := int b.total) (i_ tabOk rfl rfl l0_ List.not_mem_nil rfl) rfl) rfl rfl<|q_ 3 rfl<|z_ (t := 19) rfl ?_ ?_
 ·intro hc19
  refine q_ 17 rfl<|g_<|b_<|K_ rfl<|d_<|a_<|q_ 1 rfl<|g_<|b_<|l_<|h_ nofun<|f_ (rs := [.tmp 4]) rfl (RV.tmp rfl RV.nil) (()) sn_<|U_ fun he => ?_
  subst he
  exact absurd rfl (by assumption)
 intro hc19
 refine q_ 1 rfl<|c_ (k_ (C := .sl 6 (a.ls.map ltrA)) (i_ tabOk rfl rfl l1_ List.not_mem_nil rfl) rfl) rfl rfl<|c_ (E_ rfl Tryz.underlying27 (List.length_map _)) rfl rfl<|q_ 1 rfl<|c_ (k_ (C := .sl 6 (b.ls.map ltrA)) (i_ tabOk rfl rfl l0_ List.not_mem_nil rfl) rfl) rfl rfl<|c_ (E_ rfl Tryz.underlying27 (List.length_map _)) rfl rfl<|q_ 3 rfl<|z_ (t := 28) rfl ?_ ?_
 ·intro hc28
  refine q_ 8 rfl<|g_<|b_<|K_ rfl<|d_<|a_<|q_ 1 rfl<|g_<|b_<|l_<|h_ nofun<|f_ (rs := [.tmp 4]) rfl (RV.tmp rfl RV.nil) (()) sn_<|U_ fun he => ?_
  subst he
  exact absurd rfl (by assumption)
 intro hc28
 refine q_ 1 rfl<|c_ (k_ (C := .sl 3 (a.os.map Oc.abs)) (i_ tabOk rfl rfl l1_ List.not_mem_nil rfl) rfl) rfl rfl<|c_ (E_ rfl Tryz.underlying28 (List.length_map _)) rfl rfl<|q_ 1 rfl<|c_ (k_ (C := .sl 3 (b.os.map Oc.abs)) (i_ tabOk rfl rfl l0_ List.not_mem_nil rfl) rfl) rfl rfl<|c_ (E_ rfl Tryz.underlying28 (List.length_map _)) rfl rfl<|q_ 2 rfl<|g_<|b_<|p_ rfl ?_ ?_
 ·intro hc36
  refine d_<|a_<|q_ 1 rfl<|g_<|b_<|l_<|h_ nofun<|f_ (rs := [.tmp 4]) rfl (RV.tmp rfl RV.nil) (()) sn_<|U_ fun he => ?_
  subst he
  exact absurd rfl (by assumption)
 intro hc36
 refine o_<|b_<|a8_ (ι := Unit) (fun z => [.blk b3 30 b.abs, .blk b2 30 a.abs]) (fun z => [(2, ptr b2), (3, ptr b3)]) (fun z => a.ls = b.ls) ?_ ?_
 ·skip
  refine d_<|a_<|q_ 1 rfl<|c_ (k_ (C := .sl 6 (a.ls.map ltrA)) (i_ tabOk rfl rfl l1_ List.not_mem_nil rfl) rfl) rfl rfl<|c_ (E_ rfl Tryz.underlying27 (List.length_map _)) rfl rfl<|q_ 1 rfl<|g_<|b_<|w_<|bp_ (i := 38) rfl fun hrow => ?_
  rw [List.length_map] at hrow
  unfold maxLen at hrow
  refine aa_ (ι := Nat) (fun z => [.blk b3 30 b.abs, .blk b2 30 a.abs]) (fun z => [(2, ptr b2), (3, ptr b3), (39, int (a.ls.length : Nat)), (40, int (z : Nat))]) (fun z => z ≤ a.ls.length ∧ ∀ j (h1 : j < a.ls.length) (h2 : j < b.ls.length), j < z → a.ls[j] = b.ls[j]) (fun z => a.ls.length - z) (0) (⟨Nat.zero_le _, fun j h1 h2 h => by omega⟩) (by exact ⟨rfl, rfl, rfl, rfl, trivial⟩) sr_ ?_
  intro z hz
  refine d_<|a_<|q_ 1 rfl<|g_<|b_<|d_<|p_ rfl ?_ ?_
  rotate_left
  ·intro hc41
   refine X_<|h_ nofun<|h_ nofun<|W_<|ad_ (()) (List.ext_getElem (by omega) fun j h1 h2 => hz.2 j h1 h2 (by omega)) (by exact ⟨rfl, rfl, trivial⟩) sr_
  intro hc41
  have hlt : z < a.ls.length := by omega
  have hlt2 : z < b.ls.length := by omega
  refine o_<|b_<|d_<|w_<|d_<|a_<|q_ 2 rfl<|g_<|b_<|d_<|Y_ [] (.q 0 (.q 1 (.q 2 (.q 3 (.q 4 (.q 5 (.q 6 (.q 7 (.q 8 (.q 9 (.q 10 .nil))))))))))) (by kernel_rfl) (by kernel_rfl) ?_
  refine qs_ 1 rfl<|hx_ fun hx9 =>v_ rfl (k_ (C := .sl 6 (a.ls.map ltrA)) (i_ tabOk rfl rfl l1_ List.not_mem_nil rfl) rfl) hx9 rfl rfl<|qs_ 1 rfl<|v_ rfl (H_ (q := z) tabOk Tryz.underlying27 rfl rfl rfl rfl (aw_ hlt) rfl rfl) hx9 rfl rfl<|v_ rfl (T_ tabOk rfl rfl rfl rfl) hx9 rfl rfl<|qs_ 1 rfl<|v_ rfl (k_ (C := .sl 6 (b.ls.map ltrA)) (i_ tabOk rfl rfl l0_ List.not_mem_nil rfl) rfl) hx9 rfl rfl<|qs_ 1 rfl<|v_ rfl (H_ (q := z) tabOk Tryz.underlying27 rfl rfl rfl rfl (aw_ hlt2) rfl rfl) hx9 rfl rfl<|v_ rfl (T_ tabOk rfl rfl rfl rfl) hx9 rfl rfl<|v_ rfl (hy_ rfl rfl (eW_ _) (eW_ _) (by kernel_rfl) (neqLtr (ha.ls _ (List.getElem_mem hlt)) (hb.ls _ (List.getElem_mem hlt2)))) hx9 rfl rfl ?_
  refine R_<|b_<|p_ rfl ?_ ?_
  rotate_left
  ·intro hc53
   refine o_<|u_<|b_<|a_<|c_ (y_ rfl rfl (by simp only [InR, lo, hi]; omega)) rfl rfl ?_
   refine q_ 1 rfl<|g_ ?_
   have heq : a.ls[z]'hlt = b.ls[z]'hlt2 := Classical.byContradiction hc53
   refine D_ (z + 1) (by omega) (⟨by omega, fun j h1 h2 h => by rcases Nat.lt_or_ge j z with h3 | h3; exact hz.2 j h1 h2 h3; obtain rfl : j = z := (by omega); exact heq⟩) (by exact ⟨rfl, rfl, rfl, rfl, trivial⟩) sr_
  intro hc53
  refine d_<|a_<|q_ 1 rfl<|g_<|b_<|l_<|A_<|h_ nofun<|h_ nofun<|A_<|h_ nofun<|f_ (rs := [.tmp 4]) rfl (RV.tmp rfl RV.nil) (()) sn_<|U_ fun he => ?_
  subst he
  exact hc53 rfl
 intro z hz
 refine d_<|d_<|a_<|q_ 1 rfl<|c_ (k_ (C := .sl 3 (a.os.map Oc.abs)) (i_ tabOk rfl rfl l1_ List.not_mem_nil rfl) rfl) rfl rfl<|c_ (E_ rfl Tryz.underlying28 (List.length_map _)) rfl rfl<|q_ 1 rfl<|g_<|b_<|w_<|bp_ (i := 56) rfl fun hrow => ?_
 rw [List.length_map] at hrow
 unfold maxLen at hrow
 refine aa_ (ι := Nat) (fun z => [.blk b3 30 b.abs, .blk b2 30 a.abs]) (fun z => [(2, ptr b2), (3, ptr b3), (57, int (a.os.length : Nat)), (58, int (z : Nat))]) (fun z => z ≤ a.os.length ∧ ∀ j (h1 : j < a.os.length) (h2 : j < b.os.length), j < z → a.os[j] = b.os[j]) (fun z => a.os.length - z) (0) (⟨Nat.zero_le _, fun j h1 h2 h => by omega⟩) (by exact ⟨rfl, rfl, rfl, rfl, trivial⟩) sr_ ?_
 intro z hz
 refine d_<|a_<|q_ 1 rfl<|g_<|b_<|d_<|p_ rfl ?_ ?_
 rotate_left
 ·intro hc59
  refine X_<|h_ nofun<|h_ nofun<|W_<|b_<|d_<|a_<|q_ 1 rfl<|g_<|b_<|l_<|f_ (rs := [.tmp 4]) rfl (RV.tmp rfl RV.nil) (()) sn_<|boo_dec ?_
  have h2 : a.os = b.os := List.ext_getElem (by omega) fun j h1 h2 => hz.2 j h1 h2 (by omega)
  obtain ⟨a1, a2, a3, a4⟩ := a
  obtain ⟨b1, b2, b3, b4⟩ := b
  simp only [Lg.mk.injEq] at *
  exact ⟨by omega, by omega, by assumption, h2⟩
 intro hc59
 have hlt : z < a.os.length := by omega
 have hlt2 : z < b.os.length := by omega
 refine o_<|b_<|d_<|w_<|d_<|a_<|q_ 2 rfl<|g_<|b_<|d_<|Y_ [] (.q 0 (.q 1 (.q 2 (.q 3 (.q 4 (.q 5 (.q 6 (.q 7 (.q 8 (.q 9 (.q 10 .nil))))))))))) (by kernel_rfl) (by kernel_rfl) ?_
 refine qs_ 1 rfl<|hx_ fun hx9 =>v_ rfl (k_ (C := .sl 3 (a.os.map Oc.abs)) (i_ tabOk rfl rfl l1_ List.not_mem_nil rfl) rfl) hx9 rfl rfl<|qs_ 1 rfl<|v_ rfl (H_ (q := z) tabOk Tryz.underlying28 rfl rfl rfl rfl (aw_ hlt) rfl rfl) hx9 rfl rfl<|v_ rfl (T_ tabOk rfl rfl rfl rfl) hx9 rfl rfl<|qs_ 1 rfl<|v_ rfl (k_ (C := .sl 3 (b.os.map Oc.abs)) (i_ tabOk rfl rfl l0_ List.not_mem_nil rfl) rfl) hx9 rfl rfl<|qs_ 1 rfl<|v_ rfl (H_ (q := z) tabOk Tryz.underlying28 rfl rfl rfl rfl (aw_ hlt2) rfl rfl) hx9 rfl rfl<|v_ rfl (T_ tabOk rfl rfl rfl rfl) hx9 rfl rfl<|v_ rfl (hy_ rfl rfl (gf_ _) (gf_ _) (by kernel_rfl) (neqOc (ha.os _ (List.getElem_mem hlt)) (hb.os _ (List.getElem_mem hlt2)))) hx9 rfl rfl ?_
 refine R_<|b_<|p_ rfl ?_ ?_
 rotate_left
 ·intro hc71
  refine o_<|u_<|b_<|a_<|c_ (y_ rfl rfl (by simp only [InR, lo, hi]; omega)) rfl rfl ?_
  refine q_ 1 rfl<|g_ ?_
  have heq : a.os[z]'hlt = b.os[z]'hlt2 := Classical.byContradiction hc71
  refine D_ (z + 1) (by omega) (⟨by omega, fun j h1 h2 h => by rcases Nat.lt_or_ge j z with h3 | h3; exact hz.2 j h1 h2 h3; obtain rfl : j = z := (by omega); exact heq⟩) (by exact ⟨rfl, rfl, rfl, rfl, trivial⟩) sr_
 intro hc71
 refine d_<|a_<|q_ 1 rfl<|g_<|b_<|l_<|A_<|h_ nofun<|h_ nofun<|A_<|h_ nofun<|f_ (rs := [.tmp 4]) rfl (RV.tmp rfl RV.nil) (()) sn_<|U_ fun he => ?_
 subst he
 exact hc71 rfl
theorem jo_  : Spec Tryz.prog 87 [.agg l.abs, st s] [] (fun _ : Unit => []) (fun _ => .tup [.agg (ltrA ((l.find s).getD Ltr.none)), boo (l.find s).isSome]) := by
 refine C_ Tryz.func87 rfl Tryz.ntmps87 rfl fun G w =>d_<|a_<|eb_ (L_ (cs := l.abs) rfl) rfl rfl fun b2=>?_
 refine eb_ (B_ tabOk rfl) rfl rfl fun b4=>?_
 refine q_ 1 rfl<|g_<|b_<|d_<|d_<|a_<|q_ 1 rfl<|c_ (k_ (C := .sl 6 (l.ls.map ltrA)) (i_ tabOk rfl rfl l1_ List.not_mem_nil rfl) rfl) rfl rfl<|c_ (E_ rfl Tryz.underlying27 (List.length_map _)) rfl rfl<|q_ 1 rfl<|g_<|b_<|w_<|bp_ (i := 9) rfl fun hrow => ?_
 rw [List.length_map] at hrow
 unfold maxLen at hrow
 refine aa_ (ι := Nat) (fun z => [.blk b4 81 (ltrA Ltr.none)]) (fun z => [(1, st s), (4, ptr b4), (9, ltrsA l.ls), (10, int (l.ls.length : Nat)), (11, int (z : Nat))]) (fun z => z ≤ l.ls.length ∧ ∀ j (h : j < l.ls.length), j < z → ¬ l.ls[j].name = s) (fun z => l.ls.length - z) (0) (⟨Nat.zero_le _, fun j h h2 => by omega⟩) (by exact ⟨rfl, rfl, rfl, rfl, rfl, trivial⟩) (sc_ sn_) ?_
 intro z hz
 refine d_<|a_<|q_ 1 rfl<|g_<|b_<|d_<|p_ rfl ?_ ?_
 rotate_left
 ·intro hc12
  refine X_<|h_ nofun<|h_ nofun<|W_<|b_<|d_<|a_<|c_ (I_ tabOk rfl rfl rfl rfl) rfl rfl<|e_ (m_ (L' := ltrA Ltr.none) tabOk rfl rfl rfl u0_ rfl (Nat.le_of_ble_eq_true rfl) rfl (by exact s_ rfl)) rfl rfl ?_
  refine q_ 1 rfl<|g_<|b_<|l_ ?_
  have hfn : l.find s = none := by
   unfold Lg.find
   rw [List.find?_eq_none]
   intro y hy
   obtain ⟨j, hj, rfl⟩ := List.getElem_of_mem hy
   simpa using hz.2 j hj (by omega)
  refine f_ (rs := [.cell 4 81, .tmp 5]) rfl (RV.cell rfl (RV.cellA tabOk rfl rfl l0_ (by rfl)) (RV.tmp rfl RV.nil)) (()) sn_ ?_
  rw [hfn]
  rfl
 intro hc12
 have hlt : z < l.ls.length := by omega
 refine o_<|b_<|d_<|w_<|d_<|a_<|c_ (H_ tabOk Tryz.underlying27 rfl rfl rfl rfl (aw_ (by omega)) rfl rfl) rfl rfl ?_
 refine c_ (T_ tabOk rfl rfl rfl rfl) rfl rfl<|eb_ (B_ tabOk rfl) rfl rfl fun b7=>?_
 refine e_ (m_ (L' := ltrA (l.ls[z]'hlt)) tabOk rfl rfl rfl u0_ rfl (Nat.le_of_ble_eq_true rfl) rfl (by exact s_ rfl)) rfl rfl ?_
 refine g_<|b_<|d_<|a_<|q_ 1 rfl<|c_ (k_ (C := st (l.ls[z]'hlt).name) (i_ tabOk rfl rfl l0_ List.not_mem_nil rfl) rfl) rfl rfl<|q_ 1 rfl<|c_ (cq_ rfl rfl) rfl rfl<|g_<|b_<|p_ rfl ?_ ?_
 rotate_left
 ·intro hc18
  refine o_<|u_<|b_<|a_<|c_ (y_ rfl rfl (by simp only [InR, lo, hi]; omega)) rfl rfl ?_
  refine q_ 1 rfl<|g_<|D_ (z + 1) (by omega) (⟨by omega, fun j h h2 => by rcases Nat.lt_or_ge j z with h3 | h3; exact hz.2 j h h3; obtain rfl : j = z := (by omega); exact hc18⟩) (by exact ⟨rfl, rfl, rfl, rfl, rfl, trivial⟩) (sk_ sr_)
 intro hc18
 refine d_<|a_<|c_ (P_ tabOk rfl rfl rfl l0_ List.not_mem_nil rfl) rfl rfl<|e_ (m_ (L' := ltrA (l.ls[z]'hlt)) tabOk rfl rfl rfl u1_ rfl (Nat.le_of_ble_eq_true rfl) rfl (by exact s_ rfl)) rfl rfl ?_
 refine q_ 1 rfl<|g_<|b_<|l_<|A_<|h_ nofun<|h_ nofun<|A_<|h_ nofun ?_
 have hfs : l.find s = some (l.ls[z]'hlt) := by
  unfold Lg.find
  rw [List.find?_eq_some_iff_getElem]
  exact ⟨decide_eq_true hc18, z, hlt, rfl, fun j hj => by simpa using hz.2 j (by omega) hj⟩
 refine f_ (rs := [.cell 4 81, .tmp 5]) rfl (RV.cell rfl (RV.cellA tabOk rfl rfl l1_ (by rfl)) (RV.tmp rfl RV.nil)) (()) sn_ ?_
 rw [hfs]
 rfl
end
end Go.Proofs.YtickdhjljpnlpaaGreatDoor.A
