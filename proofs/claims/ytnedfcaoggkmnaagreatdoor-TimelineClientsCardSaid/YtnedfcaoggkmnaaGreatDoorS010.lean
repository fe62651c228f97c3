/-
  Packed out of the texts: CO2, CO5, CT1, TM2.
-/
import Derived.Test.YtnedfcaoggkmnaaGreatDoorS09
/-
  Ledgers: what is found, and put in.
-/
set_option maxRecDepth 100000
set_option linter.unusedSimpArgs false
set_option linter.unusedVariables false
namespace Go.Proofs.YtnedfcaoggkmnaaGreatDoor.A
open Go.RowKit

def Oc.zero : Oc := ⟨0, 0, 0⟩
theorem place_find {α : Type} {eq gt : α → Bool} {xs : List α} (h : (placeG eq gt xs).2 = true) : ∃ h2 : (placeG eq gt xs).1 < xs.length, xs.find? eq = some (xs[(placeG eq gt xs).1]'h2) := by
  have ha : xs.any eq = true := by
    unfold placeG at h
    split at h
    · assumption
    · cases h
  have hp : placeG eq gt xs = (xs.findIdx eq, true) := if_pos ha
  refine ⟨by rw [hp]; exact findIdx_in ha, ?_⟩
  rw [find_at ha]
  simp only [hp]
theorem place_none {α : Type} {eq gt : α → Bool} {xs : List α} (h : ¬ (placeG eq gt xs).2 = true) : xs.find? eq = none := by
  refine find_none fun ha => h ?_
  unfold placeG
  rw [if_pos ha]
/-- Lists that are not too long. -/
structure Lg.Few (l : Lg) : Prop where
  ls : l.ls.length ≤ 1000
  os : l.os.length ≤ 1000
section
variable {l : Lg} {x : Ltr} {o : Oc} {k n : Int} {s : ByteArray} {c : Core} {e : Ent} {p : Nat}
theorem lcopied_s (hf : l.Few) : Spec Tryz.prog 75 [.agg l.abs] [] (fun _ : Unit => []) (fun _ => .agg l.abs) := by
  have hf1 := hf.ls
  have hf2 := hf.os
  refine spec_of Tryz.func75 rfl Tryz.ntmps75 rfl fun G w => ?_
  refine SC.seq (SC.region ?_)
  refine SL.eff (Eff.boxA (cs := l.abs) rfl) rfl rfl ?_
  rintro _ _ ⟨b1, rfl, rfl⟩
  refine SL.eff (Eff.alloc tabOk rfl) rfl rfl ?_
  rintro _ _ ⟨b2, rfl, rfl⟩
  refine SL.nil (SE.seq ?_)
  refine SC.seq ?_
  refine SC.drawS 7 [] (.q 0 (.q 1 (.q 3 (.q 4 (.e 2 (.q 6 (.e 5 .nil))))))) (.e 7 (.q 8 (.e 9 .nil))) (by kernel_rfl) (by kernel_rfl) ?_
  refine SX.val rfl (Val.fieldAddr tabOk rfl rfl rfl rfl rfl) (by simp) rfl rfl ?_
  refine SX.hx (by first|(simp[mids,It.mids,ownPc];done)|(intro k hk;simp[mids,It.mids,ownPc] at hk ⊢;grind)) fun hx9 => ?_
  refine SX.val rfl (Val.to (C := ltrsA l.ls) (Val.load1 tabOk rfl rfl (by first|(apply Or.inl;(repeat first|assumption|exact m0|apply m1);done)|(apply Or.inr;(repeat first|assumption|exact m0|apply m1);done)) List.not_mem_nil (by rfl)) rfl) hx9 rfl rfl ?_
  refine SX.val rfl (Val.fieldAddr tabOk rfl rfl rfl rfl rfl) (by simp) rfl rfl ?_
  refine SX.val rfl (Val.to (C := .sl 3 (l.os.map Oc.abs)) (Val.load1 tabOk rfl rfl (by first|(apply Or.inl;(repeat first|assumption|exact m0|apply m1);done)|(apply Or.inr;(repeat first|assumption|exact m0|apply m1);done)) List.not_mem_nil (by rfl)) rfl) hx9 rfl rfl ?_
  refine SX.call rfl (clone_ltr_s (ltrs_ones l.ls) (by rw [List.length_map]; omega)) (by simp [mids, It.mids]) Casts.refl (by kernel_rfl) rfl rfl rfl ?_
  refine After.pure (by repeat first|exact .nil|refine .blk (by repeat first|assumption|exact m0|apply m1) ?_|refine .rd (by repeat first|assumption|exact m0|apply m1) ?_|refine .pc (by repeat first|assumption|exact m0|apply m1) ?_|refine .rdpc (by repeat first|assumption|exact m0|apply m1) ?_) (fun _ => rfl) ?_
  intro _
  refine SX.val rfl (Val.fieldAddr tabOk rfl rfl rfl rfl rfl) (by simp) rfl rfl ?_
  refine SX.call rfl (clone_oc_s (ocs_ones l.os) (by rw [List.length_map]; omega)) (by simp [mids, It.mids]) Casts.refl (by kernel_rfl) rfl rfl rfl ?_
  refine After.pure (by repeat first|exact .nil|refine .blk (by repeat first|assumption|exact m0|apply m1) ?_|refine .rd (by repeat first|assumption|exact m0|apply m1) ?_|refine .pc (by repeat first|assumption|exact m0|apply m1) ?_|refine .rdpc (by repeat first|assumption|exact m0|apply m1) ?_) (fun _ => rfl) ?_
  intro _
  refine SX.nil ?_
  refine SE.rest [b1] ?_
  refine SX.eff rfl (Eff.store (L' := l.abs) tabOk rfl rfl rfl (by repeat first|assumption|exact Upd.here|apply Upd.there) rfl (Nat.le_of_ble_eq_true (by rfl)) rfl (by rfl)) (by simp) rfl rfl ?_
  rintro _ _ ⟨rfl, rfl⟩
  refine SX.hx (by first|(simp[mids,It.mids,ownPc];done)|(intro k hk;simp[mids,It.mids,ownPc] at hk ⊢;grind)) fun hx9 => ?_
  refine SX.val rfl (Val.fieldAddr tabOk rfl rfl rfl rfl rfl) hx9 rfl rfl ?_
  refine SX.eff rfl (Eff.store (L' := l.abs) tabOk rfl rfl rfl (by repeat first|assumption|exact Upd.here|apply Upd.there) rfl (Nat.le_of_ble_eq_true (by rfl)) rfl (by rfl)) (by simp) rfl rfl ?_
  rintro _ _ ⟨rfl, rfl⟩
  refine SX.nil (SE.seq ?_)
  refine SC.seq (SC.region ?_)
  first
    | refine SL.val (Val.loadA tabOk rfl rfl rfl (by first|(apply Or.inl;(repeat first|assumption|exact m0|apply m1);done)|(apply Or.inr;(repeat first|assumption|exact m0|apply m1);done)) List.not_mem_nil (by rfl)) rfl rfl ?_
    | refine SL.val (Val.loadP tabOk rfl rfl rfl (by first|(apply Or.inl;(repeat first|assumption|exact m0|apply m1);done)|(apply Or.inr;(repeat first|assumption|exact m0|apply m1);done)) List.not_mem_nil (Nat.le_of_ble_eq_true (by rfl))) rfl rfl ?_
  refine SL.eff (Eff.store (L' := l.abs) tabOk rfl rfl rfl (by repeat first|assumption|exact Upd.here|apply Upd.there) rfl (Nat.le_of_ble_eq_true (by rfl)) rfl (by exact putL_whole rfl)) rfl rfl ?_
  rintro _ _ ⟨rfl, rfl⟩
  refine SL.nil (SE.seq ?_)
  refine SC.ret ?_
  refine SE.fin (rs := [.cell 2 44]) rfl (RV.cell rfl (RV.cellA tabOk rfl rfl (by first|(apply Or.inl;(repeat first|assumption|exact m0|apply m1);done)|(apply Or.inr;(repeat first|assumption|exact m0|apply m1);done)) (by rfl)) RV.nil) (()) (by repeat first|exact s0 _|exact s1 _|apply s2|apply s3) (by simp [It.rids]) ?_
  exact rfl
theorem llast_s (hf : l.Few) : Spec Tryz.prog 68 [.agg l.abs, int k] [] (fun _ : Unit => []) (fun _ => .tup [.agg (Oc.abs ((l.last k).getD Oc.zero)), boo (l.last k).isSome]) := by
  have hf1 := hf.ls
  have hf2 := hf.os
  refine spec_of Tryz.func68 rfl Tryz.ntmps68 rfl fun G w => ?_
  refine SC.seq (SC.region ?_)
  refine SL.eff (Eff.boxA (cs := l.abs) rfl) rfl rfl ?_
  rintro _ _ ⟨b2, rfl, rfl⟩
  refine SL.eff (Eff.alloc tabOk rfl) rfl rfl ?_
  rintro _ _ ⟨b4, rfl, rfl⟩
  refine SL.val (Val.assign rfl) rfl rfl ?_
  refine SL.nil (SE.seq ?_)
  refine SC.seq (SC.region ?_)
  refine SL.val (Val.fieldAddr tabOk rfl rfl rfl rfl rfl) rfl rfl ?_
  refine SL.val (Val.to (C := .sl 3 (l.os.map Oc.abs)) (Val.load1 tabOk rfl rfl (by first|(apply Or.inl;(repeat first|assumption|exact m0|apply m1);done)|(apply Or.inr;(repeat first|assumption|exact m0|apply m1);done)) List.not_mem_nil (by rfl)) rfl) rfl rfl ?_
  refine SL.val (Val.move rfl) rfl rfl ?_
  refine SL.call (place_oc (xs := l.os) (k := k) (by omega)) Casts.refl (by kernel_rfl) rfl rfl rfl ?_
  refine After.pure (by repeat (first | exact Reads.nil | (refine Reads.blk ?_ ?_; focus ((repeat first|assumption|exact m0|apply m1); done)) | (refine Reads.rd ?_ ?_; focus ((repeat first|assumption|exact m0|apply m1); done)) | (refine Reads.pc ?_ ?_; focus ((repeat first|assumption|exact m0|apply m1); done)) | (refine Reads.rdpc ?_ ?_; focus ((repeat first|assumption|exact m0|apply m1); done)))) (fun _ => rfl) ?_
  intro _
  refine SL.val (Val.move rfl) rfl rfl ?_
  refine SL.val (Val.extract rfl rfl) rfl rfl ?_
  refine SL.val (Val.extract rfl rfl) rfl rfl ?_
  refine SL.val (Val.assign rfl) rfl rfl ?_
  refine SL.val (Val.assign rfl) rfl rfl ?_
  refine SL.nil (SE.seq ?_)
  refine SC.seq ?_
  refine SC.seq (SC.region ?_)
  refine SL.val (Val.move rfl) rfl rfl ?_
  refine SL.val (Val.notB rfl) rfl rfl ?_
  refine SL.nil (SE.seq ?_)
  refine SC.cond rfl ?_ ?_
  · intro hc16
    have hnp : ¬ (placeG (eqO k) (gtO k) l.os).2 = true := by simpa using hc16
    have hfn := place_none hnp
    refine SC.seq (SC.region ?_)
    refine SL.val (Val.buildS tabOk rfl rfl rfl rfl) rfl rfl ?_
    refine SL.eff (Eff.store (L' := Oc.abs Oc.zero) tabOk rfl rfl rfl (by repeat first|assumption|exact Upd.here|apply Upd.there) rfl (Nat.le_of_ble_eq_true (by rfl)) rfl (by exact putL_whole rfl)) rfl rfl ?_
    rintro _ _ ⟨rfl, rfl⟩
    refine SL.val (Val.assign rfl) rfl rfl ?_
    refine SL.nil (SE.seq ?_)
    refine SC.ret ?_
    refine SE.then_ (by intro h; cases h) ?_
    refine SE.fin (rs := [.cell 4 77, .tmp 5]) rfl (RV.cell rfl (RV.cellA tabOk rfl rfl (by first|(apply Or.inl;(repeat first|assumption|exact m0|apply m1);done)|(apply Or.inr;(repeat first|assumption|exact m0|apply m1);done)) (by rfl)) (RV.tmp rfl RV.nil)) (()) (by repeat first|exact s0 _|exact s1 _|apply s2|apply s3) (by simp [It.rids]) ?_
    unfold Lg.last
    rw [hfn]
    rfl
  intro hc16
  obtain ⟨hlt, hfs⟩ := place_find (show (placeG (eqO k) (gtO k) l.os).2 = true by simpa using hc16)
  refine SC.skip ?_
  refine SE.seq ?_
  refine SC.seq (SC.region ?_)
  refine SL.val (Val.fieldAddr tabOk rfl rfl rfl rfl rfl) rfl rfl ?_
  refine SL.val (Val.to (C := .sl 3 (l.os.map Oc.abs)) (Val.load1 tabOk rfl rfl (by first|(apply Or.inl;(repeat first|assumption|exact m0|apply m1);done)|(apply Or.inr;(repeat first|assumption|exact m0|apply m1);done)) List.not_mem_nil (by rfl)) rfl) rfl rfl ?_
  refine SL.val (Val.move rfl) rfl rfl ?_
  refine SL.val (Val.indexSl (q := (placeG (eqO k) (gtO k) l.os).1) tabOk Tryz.underlying42 rfl rfl rfl rfl (at_map hlt) rfl rfl) rfl rfl ?_
  refine SL.val (Val.loadAR tabOk rfl rfl rfl (by rfl)) rfl rfl ?_
  refine SL.eff (Eff.store (L' := Oc.abs (l.os[(placeG (eqO k) (gtO k) l.os).1]'hlt)) tabOk rfl rfl rfl (by repeat first|assumption|exact Upd.here|apply Upd.there) rfl (Nat.le_of_ble_eq_true (by rfl)) rfl (by exact putL_whole rfl)) rfl rfl ?_
  rintro _ _ ⟨rfl, rfl⟩
  refine SL.val (Val.assign rfl) rfl rfl ?_
  refine SL.nil (SE.seq ?_)
  refine SC.ret ?_
  refine SE.fin (rs := [.cell 4 77, .tmp 5]) rfl (RV.cell rfl (RV.cellA tabOk rfl rfl (by first|(apply Or.inl;(repeat first|assumption|exact m0|apply m1);done)|(apply Or.inr;(repeat first|assumption|exact m0|apply m1);done)) (by rfl)) (RV.tmp rfl RV.nil)) (()) (by repeat first|exact s0 _|exact s1 _|apply s2|apply s3) (by simp [It.rids]) ?_
  unfold Lg.last
  rw [hfs]
  rfl
theorem lfind_s (hf : l.Few) : Spec Tryz.prog 40 [.agg l.abs, st s] [] (fun _ : Unit => []) (fun _ => .tup [.agg (ltrA ((l.find s).getD Ltr.none)), boo (l.find s).isSome]) := by
  have hf1 := hf.ls
  have hf2 := hf.os
  refine spec_of Tryz.func40 rfl Tryz.ntmps40 rfl fun G w => ?_
  refine SC.seq (SC.region ?_)
  refine SL.eff (Eff.boxA (cs := l.abs) rfl) rfl rfl ?_
  rintro _ _ ⟨b2, rfl, rfl⟩
  refine SL.eff (Eff.alloc tabOk rfl) rfl rfl ?_
  rintro _ _ ⟨b4, rfl, rfl⟩
  refine SL.val (Val.assign rfl) rfl rfl ?_
  refine SL.nil (SE.seq ?_)
  refine SC.seq (SC.region ?_)
  refine SL.val (Val.fieldAddr tabOk rfl rfl rfl rfl rfl) rfl rfl ?_
  refine SL.val (Val.to (C := .sl 6 (l.ls.map ltrA)) (Val.load1 tabOk rfl rfl (by first|(apply Or.inl;(repeat first|assumption|exact m0|apply m1);done)|(apply Or.inr;(repeat first|assumption|exact m0|apply m1);done)) List.not_mem_nil (by rfl)) rfl) rfl rfl ?_
  refine SL.val (Val.move rfl) rfl rfl ?_
  refine SL.call (place_ltr (xs := l.ls) (k := s) (by omega)) Casts.refl (by kernel_rfl) rfl rfl rfl ?_
  refine After.pure (by repeat (first | exact Reads.nil | (refine Reads.blk ?_ ?_; focus ((repeat first|assumption|exact m0|apply m1); done)) | (refine Reads.rd ?_ ?_; focus ((repeat first|assumption|exact m0|apply m1); done)) | (refine Reads.pc ?_ ?_; focus ((repeat first|assumption|exact m0|apply m1); done)) | (refine Reads.rdpc ?_ ?_; focus ((repeat first|assumption|exact m0|apply m1); done)))) (fun _ => rfl) ?_
  intro _
  refine SL.val (Val.move rfl) rfl rfl ?_
  refine SL.val (Val.extract rfl rfl) rfl rfl ?_
  refine SL.val (Val.extract rfl rfl) rfl rfl ?_
  refine SL.val (Val.assign rfl) rfl rfl ?_
  refine SL.val (Val.assign rfl) rfl rfl ?_
  refine SL.nil (SE.seq ?_)
  refine SC.seq ?_
  refine SC.seq (SC.region ?_)
  refine SL.val (Val.move rfl) rfl rfl ?_
  refine SL.val (Val.notB rfl) rfl rfl ?_
  refine SL.nil (SE.seq ?_)
  refine SC.cond rfl ?_ ?_
  · intro hc16
    have hnp : ¬ (placeG (eqL s) (gtL s) l.ls).2 = true := by simpa using hc16
    have hfn := place_none hnp
    refine SC.seq (SC.region ?_)
    refine SL.val (Val.buildS tabOk rfl rfl rfl rfl) rfl rfl ?_
    refine SL.eff (Eff.store (L' := ltrA Ltr.none) tabOk rfl rfl rfl (by repeat first|assumption|exact Upd.here|apply Upd.there) rfl (Nat.le_of_ble_eq_true (by rfl)) rfl (by exact putL_whole rfl)) rfl rfl ?_
    rintro _ _ ⟨rfl, rfl⟩
    refine SL.val (Val.assign rfl) rfl rfl ?_
    refine SL.nil (SE.seq ?_)
    refine SC.ret ?_
    refine SE.then_ (by intro h; cases h) ?_
    refine SE.fin (rs := [.cell 4 47, .tmp 5]) rfl (RV.cell rfl (RV.cellA tabOk rfl rfl (by first|(apply Or.inl;(repeat first|assumption|exact m0|apply m1);done)|(apply Or.inr;(repeat first|assumption|exact m0|apply m1);done)) (by rfl)) (RV.tmp rfl RV.nil)) (()) (by repeat first|exact s0 _|exact s1 _|apply s2|apply s3) (by simp [It.rids]) ?_
    unfold Lg.find
    rw [hfn]
    rfl
  intro hc16
  obtain ⟨hlt, hfs⟩ := place_find (show (placeG (eqL s) (gtL s) l.ls).2 = true by simpa using hc16)
  refine SC.skip ?_
  refine SE.seq ?_
  refine SC.seq (SC.region ?_)
  refine SL.val (Val.fieldAddr tabOk rfl rfl rfl rfl rfl) rfl rfl ?_
  refine SL.val (Val.to (C := .sl 6 (l.ls.map ltrA)) (Val.load1 tabOk rfl rfl (by first|(apply Or.inl;(repeat first|assumption|exact m0|apply m1);done)|(apply Or.inr;(repeat first|assumption|exact m0|apply m1);done)) List.not_mem_nil (by rfl)) rfl) rfl rfl ?_
  refine SL.val (Val.move rfl) rfl rfl ?_
  refine SL.val (Val.indexSl (q := (placeG (eqL s) (gtL s) l.ls).1) tabOk Tryz.underlying41 rfl rfl rfl rfl (at_map hlt) rfl rfl) rfl rfl ?_
  refine SL.val (Val.loadAR tabOk rfl rfl rfl (by rfl)) rfl rfl ?_
  refine SL.eff (Eff.store (L' := ltrA (l.ls[(placeG (eqL s) (gtL s) l.ls).1]'hlt)) tabOk rfl rfl rfl (by repeat first|assumption|exact Upd.here|apply Upd.there) rfl (Nat.le_of_ble_eq_true (by rfl)) rfl (by exact putL_whole rfl)) rfl rfl ?_
  rintro _ _ ⟨rfl, rfl⟩
  refine SL.val (Val.assign rfl) rfl rfl ?_
  refine SL.nil (SE.seq ?_)
  refine SC.ret ?_
  refine SE.fin (rs := [.cell 4 47, .tmp 5]) rfl (RV.cell rfl (RV.cellA tabOk rfl rfl (by first|(apply Or.inl;(repeat first|assumption|exact m0|apply m1);done)|(apply Or.inr;(repeat first|assumption|exact m0|apply m1);done)) (by rfl)) (RV.tmp rfl RV.nil)) (()) (by repeat first|exact s0 _|exact s1 _|apply s2|apply s3) (by simp [It.rids]) ?_
  unfold Lg.find
  rw [hfs]
  rfl
theorem ltold_s (hf : l.Few) : Spec Tryz.prog 56 [.agg l.abs, .agg o.abs] [] (fun _ : Unit => []) (fun _ => .agg (l.told o).abs) := by
  have hf1 := hf.ls
  have hf2 := hf.os
  refine spec_of Tryz.func56 rfl Tryz.ntmps56 rfl fun G w => ?_
  refine SC.seq (SC.region ?_)
  refine SL.eff (Eff.boxA (cs := l.abs) rfl) rfl rfl ?_
  rintro _ _ ⟨b2, rfl, rfl⟩
  refine SL.eff (Eff.boxA (cs := o.abs) rfl) rfl rfl ?_
  rintro _ _ ⟨b3, rfl, rfl⟩
  refine SL.eff (Eff.alloc tabOk rfl) rfl rfl ?_
  rintro _ _ ⟨b4, rfl, rfl⟩
  refine SL.nil (SE.seq ?_)
  refine SC.seq (SC.region ?_)
  refine SL.val (Val.to (C := .agg l.abs) (Val.loadP tabOk rfl rfl rfl (by first|(apply Or.inl;(repeat first|assumption|exact m0|apply m1);done)|(apply Or.inr;(repeat first|assumption|exact m0|apply m1);done)) List.not_mem_nil (Nat.le_of_ble_eq_true (by rfl))) (congrArg Abs.agg rfl)) rfl rfl ?_
  refine SL.call (lcopied_s hf) Casts.refl (by kernel_rfl) rfl rfl rfl ?_
  refine After.pure (by repeat first|exact .nil|refine .blk (by repeat first|assumption|exact m0|apply m1) ?_|refine .rd (by repeat first|assumption|exact m0|apply m1) ?_|refine .pc (by repeat first|assumption|exact m0|apply m1) ?_|refine .rdpc (by repeat first|assumption|exact m0|apply m1) ?_) (fun _ => rfl) ?_
  intro _
  refine SL.eff (Eff.alloc tabOk rfl) rfl rfl ?_
  rintro _ _ ⟨b5, rfl, rfl⟩
  refine SL.eff (Eff.store (L' := l.abs) tabOk rfl rfl rfl (by repeat first|assumption|exact Upd.here|apply Upd.there) rfl (Nat.le_of_ble_eq_true (by rfl)) rfl (by exact putL_whole rfl)) rfl rfl ?_
  rintro _ _ ⟨rfl, rfl⟩
  refine SL.nil (SE.seq ?_)
  refine SC.seq (SC.region ?_)
  refine SL.val (Val.fieldAddr tabOk rfl rfl rfl rfl rfl) rfl rfl ?_
  refine SL.val (Val.to (C := .sl 3 (l.os.map Oc.abs)) (Val.load1 tabOk rfl rfl (by first|(apply Or.inl;(repeat first|assumption|exact m0|apply m1);done)|(apply Or.inr;(repeat first|assumption|exact m0|apply m1);done)) List.not_mem_nil (by rfl)) rfl) rfl rfl ?_
  refine SL.val (Val.loadA tabOk rfl rfl rfl (by first|(apply Or.inl;(repeat first|assumption|exact m0|apply m1);done)|(apply Or.inr;(repeat first|assumption|exact m0|apply m1);done)) List.not_mem_nil (by rfl)) rfl rfl ?_
  refine SL.call (put_oc (xs := l.os) (x := o) (by omega)) Casts.refl (by kernel_rfl) rfl rfl rfl ?_
  refine After.pure (by repeat first|exact .nil|refine .blk (by repeat first|assumption|exact m0|apply m1) ?_|refine .rd (by repeat first|assumption|exact m0|apply m1) ?_|refine .pc (by repeat first|assumption|exact m0|apply m1) ?_|refine .rdpc (by repeat first|assumption|exact m0|apply m1) ?_) (fun _ => rfl) ?_
  intro _
  refine SL.val (Val.fieldAddr tabOk rfl rfl rfl rfl rfl) rfl rfl ?_
  refine SL.eff (Eff.store (L' := (l.told o).abs) tabOk rfl rfl rfl (by repeat first|assumption|exact Upd.here|apply Upd.there) rfl (Nat.le_of_ble_eq_true (by rfl)) rfl (by rfl)) rfl rfl ?_
  rintro _ _ ⟨rfl, rfl⟩
  refine SL.nil (SE.seq ?_)
  refine SC.seq (SC.region ?_)
  first
    | refine SL.val (Val.loadA tabOk rfl rfl rfl (by first|(apply Or.inl;(repeat first|assumption|exact m0|apply m1);done)|(apply Or.inr;(repeat first|assumption|exact m0|apply m1);done)) List.not_mem_nil (by rfl)) rfl rfl ?_
    | refine SL.val (Val.loadP tabOk rfl rfl rfl (by first|(apply Or.inl;(repeat first|assumption|exact m0|apply m1);done)|(apply Or.inr;(repeat first|assumption|exact m0|apply m1);done)) List.not_mem_nil (Nat.le_of_ble_eq_true (by rfl))) rfl rfl ?_
  refine SL.eff (Eff.store (L' := (l.told o).abs) tabOk rfl rfl rfl (by repeat first|assumption|exact Upd.here|apply Upd.there) rfl (Nat.le_of_ble_eq_true (by rfl)) rfl (by exact putL_whole rfl)) rfl rfl ?_
  rintro _ _ ⟨rfl, rfl⟩
  refine SL.nil (SE.seq ?_)
  refine SC.ret ?_
  refine SE.fin (rs := [.cell 4 44]) rfl (RV.cell rfl (RV.cellA tabOk rfl rfl (by first|(apply Or.inl;(repeat first|assumption|exact m0|apply m1);done)|(apply Or.inr;(repeat first|assumption|exact m0|apply m1);done)) (by rfl)) RV.nil) (()) (by repeat first|exact s0 _|exact s1 _|apply s2|apply s3) (by simp [It.rids]) ?_
  exact rfl
theorem lwith_s (hf : l.Few) : Spec Tryz.prog 73 [.agg l.abs, .agg (ltrA x)] [] (fun _ : Unit => []) (fun _ => .tup [.agg (l.with_ x).1.abs, int (l.with_ x).2]) := by
  have hf1 := hf.ls
  have hf2 := hf.os
  have hwl := withG_length (eq := eqL x.name) (gt := gtL x.name) (x := x) l.ls
  refine spec_of Tryz.func73 rfl Tryz.ntmps73 rfl fun G w => ?_
  refine SC.seq (SC.region ?_)
  refine SL.eff (Eff.boxA (cs := l.abs) rfl) rfl rfl ?_
  rintro _ _ ⟨b2, rfl, rfl⟩
  refine SL.eff (Eff.boxA (cs := ltrA x) rfl) rfl rfl ?_
  rintro _ _ ⟨b3, rfl, rfl⟩
  refine SL.eff (Eff.alloc tabOk rfl) rfl rfl ?_
  rintro _ _ ⟨b4, rfl, rfl⟩
  refine SL.val (Val.assign rfl) rfl rfl ?_
  refine SL.nil (SE.seq ?_)
  refine SC.seq ?_
  refine SC.seq (SC.region ?_)
  refine SL.val (Val.fieldAddr tabOk rfl rfl rfl rfl rfl) rfl rfl ?_
  refine SL.val (Val.to (C := st x.name) (Val.load1 tabOk rfl rfl (by first|(apply Or.inl;(repeat first|assumption|exact m0|apply m1);done)|(apply Or.inr;(repeat first|assumption|exact m0|apply m1);done)) List.not_mem_nil (by rfl)) rfl) rfl rfl ?_
  refine SL.call (isname_s (s := x.name)) Casts.refl (by kernel_rfl) rfl rfl rfl ?_
  refine After.pure (by repeat first|exact .nil|refine .blk (by repeat first|assumption|exact m0|apply m1) ?_|refine .rd (by repeat first|assumption|exact m0|apply m1) ?_|refine .pc (by repeat first|assumption|exact m0|apply m1) ?_|refine .rdpc (by repeat first|assumption|exact m0|apply m1) ?_) (fun _ => rfl) ?_
  intro _
  refine SL.val (Val.notB rfl) rfl rfl ?_
  refine SL.nil (SE.seq ?_)
  refine SC.cond rfl ?_ ?_
  · intro hc10
    have hnb : nameB x.name = false := by simpa using hc10
    refine SC.seq (SC.region ?_)
    refine SL.val (Val.buildS tabOk rfl rfl rfl rfl) rfl rfl ?_
    refine SL.eff (Eff.store (L' := (zabs [.int .i64 0, .int .i64 0, .slice none 0 0, .slice none 0 0])) tabOk rfl rfl rfl (by repeat first|assumption|exact Upd.here|apply Upd.there) rfl (Nat.le_of_ble_eq_true (by rfl)) rfl (by exact putL_whole rfl)) rfl rfl ?_
    rintro _ _ ⟨rfl, rfl⟩
    refine SL.val (Val.assign rfl) rfl rfl ?_
    refine SL.nil (SE.seq ?_)
    refine SC.ret ?_
    refine SE.then_ (by intro h; cases h) ?_
    refine SE.finC (rs := [.cell 4 44, .tmp 5]) rfl (RV.cell rfl (RV.cellA tabOk rfl rfl (by first|(apply Or.inl;(repeat first|assumption|exact m0|apply m1);done)|(apply Or.inr;(repeat first|assumption|exact m0|apply m1);done)) (by rfl)) (RV.tmp rfl RV.nil)) (Casts.cons (cast_agg (Casts.keep (Casts.keep (Casts.nils (s := 6) (Casts.nils (s := 3) Casts.refl))))) Casts.refl) (()) (by repeat first|exact s0 _|exact s1 _|apply s2|apply s3) (by simp [It.rids]) ?_
    unfold Lg.with_
    rw [if_pos hnb]
    rfl
  intro hc10
  have hnb : ¬ nameB x.name = false := by simpa using hc10
  refine SC.skip ?_
  refine SE.seq ?_
  refine SC.seq (SC.region ?_)
  refine SL.val (Val.to (C := .agg l.abs) (Val.loadP tabOk rfl rfl rfl (by first|(apply Or.inl;(repeat first|assumption|exact m0|apply m1);done)|(apply Or.inr;(repeat first|assumption|exact m0|apply m1);done)) List.not_mem_nil (Nat.le_of_ble_eq_true (by rfl))) (congrArg Abs.agg rfl)) rfl rfl ?_
  refine SL.call (lcopied_s hf) Casts.refl (by kernel_rfl) rfl rfl rfl ?_
  refine After.pure (by repeat first|exact .nil|refine .blk (by repeat first|assumption|exact m0|apply m1) ?_|refine .rd (by repeat first|assumption|exact m0|apply m1) ?_|refine .pc (by repeat first|assumption|exact m0|apply m1) ?_|refine .rdpc (by repeat first|assumption|exact m0|apply m1) ?_) (fun _ => rfl) ?_
  intro _
  refine SL.eff (Eff.alloc tabOk rfl) rfl rfl ?_
  rintro _ _ ⟨b6, rfl, rfl⟩
  refine SL.eff (Eff.store (L' := l.abs) tabOk rfl rfl rfl (by repeat first|assumption|exact Upd.here|apply Upd.there) rfl (Nat.le_of_ble_eq_true (by rfl)) rfl (by exact putL_whole rfl)) rfl rfl ?_
  rintro _ _ ⟨rfl, rfl⟩
  refine SL.nil (SE.seq ?_)
  refine SC.seq ?_
  refine SC.seq (SC.region ?_)
  refine SL.val (Val.fieldAddr tabOk rfl rfl rfl rfl rfl) rfl rfl ?_
  refine SL.val (Val.to (C := ltrsA l.ls) (Val.load1 tabOk rfl rfl (by first|(apply Or.inl;(repeat first|assumption|exact m0|apply m1);done)|(apply Or.inr;(repeat first|assumption|exact m0|apply m1);done)) List.not_mem_nil (by rfl)) rfl) rfl rfl ?_
  refine SL.val (Val.loadA tabOk rfl rfl rfl (by first|(apply Or.inl;(repeat first|assumption|exact m0|apply m1);done)|(apply Or.inr;(repeat first|assumption|exact m0|apply m1);done)) List.not_mem_nil (by rfl)) rfl rfl ?_
  refine SL.call (put_ltr (xs := l.ls) (x := x) (by omega)) Casts.refl (by kernel_rfl) rfl rfl rfl ?_
  refine After.pure (by repeat first|exact .nil|refine .blk (by repeat first|assumption|exact m0|apply m1) ?_|refine .rd (by repeat first|assumption|exact m0|apply m1) ?_|refine .pc (by repeat first|assumption|exact m0|apply m1) ?_|refine .rdpc (by repeat first|assumption|exact m0|apply m1) ?_) (fun _ => rfl) ?_
  intro _
  refine SL.val (Val.fieldAddr tabOk rfl rfl rfl rfl rfl) rfl rfl ?_
  refine SL.eff (Eff.store (L' := (l.putL x).abs) tabOk rfl rfl rfl (by repeat first|assumption|exact Upd.here|apply Upd.there) rfl (Nat.le_of_ble_eq_true (by rfl)) rfl (by rfl)) rfl rfl ?_
  rintro _ _ ⟨rfl, rfl⟩
  refine SL.nil (SE.seq ?_)
  refine SC.seq (SC.region ?_)
  refine SL.val (Val.fieldAddr tabOk rfl rfl rfl rfl rfl) rfl rfl ?_
  refine SL.val (Val.to (C := ltrsA (l.putL x).ls) (Val.load1 tabOk rfl rfl (by first|(apply Or.inl;(repeat first|assumption|exact m0|apply m1);done)|(apply Or.inr;(repeat first|assumption|exact m0|apply m1);done)) List.not_mem_nil (by rfl)) rfl) rfl rfl ?_
  first
    | refine SL.val (Val.lenSl rfl Tryz.underlying41 (List.length_map _)) rfl rfl ?_
    | refine SL.val (Val.lenOwn rfl (by repeat first|assumption|exact m0|apply m1) Tryz.underlying41 (List.length_map _)) rfl rfl ?_
    | refine SL.val (Val.lenNil rfl Tryz.underlying41) rfl rfl ?_
  refine SL.val (Val.gtI rfl rfl) rfl rfl ?_
  refine SL.nil (SE.seq ?_)
  refine SC.condP rfl ?_ ?_
  · intro hc22
    refine SC.seq (SC.region ?_)
    refine SL.val (Val.buildS tabOk rfl rfl rfl rfl) rfl rfl ?_
    refine SL.eff (Eff.store (L' := (zabs [.int .i64 0, .int .i64 0, .slice none 0 0, .slice none 0 0])) tabOk rfl rfl rfl (by repeat first|assumption|exact Upd.here|apply Upd.there) rfl (Nat.le_of_ble_eq_true (by rfl)) rfl (by exact putL_whole rfl)) rfl rfl ?_
    rintro _ _ ⟨rfl, rfl⟩
    refine SL.val (Val.assign rfl) rfl rfl ?_
    refine SL.nil (SE.seq ?_)
    refine SC.ret ?_
    refine SE.then_ (by intro h; cases h) ?_
    refine SE.finC (rs := [.cell 4 44, .tmp 5]) rfl (RV.cell rfl (RV.cellA tabOk rfl rfl (by first|(apply Or.inl;(repeat first|assumption|exact m0|apply m1);done)|(apply Or.inr;(repeat first|assumption|exact m0|apply m1);done)) (by rfl)) (RV.tmp rfl RV.nil)) (Casts.cons (cast_agg (Casts.keep (Casts.keep (Casts.nils (s := 6) (Casts.nils (s := 3) Casts.refl))))) Casts.refl) (()) (by repeat first|exact s0 _|exact s1 _|apply s2|apply s3) (by simp [It.rids]) ?_
    unfold Lg.with_
    rw [if_neg hnb, if_pos (by omega)]
    rfl
  intro hc22
  refine SC.skip ?_
  refine SE.seq ?_
  refine SC.seq (SC.region ?_)
  refine SL.val (Val.to (C := .agg (l.putL x).abs) (Val.loadP tabOk rfl rfl rfl (by first|(apply Or.inl;(repeat first|assumption|exact m0|apply m1);done)|(apply Or.inr;(repeat first|assumption|exact m0|apply m1);done)) List.not_mem_nil (Nat.le_of_ble_eq_true (by rfl))) (congrArg Abs.agg rfl)) rfl rfl ?_
  refine SL.eff (Eff.store (L' := (l.putL x).abs) tabOk rfl rfl rfl (by repeat first|assumption|exact Upd.here|apply Upd.there) rfl (Nat.le_of_ble_eq_true (by rfl)) rfl (by exact putL_whole rfl)) rfl rfl ?_
  rintro _ _ ⟨rfl, rfl⟩
  refine SL.val (Val.assign rfl) rfl rfl ?_
  refine SL.nil (SE.seq ?_)
  refine SC.ret ?_
  refine SE.fin (rs := [.cell 4 44, .tmp 5]) rfl (RV.cell rfl (RV.cellA tabOk rfl rfl (by first|(apply Or.inl;(repeat first|assumption|exact m0|apply m1);done)|(apply Or.inr;(repeat first|assumption|exact m0|apply m1);done)) (by rfl)) (RV.tmp rfl RV.nil)) (()) (by repeat first|exact s0 _|exact s1 _|apply s2|apply s3) (by simp [It.rids]) ?_
  unfold Lg.with_
  rw [if_neg hnb, if_neg (by omega)]
  rfl
theorem lstale_s (hf : l.Few) : Spec Tryz.prog 51 [.agg l.abs, coreA c] [] (fun _ : Unit => []) (fun _ => boo (l.stale c)) := by
  refine spec_of Tryz.func51 rfl Tryz.ntmps51 rfl fun G w => ?_
  refine SC.seq (SC.region ?_)
  refine SL.eff (Eff.boxA (cs := l.abs) rfl) rfl rfl ?_
  rintro _ _ ⟨b2, rfl, rfl⟩
  refine SL.eff (Eff.boxA (cs := c.cells.map .v) rfl) rfl rfl ?_
  rintro _ _ ⟨b3, rfl, rfl⟩
  refine SL.val (Val.assign rfl) rfl rfl ?_
  refine SL.nil (SE.seq ?_)
  refine SC.seq (SC.region ?_)
  refine SL.val (Val.to (C := .agg l.abs) (Val.loadP tabOk rfl rfl rfl (by first|(apply Or.inl;(repeat first|assumption|exact m0|apply m1);done)|(apply Or.inr;(repeat first|assumption|exact m0|apply m1);done)) List.not_mem_nil (Nat.le_of_ble_eq_true (by rfl))) (congrArg Abs.agg rfl)) rfl rfl ?_
  refine SL.val (Val.fieldAddr tabOk rfl rfl rfl rfl rfl) rfl rfl ?_
  refine SL.val (Val.load1 tabOk rfl rfl (by first|(apply Or.inl;(repeat first|assumption|exact m0|apply m1);done)|(apply Or.inr;(repeat first|assumption|exact m0|apply m1);done)) List.not_mem_nil (by rfl)) rfl rfl ?_
  refine SL.call (llast_s (k := c.client) hf) Casts.refl (by kernel_rfl) rfl rfl rfl ?_
  refine After.pure (by repeat first|exact .nil|refine .blk (by repeat first|assumption|exact m0|apply m1) ?_|refine .rd (by repeat first|assumption|exact m0|apply m1) ?_|refine .pc (by repeat first|assumption|exact m0|apply m1) ?_|refine .rdpc (by repeat first|assumption|exact m0|apply m1) ?_) (fun _ => rfl) ?_
  intro _
  refine SL.val (Val.move rfl) rfl rfl ?_
  refine SL.val (Val.extract rfl rfl) rfl rfl ?_
  refine SL.val (Val.extract rfl rfl) rfl rfl ?_
  refine SL.eff (Eff.alloc tabOk rfl) rfl rfl ?_
  rintro _ _ ⟨b5, rfl, rfl⟩
  refine SL.eff (Eff.store (L' := ((l.last c.client).getD Oc.zero).abs) tabOk rfl rfl rfl (by repeat first|assumption|exact Upd.here|apply Upd.there) rfl (Nat.le_of_ble_eq_true (by rfl)) rfl (by exact putL_whole rfl)) rfl rfl ?_
  rintro _ _ ⟨rfl, rfl⟩
  refine SL.val (Val.assign rfl) rfl rfl ?_
  refine SL.nil (SE.seq ?_)
  refine SC.seq (SC.region ?_)
  refine SL.val (Val.move rfl) rfl rfl ?_
  refine SL.val (Val.move rfl) rfl rfl ?_
  refine SL.both (t := 15) rfl ?_ ?_
  · intro hc15
    refine SL.val (Val.fieldAddr tabOk rfl rfl rfl rfl rfl) rfl rfl ?_
    refine SL.val (Val.load1 tabOk rfl rfl (by first|(apply Or.inl;(repeat first|assumption|exact m0|apply m1);done)|(apply Or.inr;(repeat first|assumption|exact m0|apply m1);done)) List.not_mem_nil (by rfl)) rfl rfl ?_
    refine SL.val (Val.fieldAddr tabOk rfl rfl rfl rfl rfl) rfl rfl ?_
    refine SL.val (Val.load1 tabOk rfl rfl (by first|(apply Or.inl;(repeat first|assumption|exact m0|apply m1);done)|(apply Or.inr;(repeat first|assumption|exact m0|apply m1);done)) List.not_mem_nil (by rfl)) rfl rfl ?_
    refine SL.val (Val.leI rfl rfl) rfl rfl ?_
    refine SL.val (Val.pickT rfl rfl) rfl rfl ?_
    refine SL.val (Val.assign rfl) rfl rfl ?_
    refine SL.nil (SE.seq ?_)
    refine SC.ret ?_
    refine SE.fin (rs := [.tmp 4]) rfl (RV.tmp rfl RV.nil) (()) (by repeat first|exact s0 _|exact s1 _|apply s2|apply s3) (by simp [It.rids]) ?_
    unfold Lg.stale
    cases hl : l.last c.client with
    | none => rw [hl] at hc15; first | rfl | cases hc15
    | some o9 => rw [hl] at hc15; first | rfl | cases hc15
  intro hc15
  iterate 5 refine SL.skip rfl rfl ?_
  refine SL.val (Val.pickF rfl rfl) rfl rfl ?_
  refine SL.val (Val.assign rfl) rfl rfl ?_
  refine SL.nil (SE.seq ?_)
  refine SC.ret ?_
  refine SE.fin (rs := [.tmp 4]) rfl (RV.tmp rfl RV.nil) (()) (by repeat first|exact s0 _|exact s1 _|apply s2|apply s3) (by simp [It.rids]) ?_
  unfold Lg.stale
  cases hl : l.last c.client with
  | none => rw [hl] at hc15; first | rfl | cases hc15
  | some o9 => rw [hl] at hc15; first | rfl | cases hc15
end
end Go.Proofs.YtnedfcaoggkmnaaGreatDoor.A
/-
  The document's ledgers: the same, found.
-/
set_option maxRecDepth 100000
set_option linter.unusedSimpArgs false
set_option linter.unusedVariables false
namespace Go.Proofs.YtnedfcaoggkmnaaGreatDoor.A
open Go.RowKit

theorem boo_dec0 {p : Prop} [Decidable p] (h : ¬ p) : retA [boo false] = boo (decide p) := by rw [decide_eq_false h]; rfl
section
variable {l a b : Lg} {x : Ltr} {o : Oc} {k n : Int} {s : ByteArray} {c : Core} {e : Ent} {p : Nat} {es : List Ent}
set_option maxHeartbeats 2000000 in
theorem rfind_s  : Spec Tryz.prog 21 [.agg l.abs, st s] [] (fun _ : Unit => []) (fun _ => .tup [.agg (ltrA ((l.find s).getD Ltr.none)), boo (l.find s).isSome]) := by
  refine spec_of Tryz.func21 rfl Tryz.ntmps21 rfl fun G w => ?_
  refine SC.seq (SC.region ?_)
  refine SL.eff (Eff.boxA (cs := l.abs) rfl) rfl rfl ?_
  rintro _ _ ⟨b2, rfl, rfl⟩
  refine SL.eff (Eff.alloc tabOk rfl) rfl rfl ?_
  rintro _ _ ⟨b4, rfl, rfl⟩
  refine SL.val (Val.assign rfl) rfl rfl ?_
  refine SL.nil (SE.seq ?_)
  refine SC.seq ?_
  refine SC.seq (SC.region ?_)
  refine SL.val (Val.fieldAddr tabOk rfl rfl rfl rfl rfl) rfl rfl ?_
  refine SL.val (Val.to (C := .sl 6 (l.ls.map ltrA)) (Val.load1 tabOk rfl rfl (by first|(apply Or.inl;(repeat first|assumption|exact m0|apply m1);done)|(apply Or.inr;(repeat first|assumption|exact m0|apply m1);done)) List.not_mem_nil (by rfl)) rfl) rfl rfl ?_
  first
    | refine SL.val (Val.lenSl rfl Tryz.underlying41 (List.length_map _)) rfl rfl ?_
    | refine SL.val (Val.lenOwn rfl (by repeat first|assumption|exact m0|apply m1) Tryz.underlying41 (List.length_map _)) rfl rfl ?_
    | refine SL.val (Val.lenNil rfl Tryz.underlying41) rfl rfl ?_
  refine SL.val (Val.move rfl) rfl rfl ?_
  refine SL.nil (SE.seq ?_)
  refine SC.block ?_
  refine SC.rowLe (i := 9) rfl fun hrow => ?_
  rw [List.length_map] at hrow
  unfold maxLen at hrow
  refine SC.loop (ι := Nat) (fun z => [.blk b4 47 (ltrA Ltr.none)]) (fun z => [(1, st s), (4, ptr b4), (9, ltrsA l.ls), (10, int (l.ls.length : Nat)), (11, int (z : Nat))]) (fun z => z ≤ l.ls.length ∧ ∀ j (h : j < l.ls.length), j < z → ¬ l.ls[j].name = s) (fun z => l.ls.length - z) (0) (⟨Nat.zero_le _, fun j h h2 => by omega⟩) (by exact ⟨rfl, rfl, rfl, rfl, rfl, trivial⟩) (by repeat first|exact s0 _|exact s1 _|apply s2|apply s3) ?_
  intro z hz
  refine SC.seq (SC.region ?_)
  refine SL.val (Val.ltI rfl rfl) rfl rfl ?_
  refine SL.nil (SE.seq ?_)
  refine SC.seq ?_
  refine SC.condP rfl ?_ ?_
  rotate_left
  · intro hc12
    refine SC.exit ?_
    refine SE.then_ (by intro h; cases h) ?_
    refine SE.then_ (by intro h; cases h) ?_
    refine SE.exit ?_
    refine SE.seq ?_
    refine SC.seq (SC.region ?_)
    refine SL.val (Val.buildS tabOk rfl rfl rfl rfl) rfl rfl ?_
    refine SL.eff (Eff.store (L' := ltrA Ltr.none) tabOk rfl rfl rfl (by repeat first|assumption|exact Upd.here|apply Upd.there) rfl (Nat.le_of_ble_eq_true (by rfl)) rfl (by exact putL_whole rfl)) rfl rfl ?_
    rintro _ _ ⟨rfl, rfl⟩
    refine SL.val (Val.assign rfl) rfl rfl ?_
    refine SL.nil (SE.seq ?_)
    refine SC.ret ?_
    have hfn : l.find s = none := by
      unfold Lg.find
      rw [List.find?_eq_none]
      intro y hy
      obtain ⟨j, hj, rfl⟩ := List.getElem_of_mem hy
      simpa using hz.2 j hj (by omega)
    refine SE.fin (rs := [.cell 4 47, .tmp 5]) rfl (RV.cell rfl (RV.cellA tabOk rfl rfl (by first|(apply Or.inl;(repeat first|assumption|exact m0|apply m1);done)|(apply Or.inr;(repeat first|assumption|exact m0|apply m1);done)) (by rfl)) (RV.tmp rfl RV.nil)) (()) (by repeat first|exact s0 _|exact s1 _|apply s2|apply s3) (by simp [It.rids]) ?_
    rw [hfn]
    rfl
  intro hc12
  have hlt : z < l.ls.length := by omega
  refine SC.skip ?_
  refine SE.seq ?_
  refine SC.seq ?_
  refine SC.block ?_
  refine SC.seq (SC.region ?_)
  refine SL.val (Val.indexSl tabOk Tryz.underlying41 rfl rfl rfl rfl (at_map (by omega)) rfl rfl) rfl rfl ?_
  refine SL.val (Val.loadAR tabOk rfl rfl rfl (by rfl)) rfl rfl ?_
  refine SL.eff (Eff.alloc tabOk rfl) rfl rfl ?_
  rintro _ _ ⟨b7, rfl, rfl⟩
  refine SL.eff (Eff.store (L' := ltrA (l.ls[z]'hlt)) tabOk rfl rfl rfl (by repeat first|assumption|exact Upd.here|apply Upd.there) rfl (Nat.le_of_ble_eq_true (by rfl)) rfl (by exact putL_whole rfl)) rfl rfl ?_
  rintro _ _ ⟨rfl, rfl⟩
  refine SL.nil (SE.seq ?_)
  refine SC.seq (SC.region ?_)
  refine SL.val (Val.fieldAddr tabOk rfl rfl rfl rfl rfl) rfl rfl ?_
  refine SL.val (Val.to (C := st (l.ls[z]'hlt).name) (Val.load1 tabOk rfl rfl (by first|(apply Or.inl;(repeat first|assumption|exact m0|apply m1);done)|(apply Or.inr;(repeat first|assumption|exact m0|apply m1);done)) List.not_mem_nil (by rfl)) rfl) rfl rfl ?_
  refine SL.val (Val.move rfl) rfl rfl ?_
  refine SL.val (Val.eqS rfl rfl) rfl rfl ?_
  refine SL.nil (SE.seq ?_)
  refine SC.condP rfl ?_ ?_
  rotate_left
  · intro hc18
    refine SC.skip ?_
    refine SE.inBlock ?_
    refine SE.seq ?_
    refine SC.region ?_
    first
      | refine SL.val (Val.addI rfl rfl (by simp only [InR, lo, hi]; omega)) rfl rfl ?_
      | refine SL.val (Val.addW rfl rfl) rfl rfl ?_
    refine SL.val (Val.move rfl) rfl rfl ?_
    refine SL.nil ?_
    refine SE.round (z + 1) (by first | omega | (dsimp only; omega)) (⟨by omega, fun j h h2 => by rcases Nat.lt_or_ge j z with h3 | h3; exact hz.2 j h h3; obtain rfl : j = z := (by omega); exact hc18⟩) (by exact ⟨rfl, rfl, rfl, rfl, rfl, trivial⟩) (by repeat first|exact s0 _|exact s1 _|apply s2|apply s3)
  intro hc18
  refine SC.seq (SC.region ?_)
  refine SL.val (Val.loadA tabOk rfl rfl rfl (by first|(apply Or.inl;(repeat first|assumption|exact m0|apply m1);done)|(apply Or.inr;(repeat first|assumption|exact m0|apply m1);done)) List.not_mem_nil (by rfl)) rfl rfl ?_
  refine SL.eff (Eff.store (L' := ltrA (l.ls[z]'hlt)) tabOk rfl rfl rfl (by repeat first|assumption|exact Upd.here|apply Upd.there) rfl (Nat.le_of_ble_eq_true (by rfl)) rfl (by exact putL_whole rfl)) rfl rfl ?_
  rintro _ _ ⟨rfl, rfl⟩
  refine SL.val (Val.assign rfl) rfl rfl ?_
  refine SL.nil (SE.seq ?_)
  refine SC.ret ?_
  refine SE.ret ?_
  refine SE.then_ (by intro h; cases h) ?_
  refine SE.then_ (by intro h; cases h) ?_
  refine SE.ret ?_
  refine SE.then_ (by intro h; cases h) ?_
  have hfs : l.find s = some (l.ls[z]'hlt) := by
    unfold Lg.find
    rw [List.find?_eq_some_iff_getElem]
    exact ⟨decide_eq_true hc18, z, hlt, rfl, fun j hj => by simpa using hz.2 j (by omega) hj⟩
  refine SE.fin (rs := [.cell 4 47, .tmp 5]) rfl (RV.cell rfl (RV.cellA tabOk rfl rfl (by first|(apply Or.inl;(repeat first|assumption|exact m0|apply m1);done)|(apply Or.inr;(repeat first|assumption|exact m0|apply m1);done)) (by rfl)) (RV.tmp rfl RV.nil)) (()) (by repeat first|exact s0 _|exact s1 _|apply s2|apply s3) (by simp [It.rids]) ?_
  rw [hfs]
  rfl
end
end Go.Proofs.YtnedfcaoggkmnaaGreatDoor.A
/-
  The document's ledgers: what is told last, and put in.
-/
set_option maxRecDepth 100000
set_option linter.unusedSimpArgs false
set_option linter.unusedVariables false
namespace Go.Proofs.YtnedfcaoggkmnaaGreatDoor.A
open Go.RowKit

section
variable {l : Lg} {k n : Int} {s : ByteArray} {c : Core} {e : Ent} {es : List Ent} {e1 e2 : Value}
theorem rlast_s  : Spec Tryz.prog 42 [.agg l.abs, int k] [] (fun _ : Unit => []) (fun _ => .tup [.agg (Oc.abs ((l.last k).getD Oc.zero)), boo (l.last k).isSome]) := by
  refine spec_of Tryz.func42 rfl Tryz.ntmps42 rfl fun G w => ?_
  refine SC.seq (SC.region ?_)
  refine SL.eff (Eff.boxA (cs := l.abs) rfl) rfl rfl ?_
  rintro _ _ ⟨b2, rfl, rfl⟩
  refine SL.eff (Eff.alloc tabOk rfl) rfl rfl ?_
  rintro _ _ ⟨b4, rfl, rfl⟩
  refine SL.val (Val.assign rfl) rfl rfl ?_
  refine SL.nil (SE.seq ?_)
  refine SC.seq ?_
  refine SC.seq (SC.region ?_)
  refine SL.val (Val.fieldAddr tabOk rfl rfl rfl rfl rfl) rfl rfl ?_
  refine SL.val (Val.to (C := .sl 3 (l.os.map Oc.abs)) (Val.load1 tabOk rfl rfl (by first|(apply Or.inl;(repeat first|assumption|exact m0|apply m1);done)|(apply Or.inr;(repeat first|assumption|exact m0|apply m1);done)) List.not_mem_nil (by rfl)) rfl) rfl rfl ?_
  first
    | refine SL.val (Val.lenSl rfl Tryz.underlying42 (List.length_map _)) rfl rfl ?_
    | refine SL.val (Val.lenOwn rfl (by repeat first|assumption|exact m0|apply m1) Tryz.underlying42 (List.length_map _)) rfl rfl ?_
    | refine SL.val (Val.lenNil rfl Tryz.underlying42) rfl rfl ?_
  refine SL.val (Val.move rfl) rfl rfl ?_
  refine SL.nil (SE.seq ?_)
  refine SC.block ?_
  refine SC.rowLe (i := 9) rfl fun hrow => ?_
  rw [List.length_map] at hrow
  unfold maxLen at hrow
  refine SC.loop (ι := Nat) (fun z => [.blk b4 77 (Oc.abs Oc.zero)]) (fun z => [(1, int k), (4, ptr b4), (9, outA l.os), (10, int (l.os.length : Nat)), (11, int (z : Nat))]) (fun z => z ≤ l.os.length ∧ ∀ j (h : j < l.os.length), j < z → ¬ l.os[j].client = k) (fun z => l.os.length - z) (0) (⟨Nat.zero_le _, fun j h h2 => by omega⟩) (by exact ⟨rfl, rfl, rfl, rfl, rfl, trivial⟩) (by repeat first|exact s0 _|exact s1 _|apply s2|apply s3) ?_
  intro z hz
  refine SC.seq (SC.region ?_)
  refine SL.val (Val.ltI rfl rfl) rfl rfl ?_
  refine SL.nil (SE.seq ?_)
  refine SC.seq ?_
  refine SC.condP rfl ?_ ?_
  rotate_left
  · intro hc12
    refine SC.exit ?_
    refine SE.then_ (by intro h; cases h) ?_
    refine SE.then_ (by intro h; cases h) ?_
    refine SE.exit ?_
    refine SE.seq ?_
    refine SC.seq (SC.region ?_)
    refine SL.val (Val.buildS tabOk rfl rfl rfl rfl) rfl rfl ?_
    refine SL.eff (Eff.store (L' := Oc.abs Oc.zero) tabOk rfl rfl rfl (by repeat first|assumption|exact Upd.here|apply Upd.there) rfl (Nat.le_of_ble_eq_true (by rfl)) rfl (by exact putL_whole rfl)) rfl rfl ?_
    rintro _ _ ⟨rfl, rfl⟩
    refine SL.val (Val.assign rfl) rfl rfl ?_
    refine SL.nil (SE.seq ?_)
    refine SC.ret ?_
    have hfn : l.last k = none := by
      unfold Lg.last
      rw [List.find?_eq_none]
      intro y hy
      obtain ⟨j, hj, rfl⟩ := List.getElem_of_mem hy
      simpa using hz.2 j hj (by omega)
    refine SE.fin (rs := [.cell 4 77, .tmp 5]) rfl (RV.cell rfl (RV.cellA tabOk rfl rfl (by first|(apply Or.inl;(repeat first|assumption|exact m0|apply m1);done)|(apply Or.inr;(repeat first|assumption|exact m0|apply m1);done)) (by rfl)) (RV.tmp rfl RV.nil)) (()) (by repeat first|exact s0 _|exact s1 _|apply s2|apply s3) (by simp [It.rids]) ?_
    rw [hfn]
    rfl
  intro hc12
  have hlt : z < l.os.length := by omega
  refine SC.skip ?_
  refine SE.seq ?_
  refine SC.seq ?_
  refine SC.block ?_
  refine SC.seq (SC.region ?_)
  refine SL.val (Val.indexSl tabOk Tryz.underlying42 rfl rfl rfl rfl (at_map (by omega)) rfl rfl) rfl rfl ?_
  refine SL.val (Val.loadAR tabOk rfl rfl rfl (by rfl)) rfl rfl ?_
  refine SL.eff (Eff.alloc tabOk rfl) rfl rfl ?_
  rintro _ _ ⟨b7, rfl, rfl⟩
  refine SL.eff (Eff.store (L' := Oc.abs (l.os[z]'hlt)) tabOk rfl rfl rfl (by repeat first|assumption|exact Upd.here|apply Upd.there) rfl (Nat.le_of_ble_eq_true (by rfl)) rfl (by exact putL_whole rfl)) rfl rfl ?_
  rintro _ _ ⟨rfl, rfl⟩
  refine SL.nil (SE.seq ?_)
  refine SC.seq (SC.region ?_)
  refine SL.val (Val.fieldAddr tabOk rfl rfl rfl rfl rfl) rfl rfl ?_
  refine SL.val (Val.to (C := int (l.os[z]'hlt).client) (Val.load1 tabOk rfl rfl (by first|(apply Or.inl;(repeat first|assumption|exact m0|apply m1);done)|(apply Or.inr;(repeat first|assumption|exact m0|apply m1);done)) List.not_mem_nil (by rfl)) rfl) rfl rfl ?_
  refine SL.val (Val.move rfl) rfl rfl ?_
  refine SL.val (Val.eqI rfl rfl) rfl rfl ?_
  refine SL.nil (SE.seq ?_)
  refine SC.condP rfl ?_ ?_
  rotate_left
  · intro hc18
    refine SC.skip ?_
    refine SE.inBlock ?_
    refine SE.seq ?_
    refine SC.region ?_
    first
      | refine SL.val (Val.addI rfl rfl (by simp only [InR, lo, hi]; omega)) rfl rfl ?_
      | refine SL.val (Val.addW rfl rfl) rfl rfl ?_
    refine SL.val (Val.move rfl) rfl rfl ?_
    refine SL.nil ?_
    refine SE.round (z + 1) (by first | omega | (dsimp only; omega)) (⟨by omega, fun j h h2 => by rcases Nat.lt_or_ge j z with h3 | h3; exact hz.2 j h h3; obtain rfl : j = z := (by omega); exact hc18⟩) (by exact ⟨rfl, rfl, rfl, rfl, rfl, trivial⟩) (by repeat first|exact s0 _|exact s1 _|apply s2|apply s3)
  intro hc18
  refine SC.seq (SC.region ?_)
  refine SL.val (Val.loadA tabOk rfl rfl rfl (by first|(apply Or.inl;(repeat first|assumption|exact m0|apply m1);done)|(apply Or.inr;(repeat first|assumption|exact m0|apply m1);done)) List.not_mem_nil (by rfl)) rfl rfl ?_
  refine SL.eff (Eff.store (L' := Oc.abs (l.os[z]'hlt)) tabOk rfl rfl rfl (by repeat first|assumption|exact Upd.here|apply Upd.there) rfl (Nat.le_of_ble_eq_true (by rfl)) rfl (by exact putL_whole rfl)) rfl rfl ?_
  rintro _ _ ⟨rfl, rfl⟩
  refine SL.val (Val.assign rfl) rfl rfl ?_
  refine SL.nil (SE.seq ?_)
  refine SC.ret ?_
  refine SE.ret ?_
  refine SE.then_ (by intro h; cases h) ?_
  refine SE.then_ (by intro h; cases h) ?_
  refine SE.ret ?_
  refine SE.then_ (by intro h; cases h) ?_
  have hfs : l.last k = some (l.os[z]'hlt) := by
    unfold Lg.last
    rw [List.find?_eq_some_iff_getElem]
    exact ⟨decide_eq_true hc18, z, hlt, rfl, fun j hj => by simpa using hz.2 j (by omega) hj⟩
  refine SE.fin (rs := [.cell 4 77, .tmp 5]) rfl (RV.cell rfl (RV.cellA tabOk rfl rfl (by first|(apply Or.inl;(repeat first|assumption|exact m0|apply m1);done)|(apply Or.inr;(repeat first|assumption|exact m0|apply m1);done)) (by rfl)) (RV.tmp rfl RV.nil)) (()) (by repeat first|exact s0 _|exact s1 _|apply s2|apply s3) (by simp [It.rids]) ?_
  rw [hfs]
  rfl
end
section
variable {l : Lg} {x : Oc}
set_option maxHeartbeats 4000000 in
theorem rtold_s (hf : l.Few) : Spec Tryz.prog 38 [.agg l.abs, .agg x.abs] [] (fun _ : Unit => []) (fun _ => .agg (l.told x).abs) := by
  have hf1 := hf.ls
  have hf2 := hf.os
  refine spec_of Tryz.func38 rfl Tryz.ntmps38 rfl fun G w => ?_
  refine SC.seq (SC.region ?_)
  refine SL.eff (Eff.boxA (cs := l.abs) rfl) rfl rfl ?_
  rintro _ _ ⟨b2, rfl, rfl⟩
  refine SL.eff (Eff.boxA (cs := x.abs) rfl) rfl rfl ?_
  rintro _ _ ⟨b3, rfl, rfl⟩
  refine SL.eff (Eff.alloc tabOk rfl) rfl rfl ?_
  rintro _ _ ⟨b4, rfl, rfl⟩
  refine SL.nil (SE.seq ?_)
  refine SC.seq (SC.region ?_)
  refine SL.val (Val.assign rfl) rfl rfl ?_
  refine SL.nil (SE.seq ?_)
  refine SC.seq (SC.region ?_)
  refine SL.val (Val.to (C := .agg l.abs) (Val.loadP tabOk rfl rfl rfl (by first|(apply Or.inl;(repeat first|assumption|exact m0|apply m1);done)|(apply Or.inr;(repeat first|assumption|exact m0|apply m1);done)) List.not_mem_nil (Nat.le_of_ble_eq_true (by rfl))) rfl) rfl rfl ?_
  refine SL.val (Val.fieldAddr tabOk rfl rfl rfl rfl rfl) rfl rfl ?_
  refine SL.val (Val.to (C := int x.client) (Val.load1 tabOk rfl rfl (by first|(apply Or.inl;(repeat first|assumption|exact m0|apply m1);done)|(apply Or.inr;(repeat first|assumption|exact m0|apply m1);done)) List.not_mem_nil (by rfl)) rfl) rfl rfl ?_
  refine SL.call (rlast_s (l := l) (k := x.client)) Casts.refl (by kernel_rfl) rfl rfl rfl ?_
  refine After.pure (by repeat (first | exact Reads.nil | (refine Reads.blk ?_ ?_; focus ((repeat first|assumption|exact m0|apply m1); done)) | (refine Reads.rd ?_ ?_; focus ((repeat first|assumption|exact m0|apply m1); done)) | (refine Reads.pc ?_ ?_; focus ((repeat first|assumption|exact m0|apply m1); done)) | (refine Reads.rdpc ?_ ?_; focus ((repeat first|assumption|exact m0|apply m1); done)))) (fun _ => rfl) ?_
  intro _
  rw [show (l.last x.client).isSome = l.os.any (eqO x.client) from find_isSome]
  refine SL.val (Val.move rfl) rfl rfl ?_
  refine SL.val (Val.extract rfl rfl) rfl rfl ?_
  refine SL.val (Val.extract rfl rfl) rfl rfl ?_
  refine SL.eff (Eff.alloc tabOk rfl) rfl rfl ?_
  rintro _ _ ⟨b6, rfl, rfl⟩
  refine SL.eff (Eff.store (L' := Oc.abs ((l.last x.client).getD Oc.zero)) tabOk rfl rfl rfl (by repeat first|assumption|exact Upd.here|apply Upd.there) rfl (Nat.le_of_ble_eq_true (by rfl)) rfl (by exact putL_whole rfl)) rfl rfl ?_
  rintro _ _ ⟨rfl, rfl⟩
  refine SL.val (Val.assign rfl) rfl rfl ?_
  refine SL.nil (SE.seq ?_)
  refine SC.seq (SC.region ?_)
  refine SL.val (Val.assign rfl) rfl rfl ?_
  refine SL.nil (SE.seq ?_)
  refine SC.seq ?_
  refine SC.seq (SC.region ?_)
  refine SL.val (Val.fieldAddr tabOk rfl rfl rfl rfl rfl) rfl rfl ?_
  refine SL.val (Val.to (C := .sl 3 (l.os.map Oc.abs)) (Val.load1 tabOk rfl rfl (by first|(apply Or.inl;(repeat first|assumption|exact m0|apply m1);done)|(apply Or.inr;(repeat first|assumption|exact m0|apply m1);done)) List.not_mem_nil (by rfl)) rfl) rfl rfl ?_
  first
    | refine SL.val (Val.lenSl rfl Tryz.underlying42 (List.length_map _)) rfl rfl ?_
    | refine SL.val (Val.lenOwn rfl (by repeat first|assumption|exact m0|apply m1) Tryz.underlying42 (List.length_map _)) rfl rfl ?_
    | refine SL.val (Val.lenNil rfl Tryz.underlying42) rfl rfl ?_
  refine SL.val (Val.move rfl) rfl rfl ?_
  refine SL.nil (SE.seq ?_)
  refine SC.block ?_
  refine SC.rowLe (i := 19) rfl fun hrow => ?_
  rw [List.length_map] at hrow
  unfold maxLen at hrow
  refine SC.own0 77 3 ?_
  refine SC.loop (ι := Nat × Value) (fun u => (own 77 3 u.2 (((gAt (eqO x.client) (gtO x.client) (l.os.any (eqO x.client)) x l.os (u.1)).1).map Oc.abs) :: [.blk b6 77 (Oc.abs ((l.last x.client).getD Oc.zero)), .blk b4 44 (zabs [.int .i64 0, .int .i64 0, .slice none 0 0, .slice none 0 0]), .blk b3 77 x.abs, .blk b2 44 l.abs])) (fun u => [(2, ptr b2), (3, ptr b3), (4, ptr b4), (7, boo (l.os.any (eqO x.client))), (5, .v u.2), (8, boo (gAt (eqO x.client) (gtO x.client) (l.os.any (eqO x.client)) x l.os (u.1)).2), (19, .sl 3 (l.os.map Oc.abs)), (20, int (l.os.length : Nat)), (21, int (u.1 : Nat))]) (fun u => u.1 ≤ l.os.length) (fun u => l.os.length - u.1) (0, .slice none 0 0) (Nat.zero_le _) (by exact ⟨rfl, rfl, rfl, rfl, rfl, rfl, rfl, rfl, rfl, trivial⟩) (by repeat first|exact s0 _|exact s1 _|apply s2|apply s3) ?_
  intro u hu
  refine SC.seq (SC.region ?_)
  refine SL.val (Val.ltI rfl rfl) rfl rfl ?_
  refine SL.nil (SE.seq ?_)
  refine SC.seq ?_
  refine SC.condP rfl ?_ ?_
  rotate_left
  · intro hc22
    have hal := gAt_len (eq := eqO x.client) (gt := gtO x.client) (th := (l.os.any (eqO x.client))) (x := x) (l := l.os) u.1
    refine SC.exit ?_
    refine SE.then_ (by intro h; cases h) ?_
    refine SE.then_ (by intro h; cases h) ?_
    refine SE.exit ?_
    refine SE.seq ?_
    refine SC.cutS (ι := Value) (fun z => (own 77 3 z ((withG (eqO x.client) (gtO x.client) x l.os).map Oc.abs) :: [.blk b6 77 (Oc.abs ((l.last x.client).getD Oc.zero)), .blk b4 44 (zabs [.int .i64 0, .int .i64 0, .slice none 0 0, .slice none 0 0]), .blk b3 77 x.abs, .blk b2 44 l.abs])) (fun z => [(2, ptr b2), (3, ptr b3), (4, ptr b4), (5, .v z)]) (fun z => True) ?_ ?_
    · skip
      refine SC.seq (SC.region ?_)
      refine SL.val (Val.move rfl) rfl rfl ?_
      refine SL.val (Val.notB rfl) rfl rfl ?_
      refine SL.nil (SE.seq ?_)
      refine SC.cond rfl ?_ ?_
      rotate_left
      · intro hc59
        refine SC.skip ?_
        have hge : gFin x (gAt (eqO x.client) (gtO x.client) (l.os.any (eqO x.client)) x l.os (u.1)) = _ := gAt_end (by omega)
        unfold gFin at hge
        rw [if_pos (by simpa using hc59)] at hge
        refine SE.meet (u.2) (trivial) (by exact ⟨rfl, rfl, rfl, rfl, trivial⟩) (by rw [← hge]; repeat (first | exact List.nil_sublist _ | exact List.Sublist.refl _ | apply List.Sublist.cons_cons | apply List.Sublist.cons))
      intro hc59
      refine SC.region ?_
      refine SL.val (Val.move rfl) rfl rfl ?_
      refine SL.val (Val.loadA tabOk rfl rfl rfl (by first|(apply Or.inl;(repeat first|assumption|exact m0|apply m1);done)|(apply Or.inr;(repeat first|assumption|exact m0|apply m1);done)) List.not_mem_nil (by rfl)) rfl rfl ?_
      refine SL.eff (Eff.buildSl tabOk Tryz.underlying42 rfl rfl rfl rfl rfl rfl rfl) rfl rfl ?_
      rintro _ _ ⟨rfl, rfl⟩
      refine SL.eff (Eff.appendE (zs := ((gAt (eqO x.client) (gtO x.client) (l.os.any (eqO x.client)) x l.os (u.1)).1 ++ [x]).map Oc.abs) tabOk [] (by simp only [List.map_append]; rfl) Tryz.underlying42 rfl rfl rfl rfl rfl rfl (by intro c hc; rw [List.mem_singleton] at hc; subst hc; rfl) (by unfold maxLen; simp only [List.length_map, List.length_append, List.length_cons, List.length_nil]; omega) (by rw [show Tryz.prog.bytesOf 77 = 24 by kernel_rfl]; simp only [List.length_map, List.length_append, List.length_cons, List.length_nil]; omega)) rfl rfl ?_
      rintro _ _ ⟨r63, rfl, rfl⟩
      refine SL.val (Val.assign rfl) rfl rfl ?_
      refine SL.nil ?_
      have hge : gFin x (gAt (eqO x.client) (gtO x.client) (l.os.any (eqO x.client)) x l.os (u.1)) = _ := gAt_end (by omega)
      unfold gFin at hge
      rw [if_neg (by simpa using hc59)] at hge
      refine SE.meet (r63) (trivial) (by exact ⟨rfl, rfl, rfl, rfl, trivial⟩) (by rw [← hge]; repeat (first | exact List.nil_sublist _ | exact List.Sublist.refl _ | apply List.Sublist.cons_cons | apply List.Sublist.cons))
    · intro z hz
      refine SC.freeze [] (t := 5) rfl rfl ?_
      refine SC.seq (SC.region ?_)
      refine SL.val (Val.move rfl) rfl rfl ?_
      refine SL.val (Val.fieldAddr tabOk rfl rfl rfl rfl rfl) rfl rfl ?_
      refine SL.eff (Eff.store (L' := (l.told x).abs) tabOk rfl rfl rfl (by repeat first|assumption|exact Upd.here|apply Upd.there) rfl (Nat.le_of_ble_eq_true (by rfl)) rfl (by rfl)) rfl rfl ?_
      rintro _ _ ⟨rfl, rfl⟩
      refine SL.nil (SE.seq ?_)
      refine SC.seq (SC.region ?_)
      refine SL.val (Val.to (C := .agg (l.told x).abs) (Val.loadP tabOk rfl rfl rfl (by first|(apply Or.inl;(repeat first|assumption|exact m0|apply m1);done)|(apply Or.inr;(repeat first|assumption|exact m0|apply m1);done)) List.not_mem_nil (Nat.le_of_ble_eq_true (by rfl))) rfl) rfl rfl ?_
      refine SL.eff (Eff.store (L' := (l.told x).abs) tabOk rfl rfl rfl (by repeat first|assumption|exact Upd.here|apply Upd.there) rfl (Nat.le_of_ble_eq_true (by rfl)) rfl (by exact putL_whole rfl)) rfl rfl ?_
      rintro _ _ ⟨rfl, rfl⟩
      refine SL.nil (SE.seq ?_)
      refine SC.ret ?_
      refine SE.fin (rs := [.cell 4 44]) rfl (RV.cell rfl (RV.cellA tabOk rfl rfl (by first|(apply Or.inl;(repeat first|assumption|exact m0|apply m1);done)|(apply Or.inr;(repeat first|assumption|exact m0|apply m1);done)) (by rfl)) RV.nil) (()) (by repeat first|exact s0 _|exact s1 _|apply s2|apply s3) (by simp [It.rids]) ?_
      exact rfl
  intro hc22
  have hlt : u.1 < l.os.length := by omega
  have hal := gAt_len (eq := eqO x.client) (gt := gtO x.client) (th := (l.os.any (eqO x.client))) (x := x) (l := l.os) u.1
  refine SC.skip ?_
  refine SE.seq ?_
  refine SC.seq ?_
  refine SC.block ?_
  refine SC.seq (SC.region ?_)
  refine SL.val (Val.indexSl tabOk Tryz.underlying42 rfl rfl rfl rfl (at_map (by omega)) rfl rfl) rfl rfl ?_
  refine SL.val (Val.loadAR tabOk rfl rfl rfl (by rfl)) rfl rfl ?_
  refine SL.eff (Eff.alloc tabOk rfl) rfl rfl ?_
  rintro _ _ ⟨b10, rfl, rfl⟩
  refine SL.eff (Eff.store (L' := Oc.abs (l.os[u.1]'hlt)) tabOk rfl rfl rfl (by repeat first|assumption|exact Upd.here|apply Upd.there) rfl (Nat.le_of_ble_eq_true (by rfl)) rfl (by exact putL_whole rfl)) rfl rfl ?_
  rintro _ _ ⟨rfl, rfl⟩
  refine SL.nil (SE.seq ?_)
  refine SC.seq ?_
  refine SC.cutS (ι := Unit) (fun z => (.blk b10 77 (Oc.abs (l.os[u.1]'hlt)) :: own 77 3 u.2 (((gAt (eqO x.client) (gtO x.client) (l.os.any (eqO x.client)) x l.os (u.1)).1).map Oc.abs) :: [.blk b6 77 (Oc.abs ((l.last x.client).getD Oc.zero)), .blk b4 44 (zabs [.int .i64 0, .int .i64 0, .slice none 0 0, .slice none 0 0]), .blk b3 77 x.abs, .blk b2 44 l.abs])) (fun z => [(2, ptr b2), (3, ptr b3), (4, ptr b4), (7, boo (l.os.any (eqO x.client))), (5, .v u.2), (8, boo (gAt (eqO x.client) (gtO x.client) (l.os.any (eqO x.client)) x l.os (u.1)).2), (19, .sl 3 (l.os.map Oc.abs)), (20, int (l.os.length : Nat)), (21, int (u.1 : Nat)), (47, boo (!(gAt (eqO x.client) (gtO x.client) (l.os.any (eqO x.client)) x l.os (u.1)).2 && pickP (l.os.any (eqO x.client)) (eqO x.client) (gtO x.client) (l.os[u.1]'hlt))), (10, ptr b10)]) (fun z => True) ?_ ?_
  · skip
    refine SC.region ?_
    refine SL.val (Val.move rfl) rfl rfl ?_
    refine SL.val (Val.notB rfl) rfl rfl ?_
    refine SL.val (Val.move rfl) rfl rfl ?_
    refine SL.both (t := 27) rfl ?_ ?_
    rotate_left
    · intro hc27
      iterate 19 refine SL.skip rfl rfl ?_
      refine SL.val (Val.pickF rfl rfl) rfl rfl ?_
      refine SL.nil ?_
      refine SE.meet (()) (trivial) (by exact ⟨rfl, rfl, rfl, rfl, rfl, rfl, rfl, rfl, rfl, congrArg (fun b : Bool => some (boo b)) (show _ = (!(gAt (eqO x.client) (gtO x.client) (l.os.any (eqO x.client)) x l.os (u.1)).2 && pickP (l.os.any (eqO x.client)) (eqO x.client) (gtO x.client) (l.os[u.1]'hlt)) by (obtain ⟨P, hP⟩ : ∃ P, (gAt (eqO x.client) (gtO x.client) (l.os.any (eqO x.client)) x l.os (u.1)).2 = P := ⟨_, rfl⟩; rw [hP] at hc27; rw [hP]; clear hP hal; obtain ⟨T, hT⟩ : ∃ T, (l.os.any (eqO x.client)) = T := ⟨_, rfl⟩; (try rw [hT] at hc29); (try rw [hT] at hc39); rw [hT]; clear hT; cases P <;> cases T <;> simp_all [pickP])), rfl, trivial⟩) (by repeat first|exact s0 _|exact s1 _|apply s2|apply s3)
    intro hc27
    refine SL.val (Val.move rfl) rfl rfl ?_
    refine SL.val (Val.move rfl) rfl rfl ?_
    refine SL.both (t := 29) rfl ?_ ?_
    rotate_left
    · intro hc29
      iterate 5 refine SL.skip rfl rfl ?_
      refine SL.val (Val.pickF rfl rfl) rfl rfl ?_
      refine SL.val (Val.move rfl) rfl rfl ?_
      refine SL.val (Val.move rfl) rfl rfl ?_
      refine SL.val (Val.notB rfl) rfl rfl ?_
      refine SL.val (Val.move rfl) rfl rfl ?_
      refine SL.both (t := 39) rfl ?_ ?_
      · intro hc39
        refine SL.val (Val.fieldAddr tabOk rfl rfl rfl rfl rfl) rfl rfl ?_
        refine SL.val (Val.to (C := int (l.os[u.1]'hlt).client) (Val.load1 tabOk rfl rfl (by first|(apply Or.inl;(repeat first|assumption|exact m0|apply m1);done)|(apply Or.inr;(repeat first|assumption|exact m0|apply m1);done)) List.not_mem_nil (by rfl)) rfl) rfl rfl ?_
        refine SL.val (Val.fieldAddr tabOk rfl rfl rfl rfl rfl) rfl rfl ?_
        refine SL.val (Val.to (C := int x.client) (Val.load1 tabOk rfl rfl (by first|(apply Or.inl;(repeat first|assumption|exact m0|apply m1);done)|(apply Or.inr;(repeat first|assumption|exact m0|apply m1);done)) List.not_mem_nil (by rfl)) rfl) rfl rfl ?_
        refine SL.val (Val.gtI rfl rfl) rfl rfl ?_
        refine SL.val (Val.pickT rfl rfl) rfl rfl ?_
        refine SL.val (Val.pickF rfl rfl) rfl rfl ?_
        refine SL.val (Val.pickT rfl rfl) rfl rfl ?_
        refine SL.nil ?_
        refine SE.meet (()) (trivial) (by exact ⟨rfl, rfl, rfl, rfl, rfl, rfl, rfl, rfl, rfl, congrArg (fun b : Bool => some (boo b)) (show _ = (!(gAt (eqO x.client) (gtO x.client) (l.os.any (eqO x.client)) x l.os (u.1)).2 && pickP (l.os.any (eqO x.client)) (eqO x.client) (gtO x.client) (l.os[u.1]'hlt)) by (obtain ⟨P, hP⟩ : ∃ P, (gAt (eqO x.client) (gtO x.client) (l.os.any (eqO x.client)) x l.os (u.1)).2 = P := ⟨_, rfl⟩; rw [hP] at hc27; rw [hP]; clear hP hal; obtain ⟨T, hT⟩ : ∃ T, (l.os.any (eqO x.client)) = T := ⟨_, rfl⟩; (try rw [hT] at hc29); (try rw [hT] at hc39); rw [hT]; clear hT; cases P <;> cases T <;> simp_all [pickP])), rfl, trivial⟩) (by repeat first|exact s0 _|exact s1 _|apply s2|apply s3)
      intro hc39
      iterate 5 refine SL.skip rfl rfl ?_
      refine SL.val (Val.pickF rfl rfl) rfl rfl ?_
      refine SL.val (Val.pickF rfl rfl) rfl rfl ?_
      refine SL.val (Val.pickT rfl rfl) rfl rfl ?_
      refine SL.nil ?_
      refine SE.meet (()) (trivial) (by exact ⟨rfl, rfl, rfl, rfl, rfl, rfl, rfl, rfl, rfl, congrArg (fun b : Bool => some (boo b)) (show _ = (!(gAt (eqO x.client) (gtO x.client) (l.os.any (eqO x.client)) x l.os (u.1)).2 && pickP (l.os.any (eqO x.client)) (eqO x.client) (gtO x.client) (l.os[u.1]'hlt)) by (obtain ⟨P, hP⟩ : ∃ P, (gAt (eqO x.client) (gtO x.client) (l.os.any (eqO x.client)) x l.os (u.1)).2 = P := ⟨_, rfl⟩; rw [hP] at hc27; rw [hP]; clear hP hal; obtain ⟨T, hT⟩ : ∃ T, (l.os.any (eqO x.client)) = T := ⟨_, rfl⟩; (try rw [hT] at hc29); (try rw [hT] at hc39); rw [hT]; clear hT; cases P <;> cases T <;> simp_all [pickP])), rfl, trivial⟩) (by repeat first|exact s0 _|exact s1 _|apply s2|apply s3)
    intro hc29
    refine SL.val (Val.fieldAddr tabOk rfl rfl rfl rfl rfl) rfl rfl ?_
    refine SL.val (Val.to (C := int (l.os[u.1]'hlt).client) (Val.load1 tabOk rfl rfl (by first|(apply Or.inl;(repeat first|assumption|exact m0|apply m1);done)|(apply Or.inr;(repeat first|assumption|exact m0|apply m1);done)) List.not_mem_nil (by rfl)) rfl) rfl rfl ?_
    refine SL.val (Val.fieldAddr tabOk rfl rfl rfl rfl rfl) rfl rfl ?_
    refine SL.val (Val.to (C := int x.client) (Val.load1 tabOk rfl rfl (by first|(apply Or.inl;(repeat first|assumption|exact m0|apply m1);done)|(apply Or.inr;(repeat first|assumption|exact m0|apply m1);done)) List.not_mem_nil (by rfl)) rfl) rfl rfl ?_
    refine SL.val (Val.eqI rfl rfl) rfl rfl ?_
    refine SL.val (Val.pickT rfl rfl) rfl rfl ?_
    refine SL.val (Val.move rfl) rfl rfl ?_
    refine SL.bothP (t := 36) rfl ?_ ?_
    · intro hc36
      iterate 9 refine SL.skip rfl rfl ?_
      refine SL.val (Val.pickT rfl rfl) rfl rfl ?_
      refine SL.val (Val.pickT rfl rfl) rfl rfl ?_
      refine SL.nil ?_
      refine SE.meet (()) (trivial) (by exact ⟨rfl, rfl, rfl, rfl, rfl, rfl, rfl, rfl, rfl, congrArg (fun b : Bool => some (boo b)) (show _ = (!(gAt (eqO x.client) (gtO x.client) (l.os.any (eqO x.client)) x l.os (u.1)).2 && pickP (l.os.any (eqO x.client)) (eqO x.client) (gtO x.client) (l.os[u.1]'hlt)) by (obtain ⟨P, hP⟩ : ∃ P, (gAt (eqO x.client) (gtO x.client) (l.os.any (eqO x.client)) x l.os (u.1)).2 = P := ⟨_, rfl⟩; rw [hP] at hc27; rw [hP]; clear hP hal; obtain ⟨T, hT⟩ : ∃ T, (l.os.any (eqO x.client)) = T := ⟨_, rfl⟩; (try rw [hT] at hc29); (try rw [hT] at hc39); rw [hT]; clear hT; cases P <;> cases T <;> simp_all [pickP])), rfl, trivial⟩) (by repeat first|exact s0 _|exact s1 _|apply s2|apply s3)
    intro hc36
    refine SL.val (Val.move rfl) rfl rfl ?_
    refine SL.val (Val.notB rfl) rfl rfl ?_
    refine SL.val (Val.move rfl) rfl rfl ?_
    refine SL.both (t := 39) rfl ?_ ?_
    · intro hc39
      refine SL.val (Val.fieldAddr tabOk rfl rfl rfl rfl rfl) rfl rfl ?_
      refine SL.val (Val.to (C := int (l.os[u.1]'hlt).client) (Val.load1 tabOk rfl rfl (by first|(apply Or.inl;(repeat first|assumption|exact m0|apply m1);done)|(apply Or.inr;(repeat first|assumption|exact m0|apply m1);done)) List.not_mem_nil (by rfl)) rfl) rfl rfl ?_
      refine SL.val (Val.fieldAddr tabOk rfl rfl rfl rfl rfl) rfl rfl ?_
      refine SL.val (Val.to (C := int x.client) (Val.load1 tabOk rfl rfl (by first|(apply Or.inl;(repeat first|assumption|exact m0|apply m1);done)|(apply Or.inr;(repeat first|assumption|exact m0|apply m1);done)) List.not_mem_nil (by rfl)) rfl) rfl rfl ?_
      refine SL.val (Val.gtI rfl rfl) rfl rfl ?_
      refine SL.val (Val.pickT rfl rfl) rfl rfl ?_
      refine SL.val (Val.pickF rfl rfl) rfl rfl ?_
      refine SL.val (Val.pickT rfl rfl) rfl rfl ?_
      refine SL.nil ?_
      refine SE.meet (()) (trivial) (by exact ⟨rfl, rfl, rfl, rfl, rfl, rfl, rfl, rfl, rfl, congrArg (fun b : Bool => some (boo b)) (show _ = (!(gAt (eqO x.client) (gtO x.client) (l.os.any (eqO x.client)) x l.os (u.1)).2 && pickP (l.os.any (eqO x.client)) (eqO x.client) (gtO x.client) (l.os[u.1]'hlt)) by (obtain ⟨P, hP⟩ : ∃ P, (gAt (eqO x.client) (gtO x.client) (l.os.any (eqO x.client)) x l.os (u.1)).2 = P := ⟨_, rfl⟩; rw [hP] at hc27; rw [hP]; clear hP hal; obtain ⟨T, hT⟩ : ∃ T, (l.os.any (eqO x.client)) = T := ⟨_, rfl⟩; (try rw [hT] at hc29); (try rw [hT] at hc39); rw [hT]; clear hT; cases P <;> cases T <;> simp_all [pickP])), rfl, trivial⟩) (by repeat first|exact s0 _|exact s1 _|apply s2|apply s3)
    intro hc39
    iterate 5 refine SL.skip rfl rfl ?_
    refine SL.val (Val.pickF rfl rfl) rfl rfl ?_
    refine SL.val (Val.pickF rfl rfl) rfl rfl ?_
    refine SL.val (Val.pickT rfl rfl) rfl rfl ?_
    refine SL.nil ?_
    refine SE.meet (()) (trivial) (by exact ⟨rfl, rfl, rfl, rfl, rfl, rfl, rfl, rfl, rfl, congrArg (fun b : Bool => some (boo b)) (show _ = (!(gAt (eqO x.client) (gtO x.client) (l.os.any (eqO x.client)) x l.os (u.1)).2 && pickP (l.os.any (eqO x.client)) (eqO x.client) (gtO x.client) (l.os[u.1]'hlt)) by (obtain ⟨P, hP⟩ : ∃ P, (gAt (eqO x.client) (gtO x.client) (l.os.any (eqO x.client)) x l.os (u.1)).2 = P := ⟨_, rfl⟩; rw [hP] at hc27; rw [hP]; clear hP hal; obtain ⟨T, hT⟩ : ∃ T, (l.os.any (eqO x.client)) = T := ⟨_, rfl⟩; (try rw [hT] at hc29); (try rw [hT] at hc39); rw [hT]; clear hT; cases P <;> cases T <;> simp_all [pickP])), rfl, trivial⟩) (by repeat first|exact s0 _|exact s1 _|apply s2|apply s3)
  · intro z hz
    refine SC.cond rfl ?_ ?_
    rotate_left
    · intro hc47
      have hg : (gAt (eqO x.client) (gtO x.client) (l.os.any (eqO x.client)) x l.os (u.1 + 1)) = _ := gAt_step hlt
      unfold gStep at hg
      rw [if_neg (by rw [hc47]; decide)] at hg
      refine SC.skip ?_
      refine SE.seq ?_
      refine SC.region ?_
      refine SL.val (Val.move rfl) rfl rfl ?_
      refine SL.val (Val.loadA tabOk rfl rfl rfl (by first|(apply Or.inl;(repeat first|assumption|exact m0|apply m1);done)|(apply Or.inr;(repeat first|assumption|exact m0|apply m1);done)) List.not_mem_nil (by rfl)) rfl rfl ?_
      refine SL.eff (Eff.buildSl tabOk Tryz.underlying42 rfl rfl rfl rfl rfl rfl rfl) rfl rfl ?_
      rintro _ _ ⟨rfl, rfl⟩
      refine SL.eff (Eff.appendE (zs := ((gAt (eqO x.client) (gtO x.client) (l.os.any (eqO x.client)) x l.os (u.1)).1 ++ [(l.os[u.1]'hlt)]).map Oc.abs) tabOk [_] (by simp only [List.map_append]; rfl) Tryz.underlying42 rfl rfl rfl rfl rfl rfl (by intro c hc; rw [List.mem_singleton] at hc; subst hc; rfl) (by unfold maxLen; simp only [List.length_map, List.length_append, List.length_cons, List.length_nil]; omega) (by rw [show Tryz.prog.bytesOf 77 = 24 by kernel_rfl]; simp only [List.length_map, List.length_append, List.length_cons, List.length_nil]; omega)) rfl rfl ?_
      rintro _ _ ⟨r56, rfl, rfl⟩
      refine SL.val (Val.assign rfl) rfl rfl ?_
      refine SL.nil ?_
      refine SE.inBlock ?_
      refine SE.seq ?_
      refine SC.region ?_
      first
        | refine SL.val (Val.addI rfl rfl (by simp only [InR, lo, hi]; omega)) rfl rfl ?_
        | refine SL.val (Val.addW rfl rfl) rfl rfl ?_
      refine SL.val (Val.move rfl) rfl rfl ?_
      refine SL.nil ?_
      refine SE.round (u.1 + 1, r56) (by first | omega | (dsimp only; omega)) (by dsimp only; omega) (by exact ⟨rfl, rfl, rfl, rfl, rfl, congrArg (fun b : Bool => some (boo b)) (by rw [hg]), rfl, rfl, rfl, trivial⟩) (by rw [hg]; repeat (first | exact List.nil_sublist _ | exact List.Sublist.refl _ | apply List.Sublist.cons_cons | apply List.Sublist.cons))
    intro hc47
    have hg : (gAt (eqO x.client) (gtO x.client) (l.os.any (eqO x.client)) x l.os (u.1 + 1)) = _ := gAt_step hlt
    unfold gStep at hg
    rw [if_pos hc47] at hg
    refine SC.seq (SC.region ?_)
    refine SL.val (Val.move rfl) rfl rfl ?_
    refine SL.val (Val.loadA tabOk rfl rfl rfl (by first|(apply Or.inl;(repeat first|assumption|exact m0|apply m1);done)|(apply Or.inr;(repeat first|assumption|exact m0|apply m1);done)) List.not_mem_nil (by rfl)) rfl rfl ?_
    refine SL.eff (Eff.buildSl tabOk Tryz.underlying42 rfl rfl rfl rfl rfl rfl rfl) rfl rfl ?_
    rintro _ _ ⟨rfl, rfl⟩
    refine SL.eff (Eff.appendE (zs := ((gAt (eqO x.client) (gtO x.client) (l.os.any (eqO x.client)) x l.os (u.1)).1 ++ [x]).map Oc.abs) tabOk [_] (by simp only [List.map_append]; rfl) Tryz.underlying42 rfl rfl rfl rfl rfl rfl (by intro c hc; rw [List.mem_singleton] at hc; subst hc; rfl) (by unfold maxLen; simp only [List.length_map, List.length_append, List.length_cons, List.length_nil]; omega) (by rw [show Tryz.prog.bytesOf 77 = 24 by kernel_rfl]; simp only [List.length_map, List.length_append, List.length_cons, List.length_nil]; omega)) rfl rfl ?_
    rintro _ _ ⟨r51, rfl, rfl⟩
    refine SL.val (Val.assign rfl) rfl rfl ?_
    refine SL.nil (SE.seq ?_)
    refine SC.seq (SC.region ?_)
    refine SL.val (Val.assign rfl) rfl rfl ?_
    refine SL.nil (SE.seq ?_)
    refine SC.seq (SC.region ?_)
    refine SL.val (Val.move rfl) rfl rfl ?_
    refine SL.nil (SE.seq ?_)
    refine SC.cond rfl ?_ ?_
    · intro hc52
      refine SC.exit ?_
      refine SE.then_ (by intro h; cases h) ?_
      refine SE.exit ?_
      refine SE.seq ?_
      refine SC.region ?_
      first
        | refine SL.val (Val.addI rfl rfl (by simp only [InR, lo, hi]; omega)) rfl rfl ?_
        | refine SL.val (Val.addW rfl rfl) rfl rfl ?_
      refine SL.val (Val.move rfl) rfl rfl ?_
      refine SL.nil ?_
      rw [if_pos hc52] at hg
      refine SE.round (u.1 + 1, r51) (by first | omega | (dsimp only; omega)) (by dsimp only; omega) (by exact ⟨rfl, rfl, rfl, rfl, rfl, congrArg (fun b : Bool => some (boo b)) (by rw [hg]), rfl, rfl, rfl, trivial⟩) (by rw [hg]; repeat (first | exact List.nil_sublist _ | exact List.Sublist.refl _ | apply List.Sublist.cons_cons | apply List.Sublist.cons))
    intro hc52
    refine SC.skip ?_
    refine SE.seq ?_
    refine SC.region ?_
    refine SL.val (Val.move rfl) rfl rfl ?_
    refine SL.val (Val.loadA tabOk rfl rfl rfl (by first|(apply Or.inl;(repeat first|assumption|exact m0|apply m1);done)|(apply Or.inr;(repeat first|assumption|exact m0|apply m1);done)) List.not_mem_nil (by rfl)) rfl rfl ?_
    refine SL.eff (Eff.buildSl tabOk Tryz.underlying42 rfl rfl rfl rfl rfl rfl rfl) rfl rfl ?_
    rintro _ _ ⟨rfl, rfl⟩
    refine SL.eff (Eff.appendE (zs := ((gAt (eqO x.client) (gtO x.client) (l.os.any (eqO x.client)) x l.os (u.1)).1 ++ [x] ++ [(l.os[u.1]'hlt)]).map Oc.abs) tabOk [_] (by simp only [List.map_append]; rfl) Tryz.underlying42 rfl rfl rfl rfl rfl rfl (by intro c hc; rw [List.mem_singleton] at hc; subst hc; rfl) (by unfold maxLen; simp only [List.length_map, List.length_append, List.length_cons, List.length_nil]; omega) (by rw [show Tryz.prog.bytesOf 77 = 24 by kernel_rfl]; simp only [List.length_map, List.length_append, List.length_cons, List.length_nil]; omega)) rfl rfl ?_
    rintro _ _ ⟨r56, rfl, rfl⟩
    refine SL.val (Val.assign rfl) rfl rfl ?_
    refine SL.nil ?_
    refine SE.inBlock ?_
    refine SE.seq ?_
    refine SC.region ?_
    first
      | refine SL.val (Val.addI rfl rfl (by simp only [InR, lo, hi]; omega)) rfl rfl ?_
      | refine SL.val (Val.addW rfl rfl) rfl rfl ?_
    refine SL.val (Val.move rfl) rfl rfl ?_
    refine SL.nil ?_
    rw [if_neg (by rw [hc52]; decide)] at hg
    refine SE.round (u.1 + 1, r56) (by first | omega | (dsimp only; omega)) (by dsimp only; omega) (by exact ⟨rfl, rfl, rfl, rfl, rfl, congrArg (fun b : Bool => some (boo b)) (by rw [hg]), rfl, rfl, rfl, trivial⟩) (by rw [hg]; repeat (first | exact List.nil_sublist _ | exact List.Sublist.refl _ | apply List.Sublist.cons_cons | apply List.Sublist.cons))
end
section
variable {l : Lg} {x : Ltr}
set_option maxHeartbeats 4000000 in
theorem rwith_s (hf : l.Few) (hs : x.name.size ≤ lots) : Spec Tryz.prog 47 [.agg l.abs, .agg (ltrA x)] [] (fun _ : Unit => []) (fun _ => .tup [.agg (l.with_ x).1.abs, int (l.with_ x).2]) := by
  have hf1 := hf.ls
  have hf2 := hf.os
  have hwl := withG_length (eq := eqL x.name) (gt := gtL x.name) (x := x) l.ls
  refine spec_of Tryz.func47 rfl Tryz.ntmps47 rfl fun G w => ?_
  refine SC.seq (SC.region ?_)
  refine SL.eff (Eff.boxA (cs := l.abs) rfl) rfl rfl ?_
  rintro _ _ ⟨b2, rfl, rfl⟩
  refine SL.eff (Eff.boxA (cs := ltrA x) rfl) rfl rfl ?_
  rintro _ _ ⟨b3, rfl, rfl⟩
  refine SL.eff (Eff.alloc tabOk rfl) rfl rfl ?_
  rintro _ _ ⟨b4, rfl, rfl⟩
  refine SL.val (Val.assign rfl) rfl rfl ?_
  refine SL.nil (SE.seq ?_)
  refine SC.seq ?_
  refine SC.seq (SC.region ?_)
  refine SL.val (Val.fieldAddr tabOk rfl rfl rfl rfl rfl) rfl rfl ?_
  refine SL.val (Val.to (C := st x.name) (Val.load1 tabOk rfl rfl (by first|(apply Or.inl;(repeat first|assumption|exact m0|apply m1);done)|(apply Or.inr;(repeat first|assumption|exact m0|apply m1);done)) List.not_mem_nil (by rfl)) rfl) rfl rfl ?_
  refine SL.call (risname_s (s := x.name) hs) Casts.refl (by kernel_rfl) rfl rfl rfl ?_
  refine After.pure (by repeat (first | exact Reads.nil | (refine Reads.blk ?_ ?_; focus ((repeat first|assumption|exact m0|apply m1); done)) | (refine Reads.rd ?_ ?_; focus ((repeat first|assumption|exact m0|apply m1); done)) | (refine Reads.pc ?_ ?_; focus ((repeat first|assumption|exact m0|apply m1); done)) | (refine Reads.rdpc ?_ ?_; focus ((repeat first|assumption|exact m0|apply m1); done)))) (fun _ => rfl) ?_
  intro _
  refine SL.val (Val.notB rfl) rfl rfl ?_
  refine SL.nil (SE.seq ?_)
  refine SC.cond rfl ?_ ?_
  · intro hc15
    have hnb : nameB x.name = false := by simpa using hc15
    refine SC.seq (SC.region ?_)
    refine SL.val (Val.buildS tabOk rfl rfl rfl rfl) rfl rfl ?_
    refine SL.eff (Eff.store (L' := (zabs [.int .i64 0, .int .i64 0, .slice none 0 0, .slice none 0 0])) tabOk rfl rfl rfl (by repeat first|assumption|exact Upd.here|apply Upd.there) rfl (Nat.le_of_ble_eq_true (by rfl)) rfl (by exact putL_whole rfl)) rfl rfl ?_
    rintro _ _ ⟨rfl, rfl⟩
    refine SL.val (Val.assign rfl) rfl rfl ?_
    refine SL.nil (SE.seq ?_)
    refine SC.ret ?_
    refine SE.then_ (by intro h; cases h) ?_
    refine SE.finC (rs := [.cell 4 44, .tmp 5]) rfl (RV.cell rfl (RV.cellA tabOk rfl rfl (by first|(apply Or.inl;(repeat first|assumption|exact m0|apply m1);done)|(apply Or.inr;(repeat first|assumption|exact m0|apply m1);done)) (by rfl)) (RV.tmp rfl RV.nil)) (Casts.cons (cast_agg (Casts.keep (Casts.keep (Casts.nils (s := 6) (Casts.nils (s := 3) Casts.refl))))) Casts.refl) (()) (by repeat first|exact s0 _|exact s1 _|apply s2|apply s3) (by simp [It.rids]) ?_
    unfold Lg.with_
    rw [if_pos hnb]
    rfl
  intro hc15
  have hnb : ¬ nameB x.name = false := by simpa using hc15
  refine SC.skip ?_
  refine SE.seq ?_
  refine SC.seq (SC.region ?_)
  refine SL.val (Val.assign rfl) rfl rfl ?_
  refine SL.nil (SE.seq ?_)
  refine SC.seq (SC.region ?_)
  refine SL.val (Val.to (C := .agg l.abs) (Val.loadP tabOk rfl rfl rfl (by first|(apply Or.inl;(repeat first|assumption|exact m0|apply m1);done)|(apply Or.inr;(repeat first|assumption|exact m0|apply m1);done)) List.not_mem_nil (Nat.le_of_ble_eq_true (by rfl))) rfl) rfl rfl ?_
  refine SL.val (Val.fieldAddr tabOk rfl rfl rfl rfl rfl) rfl rfl ?_
  refine SL.val (Val.to (C := st x.name) (Val.load1 tabOk rfl rfl (by first|(apply Or.inl;(repeat first|assumption|exact m0|apply m1);done)|(apply Or.inr;(repeat first|assumption|exact m0|apply m1);done)) List.not_mem_nil (by rfl)) rfl) rfl rfl ?_
  refine SL.call (rfind_s (l := l) (s := x.name)) Casts.refl (by kernel_rfl) rfl rfl rfl ?_
  refine After.pure (by repeat (first | exact Reads.nil | (refine Reads.blk ?_ ?_; focus ((repeat first|assumption|exact m0|apply m1); done)) | (refine Reads.rd ?_ ?_; focus ((repeat first|assumption|exact m0|apply m1); done)) | (refine Reads.pc ?_ ?_; focus ((repeat first|assumption|exact m0|apply m1); done)) | (refine Reads.rdpc ?_ ?_; focus ((repeat first|assumption|exact m0|apply m1); done)))) (fun _ => rfl) ?_
  intro _
  rw [show (l.find x.name).isSome = l.ls.any (eqL x.name) from find_isSome]
  refine SL.val (Val.move rfl) rfl rfl ?_
  refine SL.val (Val.extract rfl rfl) rfl rfl ?_
  refine SL.val (Val.extract rfl rfl) rfl rfl ?_
  refine SL.eff (Eff.alloc tabOk rfl) rfl rfl ?_
  rintro _ _ ⟨b7, rfl, rfl⟩
  refine SL.eff (Eff.store (L' := ltrA ((l.find x.name).getD Ltr.none)) tabOk rfl rfl rfl (by repeat first|assumption|exact Upd.here|apply Upd.there) rfl (Nat.le_of_ble_eq_true (by rfl)) rfl (by exact putL_whole rfl)) rfl rfl ?_
  rintro _ _ ⟨rfl, rfl⟩
  refine SL.val (Val.assign rfl) rfl rfl ?_
  refine SL.nil (SE.seq ?_)
  refine SC.seq (SC.region ?_)
  refine SL.val (Val.assign rfl) rfl rfl ?_
  refine SL.nil (SE.seq ?_)
  refine SC.seq ?_
  refine SC.seq (SC.region ?_)
  refine SL.val (Val.fieldAddr tabOk rfl rfl rfl rfl rfl) rfl rfl ?_
  refine SL.val (Val.to (C := .sl 6 (l.ls.map ltrA)) (Val.load1 tabOk rfl rfl (by first|(apply Or.inl;(repeat first|assumption|exact m0|apply m1);done)|(apply Or.inr;(repeat first|assumption|exact m0|apply m1);done)) List.not_mem_nil (by rfl)) rfl) rfl rfl ?_
  first
    | refine SL.val (Val.lenSl rfl Tryz.underlying41 (List.length_map _)) rfl rfl ?_
    | refine SL.val (Val.lenOwn rfl (by repeat first|assumption|exact m0|apply m1) Tryz.underlying41 (List.length_map _)) rfl rfl ?_
    | refine SL.val (Val.lenNil rfl Tryz.underlying41) rfl rfl ?_
  refine SL.val (Val.move rfl) rfl rfl ?_
  refine SL.nil (SE.seq ?_)
  refine SC.block ?_
  refine SC.rowLe (i := 25) rfl fun hrow => ?_
  rw [List.length_map] at hrow
  unfold maxLen at hrow
  refine SC.own0 47 6 ?_
  refine SC.loop (ι := Nat × Value) (fun u => (own 47 6 u.2 (((gAt (eqL x.name) (gtL x.name) (l.ls.any (eqL x.name)) x l.ls (u.1)).1).map ltrA) :: [.blk b7 47 (ltrA ((l.find x.name).getD Ltr.none)), .blk b4 44 (zabs [.int .i64 0, .int .i64 0, .slice none 0 0, .slice none 0 0]), .blk b3 47 (ltrA x), .blk b2 44 l.abs])) (fun u => [(2, ptr b2), (3, ptr b3), (4, ptr b4), (8, boo (l.ls.any (eqL x.name))), (6, .v u.2), (9, boo (gAt (eqL x.name) (gtL x.name) (l.ls.any (eqL x.name)) x l.ls (u.1)).2), (25, .sl 6 (l.ls.map ltrA)), (26, int (l.ls.length : Nat)), (27, int (u.1 : Nat))]) (fun u => u.1 ≤ l.ls.length) (fun u => l.ls.length - u.1) (0, .slice none 0 0) (Nat.zero_le _) (by exact ⟨rfl, rfl, rfl, rfl, rfl, rfl, rfl, rfl, rfl, trivial⟩) (by repeat first|exact s0 _|exact s1 _|apply s2|apply s3) ?_
  intro u hu
  refine SC.seq (SC.region ?_)
  refine SL.val (Val.ltI rfl rfl) rfl rfl ?_
  refine SL.nil (SE.seq ?_)
  refine SC.seq ?_
  refine SC.condP rfl ?_ ?_
  rotate_left
  · intro hc28
    have hal := gAt_len (eq := eqL x.name) (gt := gtL x.name) (th := (l.ls.any (eqL x.name))) (x := x) (l := l.ls) u.1
    refine SC.exit ?_
    refine SE.then_ (by intro h; cases h) ?_
    refine SE.then_ (by intro h; cases h) ?_
    refine SE.exit ?_
    refine SE.seq ?_
    refine SC.cutS (ι := Value) (fun z => (own 47 6 z ((withG (eqL x.name) (gtL x.name) x l.ls).map ltrA) :: [.blk b7 47 (ltrA ((l.find x.name).getD Ltr.none)), .blk b4 44 (zabs [.int .i64 0, .int .i64 0, .slice none 0 0, .slice none 0 0]), .blk b3 47 (ltrA x), .blk b2 44 l.abs])) (fun z => [(2, ptr b2), (3, ptr b3), (4, ptr b4), (6, .v z)]) (fun z => True) ?_ ?_
    · skip
      refine SC.seq (SC.region ?_)
      refine SL.val (Val.move rfl) rfl rfl ?_
      refine SL.val (Val.notB rfl) rfl rfl ?_
      refine SL.nil (SE.seq ?_)
      refine SC.cond rfl ?_ ?_
      rotate_left
      · intro hc65
        refine SC.skip ?_
        have hge : gFin x (gAt (eqL x.name) (gtL x.name) (l.ls.any (eqL x.name)) x l.ls (u.1)) = _ := gAt_end (by omega)
        unfold gFin at hge
        rw [if_pos (by simpa using hc65)] at hge
        refine SE.meet (u.2) (trivial) (by exact ⟨rfl, rfl, rfl, rfl, trivial⟩) (by rw [← hge]; repeat (first | exact List.nil_sublist _ | exact List.Sublist.refl _ | apply List.Sublist.cons_cons | apply List.Sublist.cons))
      intro hc65
      refine SC.region ?_
      refine SL.val (Val.move rfl) rfl rfl ?_
      refine SL.val (Val.loadA tabOk rfl rfl rfl (by first|(apply Or.inl;(repeat first|assumption|exact m0|apply m1);done)|(apply Or.inr;(repeat first|assumption|exact m0|apply m1);done)) List.not_mem_nil (by rfl)) rfl rfl ?_
      refine SL.eff (Eff.buildSl tabOk Tryz.underlying41 rfl rfl rfl rfl rfl rfl rfl) rfl rfl ?_
      rintro _ _ ⟨rfl, rfl⟩
      refine SL.eff (Eff.appendE (zs := ((gAt (eqL x.name) (gtL x.name) (l.ls.any (eqL x.name)) x l.ls (u.1)).1 ++ [x]).map ltrA) tabOk [] (by simp only [List.map_append]; rfl) Tryz.underlying41 rfl rfl rfl rfl rfl rfl (by intro c hc; rw [List.mem_singleton] at hc; subst hc; rfl) (by unfold maxLen; simp only [List.length_map, List.length_append, List.length_cons, List.length_nil]; omega) (by rw [show Tryz.prog.bytesOf 47 = 72 by kernel_rfl]; simp only [List.length_map, List.length_append, List.length_cons, List.length_nil]; omega)) rfl rfl ?_
      rintro _ _ ⟨r69, rfl, rfl⟩
      refine SL.val (Val.assign rfl) rfl rfl ?_
      refine SL.nil ?_
      have hge : gFin x (gAt (eqL x.name) (gtL x.name) (l.ls.any (eqL x.name)) x l.ls (u.1)) = _ := gAt_end (by omega)
      unfold gFin at hge
      rw [if_neg (by simpa using hc65)] at hge
      refine SE.meet (r69) (trivial) (by exact ⟨rfl, rfl, rfl, rfl, trivial⟩) (by rw [← hge]; repeat (first | exact List.nil_sublist _ | exact List.Sublist.refl _ | apply List.Sublist.cons_cons | apply List.Sublist.cons))
    · intro z hz
      refine SC.seq ?_
      refine SC.seq (SC.region ?_)
      refine SL.val (Val.move rfl) rfl rfl ?_
      refine SL.val (Val.lenOwn (m := (withG (eqL x.name) (gtL x.name) x l.ls).length) rfl (by repeat first|assumption|exact m0|apply m1) Tryz.underlying41 (List.length_map _)) rfl rfl ?_
      refine SL.val (Val.gtI rfl rfl) rfl rfl ?_
      refine SL.nil (SE.seq ?_)
      refine SC.condP rfl ?_ ?_
      · intro hc72
        have hle2 : 16 < (l.putL x).ls.length := by show 16 < (withG (eqL x.name) (gtL x.name) x l.ls).length; omega
        refine SC.seq (SC.region ?_)
        refine SL.val (Val.buildS tabOk rfl rfl rfl rfl) rfl rfl ?_
        refine SL.eff (Eff.store (L' := (zabs [.int .i64 0, .int .i64 0, .slice none 0 0, .slice none 0 0])) tabOk rfl rfl rfl (by repeat first|assumption|exact Upd.here|apply Upd.there) rfl (Nat.le_of_ble_eq_true (by rfl)) rfl (by exact putL_whole rfl)) rfl rfl ?_
        rintro _ _ ⟨rfl, rfl⟩
        refine SL.val (Val.assign rfl) rfl rfl ?_
        refine SL.nil (SE.seq ?_)
        refine SC.ret ?_
        refine SE.then_ (by intro h; cases h) ?_
        refine SE.finC (rs := [.cell 4 44, .tmp 5]) rfl (RV.cell rfl (RV.cellA tabOk rfl rfl (by first|(apply Or.inl;(repeat first|assumption|exact m0|apply m1);done)|(apply Or.inr;(repeat first|assumption|exact m0|apply m1);done)) (by rfl)) (RV.tmp rfl RV.nil)) (Casts.cons (cast_agg (Casts.keep (Casts.keep (Casts.nils (s := 6) (Casts.nils (s := 3) Casts.refl))))) Casts.refl) (()) (by repeat first|exact s0 _|exact s1 _|apply s2|apply s3) (by simp [It.rids]) ?_
        unfold Lg.with_
        rw [if_neg hnb, if_pos hle2]
        rfl
      intro hc72
      have hle2 : ¬ 16 < (l.putL x).ls.length := by show ¬ 16 < (withG (eqL x.name) (gtL x.name) x l.ls).length; omega
      refine SC.freeze [] (t := 6) rfl rfl ?_
      refine SC.skip ?_
      refine SE.seq ?_
      refine SC.seq (SC.region ?_)
      refine SL.val (Val.move rfl) rfl rfl ?_
      refine SL.val (Val.fieldAddr tabOk rfl rfl rfl rfl rfl) rfl rfl ?_
      refine SL.eff (Eff.store (L' := (l.putL x).abs) tabOk rfl rfl rfl (by repeat first|assumption|exact Upd.here|apply Upd.there) rfl (Nat.le_of_ble_eq_true (by rfl)) rfl (by rfl)) rfl rfl ?_
      rintro _ _ ⟨rfl, rfl⟩
      refine SL.nil (SE.seq ?_)
      refine SC.seq (SC.region ?_)
      refine SL.val (Val.to (C := .agg (l.putL x).abs) (Val.loadP tabOk rfl rfl rfl (by first|(apply Or.inl;(repeat first|assumption|exact m0|apply m1);done)|(apply Or.inr;(repeat first|assumption|exact m0|apply m1);done)) List.not_mem_nil (Nat.le_of_ble_eq_true (by rfl))) rfl) rfl rfl ?_
      refine SL.eff (Eff.store (L' := (l.putL x).abs) tabOk rfl rfl rfl (by repeat first|assumption|exact Upd.here|apply Upd.there) rfl (Nat.le_of_ble_eq_true (by rfl)) rfl (by exact putL_whole rfl)) rfl rfl ?_
      rintro _ _ ⟨rfl, rfl⟩
      refine SL.val (Val.assign rfl) rfl rfl ?_
      refine SL.nil (SE.seq ?_)
      refine SC.ret ?_
      refine SE.fin (rs := [.cell 4 44, .tmp 5]) rfl (RV.cell rfl (RV.cellA tabOk rfl rfl (by first|(apply Or.inl;(repeat first|assumption|exact m0|apply m1);done)|(apply Or.inr;(repeat first|assumption|exact m0|apply m1);done)) (by rfl)) (RV.tmp rfl RV.nil)) (()) (by repeat first|exact s0 _|exact s1 _|apply s2|apply s3) (by simp [It.rids]) ?_
      unfold Lg.with_
      rw [if_neg hnb, if_neg hle2]
      rfl
  intro hc28
  have hlt : u.1 < l.ls.length := by omega
  have hal := gAt_len (eq := eqL x.name) (gt := gtL x.name) (th := (l.ls.any (eqL x.name))) (x := x) (l := l.ls) u.1
  refine SC.skip ?_
  refine SE.seq ?_
  refine SC.seq ?_
  refine SC.block ?_
  refine SC.seq (SC.region ?_)
  refine SL.val (Val.indexSl tabOk Tryz.underlying41 rfl rfl rfl rfl (at_map (by omega)) rfl rfl) rfl rfl ?_
  refine SL.val (Val.loadAR tabOk rfl rfl rfl (by rfl)) rfl rfl ?_
  refine SL.eff (Eff.alloc tabOk rfl) rfl rfl ?_
  rintro _ _ ⟨b11, rfl, rfl⟩
  refine SL.eff (Eff.store (L' := ltrA (l.ls[u.1]'hlt)) tabOk rfl rfl rfl (by repeat first|assumption|exact Upd.here|apply Upd.there) rfl (Nat.le_of_ble_eq_true (by rfl)) rfl (by exact putL_whole rfl)) rfl rfl ?_
  rintro _ _ ⟨rfl, rfl⟩
  refine SL.nil (SE.seq ?_)
  refine SC.seq ?_
  refine SC.cutS (ι := Unit) (fun z => (.blk b11 47 (ltrA (l.ls[u.1]'hlt)) :: own 47 6 u.2 (((gAt (eqL x.name) (gtL x.name) (l.ls.any (eqL x.name)) x l.ls (u.1)).1).map ltrA) :: [.blk b7 47 (ltrA ((l.find x.name).getD Ltr.none)), .blk b4 44 (zabs [.int .i64 0, .int .i64 0, .slice none 0 0, .slice none 0 0]), .blk b3 47 (ltrA x), .blk b2 44 l.abs])) (fun z => [(2, ptr b2), (3, ptr b3), (4, ptr b4), (8, boo (l.ls.any (eqL x.name))), (6, .v u.2), (9, boo (gAt (eqL x.name) (gtL x.name) (l.ls.any (eqL x.name)) x l.ls (u.1)).2), (25, .sl 6 (l.ls.map ltrA)), (26, int (l.ls.length : Nat)), (27, int (u.1 : Nat)), (53, boo (!(gAt (eqL x.name) (gtL x.name) (l.ls.any (eqL x.name)) x l.ls (u.1)).2 && pickP (l.ls.any (eqL x.name)) (eqL x.name) (gtL x.name) (l.ls[u.1]'hlt))), (11, ptr b11)]) (fun z => True) ?_ ?_
  · skip
    refine SC.region ?_
    refine SL.val (Val.move rfl) rfl rfl ?_
    refine SL.val (Val.notB rfl) rfl rfl ?_
    refine SL.val (Val.move rfl) rfl rfl ?_
    refine SL.both (t := 33) rfl ?_ ?_
    rotate_left
    · intro hc33
      iterate 19 refine SL.skip rfl rfl ?_
      refine SL.val (Val.pickF rfl rfl) rfl rfl ?_
      refine SL.nil ?_
      refine SE.meet (()) (trivial) (by exact ⟨rfl, rfl, rfl, rfl, rfl, rfl, rfl, rfl, rfl, congrArg (fun b : Bool => some (boo b)) (show _ = (!(gAt (eqL x.name) (gtL x.name) (l.ls.any (eqL x.name)) x l.ls (u.1)).2 && pickP (l.ls.any (eqL x.name)) (eqL x.name) (gtL x.name) (l.ls[u.1]'hlt)) by (obtain ⟨P, hP⟩ : ∃ P, (gAt (eqL x.name) (gtL x.name) (l.ls.any (eqL x.name)) x l.ls (u.1)).2 = P := ⟨_, rfl⟩; rw [hP] at hc33; rw [hP]; clear hP hal; obtain ⟨T, hT⟩ : ∃ T, (l.ls.any (eqL x.name)) = T := ⟨_, rfl⟩; (try rw [hT] at hc35); (try rw [hT] at hc45); rw [hT]; clear hT; cases P <;> cases T <;> simp_all [pickP])), rfl, trivial⟩) (by repeat first|exact s0 _|exact s1 _|apply s2|apply s3)
    intro hc33
    refine SL.val (Val.move rfl) rfl rfl ?_
    refine SL.val (Val.move rfl) rfl rfl ?_
    refine SL.both (t := 35) rfl ?_ ?_
    rotate_left
    · intro hc35
      iterate 5 refine SL.skip rfl rfl ?_
      refine SL.val (Val.pickF rfl rfl) rfl rfl ?_
      refine SL.val (Val.move rfl) rfl rfl ?_
      refine SL.val (Val.move rfl) rfl rfl ?_
      refine SL.val (Val.notB rfl) rfl rfl ?_
      refine SL.val (Val.move rfl) rfl rfl ?_
      refine SL.both (t := 45) rfl ?_ ?_
      · intro hc45
        refine SL.val (Val.fieldAddr tabOk rfl rfl rfl rfl rfl) rfl rfl ?_
        refine SL.val (Val.to (C := st (l.ls[u.1]'hlt).name) (Val.load1 tabOk rfl rfl (by first|(apply Or.inl;(repeat first|assumption|exact m0|apply m1);done)|(apply Or.inr;(repeat first|assumption|exact m0|apply m1);done)) List.not_mem_nil (by rfl)) rfl) rfl rfl ?_
        refine SL.val (Val.fieldAddr tabOk rfl rfl rfl rfl rfl) rfl rfl ?_
        refine SL.val (Val.to (C := st x.name) (Val.load1 tabOk rfl rfl (by first|(apply Or.inl;(repeat first|assumption|exact m0|apply m1);done)|(apply Or.inr;(repeat first|assumption|exact m0|apply m1);done)) List.not_mem_nil (by rfl)) rfl) rfl rfl ?_
        refine SL.val (Val.gtS rfl rfl) rfl rfl ?_
        refine SL.val (Val.pickT rfl rfl) rfl rfl ?_
        refine SL.val (Val.pickF rfl rfl) rfl rfl ?_
        refine SL.val (Val.pickT rfl rfl) rfl rfl ?_
        refine SL.nil ?_
        refine SE.meet (()) (trivial) (by exact ⟨rfl, rfl, rfl, rfl, rfl, rfl, rfl, rfl, rfl, congrArg (fun b : Bool => some (boo b)) (show _ = (!(gAt (eqL x.name) (gtL x.name) (l.ls.any (eqL x.name)) x l.ls (u.1)).2 && pickP (l.ls.any (eqL x.name)) (eqL x.name) (gtL x.name) (l.ls[u.1]'hlt)) by (obtain ⟨P, hP⟩ : ∃ P, (gAt (eqL x.name) (gtL x.name) (l.ls.any (eqL x.name)) x l.ls (u.1)).2 = P := ⟨_, rfl⟩; rw [hP] at hc33; rw [hP]; clear hP hal; obtain ⟨T, hT⟩ : ∃ T, (l.ls.any (eqL x.name)) = T := ⟨_, rfl⟩; (try rw [hT] at hc35); (try rw [hT] at hc45); rw [hT]; clear hT; cases P <;> cases T <;> simp_all [pickP])), rfl, trivial⟩) (by repeat first|exact s0 _|exact s1 _|apply s2|apply s3)
      intro hc45
      iterate 5 refine SL.skip rfl rfl ?_
      refine SL.val (Val.pickF rfl rfl) rfl rfl ?_
      refine SL.val (Val.pickF rfl rfl) rfl rfl ?_
      refine SL.val (Val.pickT rfl rfl) rfl rfl ?_
      refine SL.nil ?_
      refine SE.meet (()) (trivial) (by exact ⟨rfl, rfl, rfl, rfl, rfl, rfl, rfl, rfl, rfl, congrArg (fun b : Bool => some (boo b)) (show _ = (!(gAt (eqL x.name) (gtL x.name) (l.ls.any (eqL x.name)) x l.ls (u.1)).2 && pickP (l.ls.any (eqL x.name)) (eqL x.name) (gtL x.name) (l.ls[u.1]'hlt)) by (obtain ⟨P, hP⟩ : ∃ P, (gAt (eqL x.name) (gtL x.name) (l.ls.any (eqL x.name)) x l.ls (u.1)).2 = P := ⟨_, rfl⟩; rw [hP] at hc33; rw [hP]; clear hP hal; obtain ⟨T, hT⟩ : ∃ T, (l.ls.any (eqL x.name)) = T := ⟨_, rfl⟩; (try rw [hT] at hc35); (try rw [hT] at hc45); rw [hT]; clear hT; cases P <;> cases T <;> simp_all [pickP])), rfl, trivial⟩) (by repeat first|exact s0 _|exact s1 _|apply s2|apply s3)
    intro hc35
    refine SL.val (Val.fieldAddr tabOk rfl rfl rfl rfl rfl) rfl rfl ?_
    refine SL.val (Val.to (C := st (l.ls[u.1]'hlt).name) (Val.load1 tabOk rfl rfl (by first|(apply Or.inl;(repeat first|assumption|exact m0|apply m1);done)|(apply Or.inr;(repeat first|assumption|exact m0|apply m1);done)) List.not_mem_nil (by rfl)) rfl) rfl rfl ?_
    refine SL.val (Val.fieldAddr tabOk rfl rfl rfl rfl rfl) rfl rfl ?_
    refine SL.val (Val.to (C := st x.name) (Val.load1 tabOk rfl rfl (by first|(apply Or.inl;(repeat first|assumption|exact m0|apply m1);done)|(apply Or.inr;(repeat first|assumption|exact m0|apply m1);done)) List.not_mem_nil (by rfl)) rfl) rfl rfl ?_
    refine SL.val (Val.eqS rfl rfl) rfl rfl ?_
    refine SL.val (Val.pickT rfl rfl) rfl rfl ?_
    refine SL.val (Val.move rfl) rfl rfl ?_
    refine SL.bothP (t := 42) rfl ?_ ?_
    · intro hc42
      iterate 9 refine SL.skip rfl rfl ?_
      refine SL.val (Val.pickT rfl rfl) rfl rfl ?_
      refine SL.val (Val.pickT rfl rfl) rfl rfl ?_
      refine SL.nil ?_
      refine SE.meet (()) (trivial) (by exact ⟨rfl, rfl, rfl, rfl, rfl, rfl, rfl, rfl, rfl, congrArg (fun b : Bool => some (boo b)) (show _ = (!(gAt (eqL x.name) (gtL x.name) (l.ls.any (eqL x.name)) x l.ls (u.1)).2 && pickP (l.ls.any (eqL x.name)) (eqL x.name) (gtL x.name) (l.ls[u.1]'hlt)) by (obtain ⟨P, hP⟩ : ∃ P, (gAt (eqL x.name) (gtL x.name) (l.ls.any (eqL x.name)) x l.ls (u.1)).2 = P := ⟨_, rfl⟩; rw [hP] at hc33; rw [hP]; clear hP hal; obtain ⟨T, hT⟩ : ∃ T, (l.ls.any (eqL x.name)) = T := ⟨_, rfl⟩; (try rw [hT] at hc35); (try rw [hT] at hc45); rw [hT]; clear hT; cases P <;> cases T <;> simp_all [pickP])), rfl, trivial⟩) (by repeat first|exact s0 _|exact s1 _|apply s2|apply s3)
    intro hc42
    refine SL.val (Val.move rfl) rfl rfl ?_
    refine SL.val (Val.notB rfl) rfl rfl ?_
    refine SL.val (Val.move rfl) rfl rfl ?_
    refine SL.both (t := 45) rfl ?_ ?_
    · intro hc45
      refine SL.val (Val.fieldAddr tabOk rfl rfl rfl rfl rfl) rfl rfl ?_
      refine SL.val (Val.to (C := st (l.ls[u.1]'hlt).name) (Val.load1 tabOk rfl rfl (by first|(apply Or.inl;(repeat first|assumption|exact m0|apply m1);done)|(apply Or.inr;(repeat first|assumption|exact m0|apply m1);done)) List.not_mem_nil (by rfl)) rfl) rfl rfl ?_
      refine SL.val (Val.fieldAddr tabOk rfl rfl rfl rfl rfl) rfl rfl ?_
      refine SL.val (Val.to (C := st x.name) (Val.load1 tabOk rfl rfl (by first|(apply Or.inl;(repeat first|assumption|exact m0|apply m1);done)|(apply Or.inr;(repeat first|assumption|exact m0|apply m1);done)) List.not_mem_nil (by rfl)) rfl) rfl rfl ?_
      refine SL.val (Val.gtS rfl rfl) rfl rfl ?_
      refine SL.val (Val.pickT rfl rfl) rfl rfl ?_
      refine SL.val (Val.pickF rfl rfl) rfl rfl ?_
      refine SL.val (Val.pickT rfl rfl) rfl rfl ?_
      refine SL.nil ?_
      refine SE.meet (()) (trivial) (by exact ⟨rfl, rfl, rfl, rfl, rfl, rfl, rfl, rfl, rfl, congrArg (fun b : Bool => some (boo b)) (show _ = (!(gAt (eqL x.name) (gtL x.name) (l.ls.any (eqL x.name)) x l.ls (u.1)).2 && pickP (l.ls.any (eqL x.name)) (eqL x.name) (gtL x.name) (l.ls[u.1]'hlt)) by (obtain ⟨P, hP⟩ : ∃ P, (gAt (eqL x.name) (gtL x.name) (l.ls.any (eqL x.name)) x l.ls (u.1)).2 = P := ⟨_, rfl⟩; rw [hP] at hc33; rw [hP]; clear hP hal; obtain ⟨T, hT⟩ : ∃ T, (l.ls.any (eqL x.name)) = T := ⟨_, rfl⟩; (try rw [hT] at hc35); (try rw [hT] at hc45); rw [hT]; clear hT; cases P <;> cases T <;> simp_all [pickP])), rfl, trivial⟩) (by repeat first|exact s0 _|exact s1 _|apply s2|apply s3)
    intro hc45
    iterate 5 refine SL.skip rfl rfl ?_
    refine SL.val (Val.pickF rfl rfl) rfl rfl ?_
    refine SL.val (Val.pickF rfl rfl) rfl rfl ?_
    refine SL.val (Val.pickT rfl rfl) rfl rfl ?_
    refine SL.nil ?_
    refine SE.meet (()) (trivial) (by exact ⟨rfl, rfl, rfl, rfl, rfl, rfl, rfl, rfl, rfl, congrArg (fun b : Bool => some (boo b)) (show _ = (!(gAt (eqL x.name) (gtL x.name) (l.ls.any (eqL x.name)) x l.ls (u.1)).2 && pickP (l.ls.any (eqL x.name)) (eqL x.name) (gtL x.name) (l.ls[u.1]'hlt)) by (obtain ⟨P, hP⟩ : ∃ P, (gAt (eqL x.name) (gtL x.name) (l.ls.any (eqL x.name)) x l.ls (u.1)).2 = P := ⟨_, rfl⟩; rw [hP] at hc33; rw [hP]; clear hP hal; obtain ⟨T, hT⟩ : ∃ T, (l.ls.any (eqL x.name)) = T := ⟨_, rfl⟩; (try rw [hT] at hc35); (try rw [hT] at hc45); rw [hT]; clear hT; cases P <;> cases T <;> simp_all [pickP])), rfl, trivial⟩) (by repeat first|exact s0 _|exact s1 _|apply s2|apply s3)
  · intro z hz
    refine SC.cond rfl ?_ ?_
    rotate_left
    · intro hc53
      have hg : (gAt (eqL x.name) (gtL x.name) (l.ls.any (eqL x.name)) x l.ls (u.1 + 1)) = _ := gAt_step hlt
      unfold gStep at hg
      rw [if_neg (by rw [hc53]; decide)] at hg
      refine SC.skip ?_
      refine SE.seq ?_
      refine SC.region ?_
      refine SL.val (Val.move rfl) rfl rfl ?_
      refine SL.val (Val.loadA tabOk rfl rfl rfl (by first|(apply Or.inl;(repeat first|assumption|exact m0|apply m1);done)|(apply Or.inr;(repeat first|assumption|exact m0|apply m1);done)) List.not_mem_nil (by rfl)) rfl rfl ?_
      refine SL.eff (Eff.buildSl tabOk Tryz.underlying41 rfl rfl rfl rfl rfl rfl rfl) rfl rfl ?_
      rintro _ _ ⟨rfl, rfl⟩
      refine SL.eff (Eff.appendE (zs := ((gAt (eqL x.name) (gtL x.name) (l.ls.any (eqL x.name)) x l.ls (u.1)).1 ++ [(l.ls[u.1]'hlt)]).map ltrA) tabOk [_] (by simp only [List.map_append]; rfl) Tryz.underlying41 rfl rfl rfl rfl rfl rfl (by intro c hc; rw [List.mem_singleton] at hc; subst hc; rfl) (by unfold maxLen; simp only [List.length_map, List.length_append, List.length_cons, List.length_nil]; omega) (by rw [show Tryz.prog.bytesOf 47 = 72 by kernel_rfl]; simp only [List.length_map, List.length_append, List.length_cons, List.length_nil]; omega)) rfl rfl ?_
      rintro _ _ ⟨r62, rfl, rfl⟩
      refine SL.val (Val.assign rfl) rfl rfl ?_
      refine SL.nil ?_
      refine SE.inBlock ?_
      refine SE.seq ?_
      refine SC.region ?_
      first
        | refine SL.val (Val.addI rfl rfl (by simp only [InR, lo, hi]; omega)) rfl rfl ?_
        | refine SL.val (Val.addW rfl rfl) rfl rfl ?_
      refine SL.val (Val.move rfl) rfl rfl ?_
      refine SL.nil ?_
      refine SE.round (u.1 + 1, r62) (by first | omega | (dsimp only; omega)) (by dsimp only; omega) (by exact ⟨rfl, rfl, rfl, rfl, rfl, congrArg (fun b : Bool => some (boo b)) (by rw [hg]), rfl, rfl, rfl, trivial⟩) (by rw [hg]; repeat (first | exact List.nil_sublist _ | exact List.Sublist.refl _ | apply List.Sublist.cons_cons | apply List.Sublist.cons))
    intro hc53
    have hg : (gAt (eqL x.name) (gtL x.name) (l.ls.any (eqL x.name)) x l.ls (u.1 + 1)) = _ := gAt_step hlt
    unfold gStep at hg
    rw [if_pos hc53] at hg
    refine SC.seq (SC.region ?_)
    refine SL.val (Val.move rfl) rfl rfl ?_
    refine SL.val (Val.loadA tabOk rfl rfl rfl (by first|(apply Or.inl;(repeat first|assumption|exact m0|apply m1);done)|(apply Or.inr;(repeat first|assumption|exact m0|apply m1);done)) List.not_mem_nil (by rfl)) rfl rfl ?_
    refine SL.eff (Eff.buildSl tabOk Tryz.underlying41 rfl rfl rfl rfl rfl rfl rfl) rfl rfl ?_
    rintro _ _ ⟨rfl, rfl⟩
    refine SL.eff (Eff.appendE (zs := ((gAt (eqL x.name) (gtL x.name) (l.ls.any (eqL x.name)) x l.ls (u.1)).1 ++ [x]).map ltrA) tabOk [_] (by simp only [List.map_append]; rfl) Tryz.underlying41 rfl rfl rfl rfl rfl rfl (by intro c hc; rw [List.mem_singleton] at hc; subst hc; rfl) (by unfold maxLen; simp only [List.length_map, List.length_append, List.length_cons, List.length_nil]; omega) (by rw [show Tryz.prog.bytesOf 47 = 72 by kernel_rfl]; simp only [List.length_map, List.length_append, List.length_cons, List.length_nil]; omega)) rfl rfl ?_
    rintro _ _ ⟨r57, rfl, rfl⟩
    refine SL.val (Val.assign rfl) rfl rfl ?_
    refine SL.nil (SE.seq ?_)
    refine SC.seq (SC.region ?_)
    refine SL.val (Val.assign rfl) rfl rfl ?_
    refine SL.nil (SE.seq ?_)
    refine SC.seq (SC.region ?_)
    refine SL.val (Val.move rfl) rfl rfl ?_
    refine SL.nil (SE.seq ?_)
    refine SC.cond rfl ?_ ?_
    · intro hc58
      refine SC.exit ?_
      refine SE.then_ (by intro h; cases h) ?_
      refine SE.exit ?_
      refine SE.seq ?_
      refine SC.region ?_
      first
        | refine SL.val (Val.addI rfl rfl (by simp only [InR, lo, hi]; omega)) rfl rfl ?_
        | refine SL.val (Val.addW rfl rfl) rfl rfl ?_
      refine SL.val (Val.move rfl) rfl rfl ?_
      refine SL.nil ?_
      rw [if_pos hc58] at hg
      refine SE.round (u.1 + 1, r57) (by first | omega | (dsimp only; omega)) (by dsimp only; omega) (by exact ⟨rfl, rfl, rfl, rfl, rfl, congrArg (fun b : Bool => some (boo b)) (by rw [hg]), rfl, rfl, rfl, trivial⟩) (by rw [hg]; repeat (first | exact List.nil_sublist _ | exact List.Sublist.refl _ | apply List.Sublist.cons_cons | apply List.Sublist.cons))
    intro hc58
    refine SC.skip ?_
    refine SE.seq ?_
    refine SC.region ?_
    refine SL.val (Val.move rfl) rfl rfl ?_
    refine SL.val (Val.loadA tabOk rfl rfl rfl (by first|(apply Or.inl;(repeat first|assumption|exact m0|apply m1);done)|(apply Or.inr;(repeat first|assumption|exact m0|apply m1);done)) List.not_mem_nil (by rfl)) rfl rfl ?_
    refine SL.eff (Eff.buildSl tabOk Tryz.underlying41 rfl rfl rfl rfl rfl rfl rfl) rfl rfl ?_
    rintro _ _ ⟨rfl, rfl⟩
    refine SL.eff (Eff.appendE (zs := ((gAt (eqL x.name) (gtL x.name) (l.ls.any (eqL x.name)) x l.ls (u.1)).1 ++ [x] ++ [(l.ls[u.1]'hlt)]).map ltrA) tabOk [_] (by simp only [List.map_append]; rfl) Tryz.underlying41 rfl rfl rfl rfl rfl rfl (by intro c hc; rw [List.mem_singleton] at hc; subst hc; rfl) (by unfold maxLen; simp only [List.length_map, List.length_append, List.length_cons, List.length_nil]; omega) (by rw [show Tryz.prog.bytesOf 47 = 72 by kernel_rfl]; simp only [List.length_map, List.length_append, List.length_cons, List.length_nil]; omega)) rfl rfl ?_
    rintro _ _ ⟨r62, rfl, rfl⟩
    refine SL.val (Val.assign rfl) rfl rfl ?_
    refine SL.nil ?_
    refine SE.inBlock ?_
    refine SE.seq ?_
    refine SC.region ?_
    first
      | refine SL.val (Val.addI rfl rfl (by simp only [InR, lo, hi]; omega)) rfl rfl ?_
      | refine SL.val (Val.addW rfl rfl) rfl rfl ?_
    refine SL.val (Val.move rfl) rfl rfl ?_
    refine SL.nil ?_
    rw [if_neg (by rw [hc58]; decide)] at hg
    refine SE.round (u.1 + 1, r62) (by first | omega | (dsimp only; omega)) (by dsimp only; omega) (by exact ⟨rfl, rfl, rfl, rfl, rfl, congrArg (fun b : Bool => some (boo b)) (by rw [hg]), rfl, rfl, rfl, trivial⟩) (by rw [hg]; repeat (first | exact List.nil_sublist _ | exact List.Sublist.refl _ | apply List.Sublist.cons_cons | apply List.Sublist.cons))
end
end Go.Proofs.YtnedfcaoggkmnaaGreatDoor.A
/-
  Policies' texts: numbers, read by the program.
-/
set_option maxRecDepth 100000
set_option linter.unusedSimpArgs false
set_option linter.unusedVariables false
namespace Go.Proofs.YtnedfcaoggkmnaaGreatDoor.A
open Go.RowKit

section
variable {l wd : Txt} {odd : Bool} {p : Nat} {es er : Value}
set_option maxHeartbeats 4000000 in
theorem number_s (he : isIf es) (hr : isIf er) (hl : l.length ≤ 100000) : Spec Tryz.prog 105 [ptr p] (.blk p 128 (psA (l) odd) :: globs es er) (fun _ : Unit => [.blk p 128 (psA (numL l) (numO l odd))]) (fun _ => int (numV l)) := by
  have hbl := bare_len l
  have hdl := digs_len (bare l)
  refine spec_of Tryz.func105 rfl Tryz.ntmps105 rfl fun G w => ?_
  refine SC.seq (SC.region ?_)
  refine SL.val (Val.assign rfl) rfl rfl ?_
  refine SL.nil (SE.seq ?_)
  refine SC.seq (SC.region ?_)
  refine SL.val (Val.move rfl) rfl rfl ?_
  refine SL.call (blanks_s (p := p) (l := l) (odd := odd)) Casts.refl (by kernel_rfl) rfl rfl rfl ?_
  refine After.one rfl (by repeat first|assumption|exact m0|apply m1) (fun _ => rfl) ?_
  intro _
  refine ⟨_, (by repeat first|assumption|exact Upd.here|apply Upd.there), ?_⟩
  refine SL.nil (SE.seq ?_)
  refine SC.seq (SC.region ?_)
  refine SL.val (Val.move rfl) rfl rfl ?_
  refine SL.val (Val.nilCheck rfl) rfl rfl ?_
  refine SL.val (Val.fieldAddr tabOk rfl rfl rfl rfl rfl) rfl rfl ?_
  refine SL.val (Val.load1 tabOk rfl rfl (by first|(apply Or.inl;(repeat first|assumption|exact m0|apply m1);done)|(apply Or.inr;(repeat first|assumption|exact m0|apply m1);done)) List.not_mem_nil (by rfl)) rfl rfl ?_
  refine SL.val (Val.to (C := int (((bare l).length : Nat) : Int)) (Val.lenSt rfl Tryz.underlying9) rfl) rfl rfl ?_
  refine SL.val (Val.assign rfl) rfl rfl ?_
  refine SL.nil (SE.seq ?_)
  refine SC.cutS (ι := Unit) (fun z => (.blk p 128 (psA (bare l) odd) :: globs es er)) (fun z => [(0, ptr p), (3, int ((digs (bare l)).length : Nat))]) (fun z => True) ?_ ?_
  · skip
    refine SC.seq (SC.region ?_)
    refine SL.val (Val.move rfl) rfl rfl ?_
    refine SL.val (Val.nilCheck rfl) rfl rfl ?_
    refine SL.val (Val.fieldAddr tabOk rfl rfl rfl rfl rfl) rfl rfl ?_
    refine SL.val (Val.load1 tabOk rfl rfl (by first|(apply Or.inl;(repeat first|assumption|exact m0|apply m1);done)|(apply Or.inr;(repeat first|assumption|exact m0|apply m1);done)) List.not_mem_nil (by rfl)) rfl rfl ?_
    refine SL.eff (Eff.rangeStr rfl Tryz.underlying9) rfl rfl ?_
    rintro _ _ ⟨b20, rfl, rfl⟩
    refine SL.nil (SE.seq ?_)
    refine SC.block ?_
    refine SC.loop (ι := Nat) (fun z => .pc (iterPc b20 ⟨(bare l).toArray⟩ z) :: (.blk p 128 (psA (bare l) odd) :: globs es er)) (fun z => [(0, ptr p), (3, int ((bare l).length : Nat)), (20, ptr b20)]) (fun z => z ≤ (bare l).length ∧ ∀ j (hj : j < (bare l).length), j < z → isDig (bare l)[j] = true) (fun z => (bare l).length - z) (0) (⟨Nat.zero_le _, fun j _ h => absurd h (by omega)⟩) (by exact ⟨rfl, rfl, rfl, trivial⟩) (by repeat first|exact s0 _|exact s1 _|apply s2|apply s3) ?_
    intro z hz
    refine SC.seq (SC.region ?_)
    refine SL.nextStr rfl (by repeat first|assumption|exact m0|apply m1) rfl rfl ?_ ?_
    rotate_left
    · intro hnx
      refine SL.val (Val.extract rfl rfl) rfl rfl ?_
      refine SL.nil (SE.seq ?_)
      refine SC.seq ?_
      refine SC.condF rfl ?_
      refine SC.exit ?_
      refine SE.then_ (by intro h; cases h) ?_
      refine SE.then_ (by intro h; cases h) ?_
      refine SE.exit ?_
      have hdz := digs_all (t := bare l) fun j hj => hz.2 j hj (by have h9 : ¬ z < (bare l).length := hnx; omega)
      refine SE.meet (()) (trivial) (by exact ⟨rfl, congrArg (fun k : Nat => some (int (k : Nat))) hdz.symm, trivial⟩) (by repeat first|exact s0 _|exact s1 _|apply s2|apply s3)
    intro hnx
    refine ⟨_, (by repeat first|assumption|exact Upd.here|apply Upd.there), ?_⟩
    have hd := decode_high ⟨(bare l).toArray⟩ z hnx
    have hz1 : z < (bare l).length := hnx
    have hb8 := ((bare l)[z]'hz1).toNat_lt
    have e1 : ((bare l)[z]'hz1).toNat < 128 → Utf8.decode (ByteArray.mk (bare l).toArray) z = (((bare l)[z]'hz1).toNat, 1) := fun h => decode_ascii ⟨(bare l).toArray⟩ z hnx h
    refine SL.val (Val.extract rfl rfl) rfl rfl ?_
    refine SL.nil (SE.seq ?_)
    refine SC.seq ?_
    refine SC.condT rfl ?_
    refine SC.skip ?_
    refine SE.seq ?_
    refine SC.block ?_
    refine SC.seq (SC.region ?_)
    refine SL.val (Val.extract rfl rfl) rfl rfl ?_
    refine SL.val (Val.extract rfl rfl) rfl rfl ?_
    refine SL.val (Val.assign rfl) rfl rfl ?_
    refine SL.val (Val.assign rfl) rfl rfl ?_
    refine SL.nil (SE.seq ?_)
    refine SC.seq (SC.region ?_)
    refine SL.val (Val.move rfl) rfl rfl ?_
    refine SL.val (Val.ltI rfl rfl) rfl rfl ?_
    refine SL.val (Val.move rfl) rfl rfl ?_
    refine SL.bothP (t := 27) rfl ?_ ?_
    · intro hc27
      iterate 2 refine SL.skip rfl rfl ?_
      refine SL.val (Val.pickT rfl rfl) rfl rfl ?_
      refine SL.nil (SE.seq ?_)
      refine SC.condT rfl ?_
      refine SC.seq (SC.region ?_)
      refine SL.val (Val.move rfl) rfl rfl ?_
      refine SL.val (Val.assign rfl) rfl rfl ?_
      refine SL.nil (SE.seq ?_)
      refine SC.exit ?_
      refine SE.exit_ rfl ?_
      refine SE.then_ (by intro h; cases h) ?_
      refine SE.exit ?_
      have hdn : ¬ isDig ((bare l)[z]'hz1) = true := by
        intro hdd
        have h3 := of_decide_eq_true (show decide (48 ≤ ((bare l)[z]'hz1).toNat ∧ ((bare l)[z]'hz1).toNat ≤ 57) = true from hdd)
        have e2 := e1 (by omega)
        first
          | (rw [e2] at hc27; dsimp only at hc27; omega)
          | (rw [e2] at hc30; dsimp only at hc30; omega)
      have hdz := digs_stop hz1 hz.2 hdn
      refine SE.meet (()) (trivial) (by exact ⟨rfl, congrArg (fun k : Nat => some (int (k : Nat))) hdz.symm, trivial⟩) (by repeat first|exact s0 _|exact s1 _|apply s2|apply s3)
    intro hc27
    refine SL.val (Val.move rfl) rfl rfl ?_
    refine SL.val (Val.gtI rfl rfl) rfl rfl ?_
    refine SL.val (Val.pickF rfl rfl) rfl rfl ?_
    refine SL.nil (SE.seq ?_)
    refine SC.condP rfl ?_ ?_
    rotate_left
    · intro hc30
      refine SC.skip ?_
      refine SE.inBlock ?_
      have h128 : ((bare l)[z]'hz1).toNat < 128 := by
        rcases Nat.lt_or_ge ((bare l)[z]'hz1).toNat 128 with h | h
        · exact h
        · have h2 := hd (by show ¬ ((bare l)[z]'hz1).toNat < 128; omega)
          omega
      have e2 := e1 h128
      have hdd : isDig ((bare l)[z]'hz1) = true := decide_eq_true (by rw [e2] at hc27 hc30; dsimp only at hc27 hc30; omega)
      rw [e2]
      refine SE.round (z + 1) (by first | omega | (dsimp only; omega)) (⟨hz1, fun j hj h => by rcases Nat.lt_or_ge j z with h1 | h1; exact hz.2 j hj h1; obtain rfl : j = z := (by omega); exact hdd⟩) (by exact ⟨rfl, rfl, rfl, trivial⟩) (by repeat first|exact s0 _|exact s1 _|apply s2|apply s3)
    intro hc30
    refine SC.seq (SC.region ?_)
    refine SL.val (Val.move rfl) rfl rfl ?_
    refine SL.val (Val.assign rfl) rfl rfl ?_
    refine SL.nil (SE.seq ?_)
    refine SC.exit ?_
    refine SE.exit_ rfl ?_
    refine SE.then_ (by intro h; cases h) ?_
    refine SE.exit ?_
    have hdn : ¬ isDig ((bare l)[z]'hz1) = true := by
      intro hdd
      have h3 := of_decide_eq_true (show decide (48 ≤ ((bare l)[z]'hz1).toNat ∧ ((bare l)[z]'hz1).toNat ≤ 57) = true from hdd)
      have e2 := e1 (by omega)
      first
        | (rw [e2] at hc27; dsimp only at hc27; omega)
        | (rw [e2] at hc30; dsimp only at hc30; omega)
    have hdz := digs_stop hz1 hz.2 hdn
    refine SE.meet (()) (trivial) (by exact ⟨rfl, congrArg (fun k : Nat => some (int (k : Nat))) hdz.symm, trivial⟩) (by repeat first|exact s0 _|exact s1 _|apply s2|apply s3)
  · intro z hz
    refine SC.seq (SC.region ?_)
    refine SL.val (Val.move rfl) rfl rfl ?_
    refine SL.val (Val.nilCheck rfl) rfl rfl ?_
    refine SL.val (Val.fieldAddr tabOk rfl rfl rfl rfl rfl) rfl rfl ?_
    refine SL.val (Val.load1 tabOk rfl rfl (by first|(apply Or.inl;(repeat first|assumption|exact m0|apply m1);done)|(apply Or.inr;(repeat first|assumption|exact m0|apply m1);done)) List.not_mem_nil (by rfl)) rfl rfl ?_
    refine SL.val (Val.move rfl) rfl rfl ?_
    refine SL.val (Val.to (C := stA (digs (bare l))) (Val.sliceStHi (q := (digs (bare l)).length) Tryz.underlying9 rfl rfl rfl (by simp only [tx_size]; omega)) ((st_hi _ _).trans (congrArg stA (take_digs _)))) rfl rfl ?_
    refine SL.val (Val.assign rfl) rfl rfl ?_
    refine SL.nil (SE.seq ?_)
    refine SC.seq (SC.region ?_)
    refine SL.val (Val.move rfl) rfl rfl ?_
    refine SL.call (atoi_s (l := (digs (bare l))) he hr (by omega)) Casts.refl (by kernel_rfl) rfl rfl rfl ?_
    refine After.pure (by repeat (first | exact Reads.nil | (refine Reads.blk ?_ ?_; focus ((repeat first|assumption|exact m0|apply m1); done)) | (refine Reads.rd ?_ ?_; focus ((repeat first|assumption|exact m0|apply m1); done)) | (refine Reads.pc ?_ ?_; focus ((repeat first|assumption|exact m0|apply m1); done)) | (refine Reads.rdpc ?_ ?_; focus ((repeat first|assumption|exact m0|apply m1); done)))) (fun _ => rfl) ?_
    intro z9
    refine SL.val (Val.move rfl) rfl rfl ?_
    refine SL.val (Val.extract rfl rfl) rfl rfl ?_
    refine SL.val (Val.extract rfl rfl) rfl rfl ?_
    refine SL.val (Val.assign rfl) rfl rfl ?_
    refine SL.val (Val.assign rfl) rfl rfl ?_
    refine SL.nil (SE.seq ?_)
    refine SC.seq ?_
    refine SC.seq (SC.region ?_)
    refine SL.val (Val.move rfl) rfl rfl ?_
    refine SL.val (Val.neIf (c := atoiBad (digs (bare l))) Tryz.underlying157 rfl (atoi_bad z9.2)) rfl rfl ?_
    refine SL.val (Val.move rfl) rfl rfl ?_
    refine SL.both (t := 45) rfl ?_ ?_
    · intro hc45
      iterate 2 refine SL.skip rfl rfl ?_
      refine SL.val (Val.pickT rfl rfl) rfl rfl ?_
      refine SL.val (Val.move rfl) rfl rfl ?_
      iterate 4 refine SL.skip rfl rfl ?_
      refine SL.val (Val.pickT rfl rfl) rfl rfl ?_
      refine SL.nil (SE.seq ?_)
      refine SC.condT rfl ?_
      refine SC.seq (SC.region ?_)
      refine SL.val (Val.move rfl) rfl rfl ?_
      refine SL.val (Val.nilCheck rfl) rfl rfl ?_
      refine SL.val (Val.fieldAddr tabOk rfl rfl rfl rfl rfl) rfl rfl ?_
      refine SL.eff (Eff.store (L' := psA (bare l) true) tabOk rfl rfl rfl (by repeat first|assumption|exact Upd.here|apply Upd.there) rfl (Nat.le_of_ble_eq_true (by rfl)) rfl (by rfl)) rfl rfl ?_
      rintro _ _ ⟨rfl, rfl⟩
      refine SL.nil (SE.seq ?_)
      refine SC.seq (SC.region ?_)
      refine SL.val (Val.assign rfl) rfl rfl ?_
      refine SL.nil (SE.seq ?_)
      refine SC.ret ?_
      refine SE.then_ (by intro h; cases h) ?_
      have hnn : numT (bare l) = none := by
        first
          | exact numT_bad hc45
          | exact numT_long (by omega)
          | exact numT_other hgv.1 (by rw [← hgv.2]; assumption)
      obtain ⟨e1, e2, e3⟩ := num_none hnn odd
      refine SE.fin (rs := [.tmp 2]) rfl (RV.tmp rfl RV.nil) (()) (by rw [e1, e2]; repeat (first | exact List.nil_sublist _ | exact List.Sublist.refl _ | apply List.Sublist.cons_cons | apply List.Sublist.cons)) (by simp [It.rids]) ?_
      rw [e3]
      rfl
    intro hc45
    refine SL.val (Val.move rfl) rfl rfl ?_
    refine SL.val (Val.gtI rfl rfl) rfl rfl ?_
    refine SL.val (Val.pickF rfl rfl) rfl rfl ?_
    refine SL.val (Val.move rfl) rfl rfl ?_
    refine SL.bothP (t := 49) rfl ?_ ?_
    · intro hc49
      iterate 4 refine SL.skip rfl rfl ?_
      refine SL.val (Val.pickT rfl rfl) rfl rfl ?_
      refine SL.nil (SE.seq ?_)
      refine SC.condT rfl ?_
      refine SC.seq (SC.region ?_)
      refine SL.val (Val.move rfl) rfl rfl ?_
      refine SL.val (Val.nilCheck rfl) rfl rfl ?_
      refine SL.val (Val.fieldAddr tabOk rfl rfl rfl rfl rfl) rfl rfl ?_
      refine SL.eff (Eff.store (L' := psA (bare l) true) tabOk rfl rfl rfl (by repeat first|assumption|exact Upd.here|apply Upd.there) rfl (Nat.le_of_ble_eq_true (by rfl)) rfl (by rfl)) rfl rfl ?_
      rintro _ _ ⟨rfl, rfl⟩
      refine SL.nil (SE.seq ?_)
      refine SC.seq (SC.region ?_)
      refine SL.val (Val.assign rfl) rfl rfl ?_
      refine SL.nil (SE.seq ?_)
      refine SC.ret ?_
      refine SE.then_ (by intro h; cases h) ?_
      have hnn : numT (bare l) = none := by
        first
          | exact numT_bad hc45
          | exact numT_long (by omega)
          | exact numT_other hgv.1 (by rw [← hgv.2]; assumption)
      obtain ⟨e1, e2, e3⟩ := num_none hnn odd
      refine SE.fin (rs := [.tmp 2]) rfl (RV.tmp rfl RV.nil) (()) (by rw [e1, e2]; repeat (first | exact List.nil_sublist _ | exact List.Sublist.refl _ | apply List.Sublist.cons_cons | apply List.Sublist.cons)) (by simp [It.rids]) ?_
      rw [e3]
      rfl
    intro hc49
    have hgv := good_val z9.2 hc45 (by omega)
    refine SL.val (Val.move rfl) rfl rfl ?_
    refine SL.call (itoa_s (es := es) (er := er) (v := z9.1.1) (by rw [hgv.2]; have h9 := decV_lt (digs (bare l)) (digs_dig _); have h10 : 10 ^ (digs (bare l)).length ≤ 10 ^ 4 := Nat.pow_le_pow_right (by omega) (by omega); simp only [InR, lo, hi]; omega)) Casts.refl (by kernel_rfl) rfl rfl rfl ?_
    refine After.pure (by repeat (first | exact Reads.nil | (refine Reads.blk ?_ ?_; focus ((repeat first|assumption|exact m0|apply m1); done)) | (refine Reads.rd ?_ ?_; focus ((repeat first|assumption|exact m0|apply m1); done)) | (refine Reads.pc ?_ ?_; focus ((repeat first|assumption|exact m0|apply m1); done)) | (refine Reads.rdpc ?_ ?_; focus ((repeat first|assumption|exact m0|apply m1); done)))) (fun _ => rfl) ?_
    intro _
    refine SL.val (Val.move rfl) rfl rfl ?_
    refine SL.val (Val.to (C := boo (decide (¬ Lib.itoa z9.1.1 = (digs (bare l))))) (Val.neS rfl rfl) (congrArg (fun b => Abs.v (Value.bool b)) (decide_eq_decide.2 (not_congr st_eq)))) rfl rfl ?_
    refine SL.val (Val.pickF rfl rfl) rfl rfl ?_
    refine SL.nil (SE.seq ?_)
    refine SC.condP rfl ?_ ?_
    · intro hc54
      refine SC.seq (SC.region ?_)
      refine SL.val (Val.move rfl) rfl rfl ?_
      refine SL.val (Val.nilCheck rfl) rfl rfl ?_
      refine SL.val (Val.fieldAddr tabOk rfl rfl rfl rfl rfl) rfl rfl ?_
      refine SL.eff (Eff.store (L' := psA (bare l) true) tabOk rfl rfl rfl (by repeat first|assumption|exact Upd.here|apply Upd.there) rfl (Nat.le_of_ble_eq_true (by rfl)) rfl (by rfl)) rfl rfl ?_
      rintro _ _ ⟨rfl, rfl⟩
      refine SL.nil (SE.seq ?_)
      refine SC.seq (SC.region ?_)
      refine SL.val (Val.assign rfl) rfl rfl ?_
      refine SL.nil (SE.seq ?_)
      refine SC.ret ?_
      refine SE.then_ (by intro h; cases h) ?_
      have hnn : numT (bare l) = none := by
        first
          | exact numT_bad hc45
          | exact numT_long (by omega)
          | exact numT_other hgv.1 (by rw [← hgv.2]; assumption)
      obtain ⟨e1, e2, e3⟩ := num_none hnn odd
      refine SE.fin (rs := [.tmp 2]) rfl (RV.tmp rfl RV.nil) (()) (by rw [e1, e2]; repeat (first | exact List.nil_sublist _ | exact List.Sublist.refl _ | apply List.Sublist.cons_cons | apply List.Sublist.cons)) (by simp [It.rids]) ?_
      rw [e3]
      rfl
    intro hc54
    refine SC.skip ?_
    refine SE.seq ?_
    refine SC.seq (SC.region ?_)
    refine SL.val (Val.move rfl) rfl rfl ?_
    refine SL.val (Val.move rfl) rfl rfl ?_
    refine SL.val (Val.nilCheck rfl) rfl rfl ?_
    refine SL.val (Val.fieldAddr tabOk rfl rfl rfl rfl rfl) rfl rfl ?_
    refine SL.val (Val.load1 tabOk rfl rfl (by first|(apply Or.inl;(repeat first|assumption|exact m0|apply m1);done)|(apply Or.inr;(repeat first|assumption|exact m0|apply m1);done)) List.not_mem_nil (by rfl)) rfl rfl ?_
    refine SL.val (Val.move rfl) rfl rfl ?_
    refine SL.val (Val.to (C := stA ((bare l).drop (digs (bare l)).length)) (Val.sliceStLo (q := (digs (bare l)).length) Tryz.underlying9 rfl rfl rfl (by simp only [tx_size]; omega)) (st_lo _ _)) rfl rfl ?_
    refine SL.val (Val.nilCheck rfl) rfl rfl ?_
    refine SL.val (Val.fieldAddr tabOk rfl rfl rfl rfl rfl) rfl rfl ?_
    refine SL.eff (Eff.store (L' := psA ((bare l).drop (digs (bare l)).length) odd) tabOk rfl rfl rfl (by repeat first|assumption|exact Upd.here|apply Upd.there) rfl (Nat.le_of_ble_eq_true (by rfl)) rfl (by rfl)) rfl rfl ?_
    rintro _ _ ⟨rfl, rfl⟩
    refine SL.nil (SE.seq ?_)
    refine SC.seq (SC.region ?_)
    refine SL.val (Val.move rfl) rfl rfl ?_
    refine SL.val (Val.assign rfl) rfl rfl ?_
    refine SL.nil (SE.seq ?_)
    refine SC.ret ?_
    have hi9 : Lib.itoa z9.1.1 = digs (bare l) := Classical.byContradiction fun h => hc54 h
    obtain ⟨e1, e2, e3⟩ := num_some (numT_own hgv.1 (by omega) (by rw [← hgv.2]; exact hi9)) odd
    refine SE.fin (rs := [.tmp 2]) rfl (RV.tmp rfl RV.nil) (()) (by rw [e1, e2]; repeat (first | exact List.nil_sublist _ | exact List.Sublist.refl _ | apply List.Sublist.cons_cons | apply List.Sublist.cons)) (by simp [It.rids]) ?_
    rw [e3, ← hgv.2]
    rfl
end
end Go.Proofs.YtnedfcaoggkmnaaGreatDoor.A
