/-
  Packed out of the texts: EX3, EX4, ClE, A29, A30, A25, EX5, A26.
-/
import Derived.Test.YtickdhjljpnlpaaGreatDoorP012
/-
  Ledgers out of bytes: the program's.
-/
set_option maxRecDepth 100000
set_option linter.unusedSimpArgs false
set_option linter.unusedVariables false
namespace Go.Proofs.YtickdhjljpnlpaaGreatDoor.A
open Go.RowKit

section
variable {l : Lg} {x y : Ltr} {o q : Oc} {a b c k n : Int} {ls : List Ltr} {os : List Oc} {m : List UInt8}
variable {p : Nat} {s : Rd}
set_option maxHeartbeats 1000000 in
theorem readLetter_s (hl : s.l.length ≤ 1000000000) : Spec Tryz.prog 49 [ptr p] [rdA TR p s] (fun _ : Unit => [rdA TR p (Rd.l6 s)]) (fun _ => .agg (ltrA (Rd.ltr s))) := by
 have hL : lots = 100000000000 := rfl
 have n1 := Rd.row_length s 16
 have n2 := (Rd.l1 s).fixed_length 1
 have n3 := (Rd.l2 s).fixed_length 8
 have n4 := (Rd.l3 s).fixed_length 8
 have n5 := Rd.row_length (Rd.l4 s) 200
 have n6 := Rd.row_length (Rd.l5 s) 200
 have m1 : (Rd.l1 s).l.length ≤ s.l.length := n1
 have m2 : (Rd.l2 s).l.length ≤ (Rd.l1 s).l.length := n2
 have m3 : (Rd.l3 s).l.length ≤ (Rd.l2 s).l.length := n3
 have m4 : (Rd.l4 s).l.length ≤ (Rd.l3 s).l.length := n4
 have m5 : (Rd.l5 s).l.length ≤ (Rd.l4 s).l.length := n5
 have m6 : (Rd.l6 s).l.length ≤ (Rd.l5 s).l.length := n6
 refine spec_of Tryz.func49 rfl Tryz.ntmps49 rfl fun G w => ?_
 refine SC.seq (SC.region ?_)
 refine SL.eff (Eff.alloc tabOk rfl) rfl rfl ?_
 rintro _ _ ⟨b2, rfl, rfl⟩
 refine SL.nil (SE.seq ?_)
 refine SC.seq ?_
 refine SC.draw [p] (.q 0 (.q 3 (.two 1 7 (.q 2 (.two 4 7 (.q 5 (.q 6 (.e 7 (.e 8 .nil)))) (.e 4 (.q 5 (.q 6 (.e 8 .nil)))))) (.e 1 (.q 2 (.e 4 (.q 5 (.q 6 (.e 8 .nil))))))))) (by kernel_rfl) (by kernel_rfl) ?_
 refine SX.hx (by first|(simp[mids,It.mids,ownPc];done)|(intro k hk;simp[mids,It.mids,ownPc] at hk ⊢;grind)) fun hx9 => ?_
 refine SX.val rfl (Val.move rfl) hx9 rfl rfl ?_
 refine SX.val rfl (Val.move rfl) hx9 rfl rfl ?_
 refine SX.two ?_ ?_
 ·skip
  refine SX.call rfl (rowr_s (s := s) (n := 16) (by omega) (by omega)) (by simp [mids, It.mids]) Casts.refl (by kernel_rfl) rfl rfl rfl ?_
  refine After.one rfl (by repeat first|assumption|exact m0_|apply m1_) (fun _ => rfl) ?_
  intro _
  refine ⟨_, (by repeat first|assumption|exact Upd.here|apply Upd.there), ?_⟩
  refine SX.hx (by first|(simp[mids,It.mids,ownPc];done)|(intro k hk;simp[mids,It.mids,ownPc] at hk ⊢;grind)) fun hx9 => ?_
  refine SX.val rfl (Val.strOf rfl) hx9 rfl rfl ?_
  refine SX.two ?_ ?_
  ·skip
   refine SX.call rfl (number_s (s := Rd.l1 s) (n := 1) (by omega) rfl) (by simp [mids, It.mids]) Casts.refl (by kernel_rfl) rfl rfl rfl ?_
   refine After.one rfl (by repeat first|assumption|exact m0_|apply m1_) (fun _ => rfl) ?_
   intro _
   refine ⟨_, (by repeat first|assumption|exact Upd.here|apply Upd.there), ?_⟩
   refine SX.hx (by first|(simp[mids,It.mids,ownPc];done)|(intro k hk;simp[mids,It.mids,ownPc] at hk ⊢;grind)) fun hx9 => ?_
   refine SX.val rfl (Val.to (C := int (IntKind.i64.wrap ((Rd.l1 s).num 1 : Nat))) (Val.convW rfl Tryz.underlying3 (by kernel_rfl)) rfl) hx9 rfl rfl ?_
   refine SX.val rfl (Val.buildS (L := [st (mkS (s.rowOut 16)), int (IntKind.i64.wrap ((Rd.l1 s).num 1 : Nat)), int 0, int 0, st ⟨#[]⟩, st ⟨#[]⟩]) tabOk rfl rfl rfl (by rfl)) hx9 rfl rfl ?_
   refine SX.alloc tabOk rfl rfl rfl rfl fun b3 => ?_
   refine SX.eff rfl (Eff.store (L' := [st (mkS (s.rowOut 16)), int (IntKind.i64.wrap ((Rd.l1 s).num 1 : Nat)), int 0, int 0, st ⟨#[]⟩, st ⟨#[]⟩]) tabOk rfl rfl rfl (by repeat first|assumption|exact Upd.here|apply Upd.there) rfl (lb_ (by rfl)) rfl (by exact putL_whole rfl)) (by simp) rfl rfl ?_
   rintro _ _ ⟨rfl, rfl⟩
   refine SX.nil (SE.seq ?_)
   refine SC.seq (SC.region ?_)
   refine SL.val (Val.move rfl) rfl rfl ?_
   refine SL.call (number_s (s := Rd.l2 s) (n := 8) (by omega) rfl) Casts.refl (by kernel_rfl) rfl rfl rfl ?_
   refine After.one rfl (by repeat first|assumption|exact m0_|apply m1_) (fun _ => rfl) ?_
   intro _
   refine ⟨_, (by repeat first|assumption|exact Upd.here|apply Upd.there), ?_⟩
   first
    | refine SL.val (Val.convI rfl Tryz.underlying2 (by kernel_rfl) (by simp only [InR, lo, hi]; omega)) rfl rfl ?_
    | refine SL.val (Val.convW rfl Tryz.underlying2 (by kernel_rfl)) rfl rfl ?_
   refine SL.val (Val.move rfl) rfl rfl ?_
   refine SL.call (number_s (s := Rd.l3 s) (n := 8) (by omega) rfl) Casts.refl (by kernel_rfl) rfl rfl rfl ?_
   refine After.one rfl (by repeat first|assumption|exact m0_|apply m1_) (fun _ => rfl) ?_
   intro _
   refine ⟨_, (by repeat first|assumption|exact Upd.here|apply Upd.there), ?_⟩
   first
    | refine SL.val (Val.convI rfl Tryz.underlying2 (by kernel_rfl) (by simp only [InR, lo, hi]; omega)) rfl rfl ?_
    | refine SL.val (Val.convW rfl Tryz.underlying2 (by kernel_rfl)) rfl rfl ?_
   refine SL.val (Val.fieldAddr tabOk rfl rfl rfl rfl rfl) rfl rfl ?_
   refine SL.eff (Eff.store (L' := [st (mkS (s.rowOut 16)), int (IntKind.i64.wrap ((Rd.l1 s).num 1 : Nat)), int (IntKind.i64.wrap ((Rd.l2 s).num 8 : Nat)), int 0, st ⟨#[]⟩, st ⟨#[]⟩]) tabOk rfl rfl rfl (by repeat first|assumption|exact Upd.here|apply Upd.there) rfl (lb_ (by rfl)) rfl (by rfl)) rfl rfl ?_
   rintro _ _ ⟨rfl, rfl⟩
   refine SL.val (Val.fieldAddr tabOk rfl rfl rfl rfl rfl) rfl rfl ?_
   refine SL.eff (Eff.store (L' := [st (mkS (s.rowOut 16)), int (IntKind.i64.wrap ((Rd.l1 s).num 1 : Nat)), int (IntKind.i64.wrap ((Rd.l2 s).num 8 : Nat)), int (IntKind.i64.wrap ((Rd.l3 s).num 8 : Nat)), st ⟨#[]⟩, st ⟨#[]⟩]) tabOk rfl rfl rfl (by repeat first|assumption|exact Upd.here|apply Upd.there) rfl (lb_ (by rfl)) rfl (by rfl)) rfl rfl ?_
   rintro _ _ ⟨rfl, rfl⟩
   refine SL.nil (SE.seq ?_)
   refine SC.seq ?_
   refine SC.draw [p, b3] (.q 0 (.q 3 (.e 1 (.q 2 (.q 6 (.e 4 (.q 5 (.e 7 (.q 8 (.e 9 .nil)))))))))) (by kernel_rfl) (by kernel_rfl) ?_
   refine SX.hx (by first|(simp[mids,It.mids,ownPc];done)|(intro k hk;simp[mids,It.mids,ownPc] at hk ⊢;grind)) fun hx9 => ?_
   refine SX.val rfl (Val.move rfl) hx9 rfl rfl ?_
   refine SX.val rfl (Val.move rfl) hx9 rfl rfl ?_
   refine SX.call rfl (rowr_s (s := Rd.l4 s) (n := 200) (by omega) (by omega)) (by simp [mids, It.mids]) Casts.refl (by kernel_rfl) rfl rfl rfl ?_
   refine After.one rfl (by repeat first|assumption|exact m0_|apply m1_) (fun _ => rfl) ?_
   intro _
   refine ⟨_, (by repeat first|assumption|exact Upd.here|apply Upd.there), ?_⟩
   refine SX.hx (by first|(simp[mids,It.mids,ownPc];done)|(intro k hk;simp[mids,It.mids,ownPc] at hk ⊢;grind)) fun hx9 => ?_
   refine SX.val rfl (Val.strOf rfl) hx9 rfl rfl ?_
   refine SX.val rfl (Val.fieldAddr tabOk rfl rfl rfl rfl rfl) hx9 rfl rfl ?_
   refine SX.call rfl (rowr_s (s := Rd.l5 s) (n := 200) (by omega) (by omega)) (by simp [mids, It.mids]) Casts.refl (by kernel_rfl) rfl rfl rfl ?_
   refine After.one rfl (by repeat first|assumption|exact m0_|apply m1_) (fun _ => rfl) ?_
   intro _
   refine ⟨_, (by repeat first|assumption|exact Upd.here|apply Upd.there), ?_⟩
   refine SX.hx (by first|(simp[mids,It.mids,ownPc];done)|(intro k hk;simp[mids,It.mids,ownPc] at hk ⊢;grind)) fun hx9 => ?_
   refine SX.val rfl (Val.strOf rfl) hx9 rfl rfl ?_
   refine SX.eff rfl (Eff.store (L' := [st (mkS (s.rowOut 16)), int (IntKind.i64.wrap ((Rd.l1 s).num 1 : Nat)), int (IntKind.i64.wrap ((Rd.l2 s).num 8 : Nat)), int (IntKind.i64.wrap ((Rd.l3 s).num 8 : Nat)), st (mkS ((Rd.l4 s).rowOut 200)), st ⟨#[]⟩]) tabOk rfl rfl rfl (by repeat first|assumption|exact Upd.here|apply Upd.there) rfl (lb_ (by rfl)) rfl (by rfl)) (by simp) rfl rfl ?_
   rintro _ _ ⟨rfl, rfl⟩
   refine SX.hx (by first|(simp[mids,It.mids,ownPc];done)|(intro k hk;simp[mids,It.mids,ownPc] at hk ⊢;grind)) fun hx9 => ?_
   refine SX.val rfl (Val.fieldAddr tabOk rfl rfl rfl rfl rfl) hx9 rfl rfl ?_
   refine SX.eff rfl (Eff.store (L' := [st (mkS (s.rowOut 16)), int (IntKind.i64.wrap ((Rd.l1 s).num 1 : Nat)), int (IntKind.i64.wrap ((Rd.l2 s).num 8 : Nat)), int (IntKind.i64.wrap ((Rd.l3 s).num 8 : Nat)), st (mkS ((Rd.l4 s).rowOut 200)), st (mkS ((Rd.l5 s).rowOut 200))]) tabOk rfl rfl rfl (by repeat first|assumption|exact Upd.here|apply Upd.there) rfl (lb_ (by rfl)) rfl (by rfl)) (by simp) rfl rfl ?_
   rintro _ _ ⟨rfl, rfl⟩
   refine SX.nil (SE.seq ?_)
   refine SC.seq (SC.region ?_)
   refine SL.val (Val.to (C := .agg (ltrA (Rd.ltr s))) (Val.loadP tabOk rfl rfl rfl (by repeat first|assumption|exact o0_|exact o1_|apply o2_) List.not_mem_nil (lb_ (by rfl))) rfl) rfl rfl ?_
   refine SL.eff (Eff.store (L' := ltrA (Rd.ltr s)) tabOk rfl rfl rfl (by repeat first|assumption|exact Upd.here|apply Upd.there) rfl (lb_ (by rfl)) rfl (by exact putL_whole rfl)) rfl rfl ?_
   rintro _ _ ⟨rfl, rfl⟩
   refine SL.nil (SE.seq ?_)
   refine SC.ret ?_
   refine SE.fin (rs := [.cell 2 81]) rfl (RV.cell rfl (RV.cellA tabOk rfl rfl (by repeat first|assumption|exact o0_|exact o1_|apply o2_) (by rfl)) RV.nil) (()) (by repeat first|exact s0_ _|exact s1_ _|apply s2_|apply s3_) (by simp [It.rids]) ?_
   exact rfl
  ·skip
   refine SX.alloc tabOk rfl rfl rfl rfl fun b3 => ?_
   refine SX.call rfl (number_s (s := Rd.l1 s) (n := 1) (by omega) rfl) (by simp [mids, It.mids]) Casts.refl (by kernel_rfl) rfl rfl rfl ?_
   refine After.one rfl (by repeat first|assumption|exact m0_|apply m1_) (fun _ => rfl) ?_
   intro _
   refine ⟨_, (by repeat first|assumption|exact Upd.here|apply Upd.there), ?_⟩
   refine SX.hx (by first|(simp[mids,It.mids,ownPc];done)|(intro k hk;simp[mids,It.mids,ownPc] at hk ⊢;grind)) fun hx9 => ?_
   refine SX.val rfl (Val.to (C := int (IntKind.i64.wrap ((Rd.l1 s).num 1 : Nat))) (Val.convW rfl Tryz.underlying3 (by kernel_rfl)) rfl) hx9 rfl rfl ?_
   refine SX.val rfl (Val.buildS (L := [st (mkS (s.rowOut 16)), int (IntKind.i64.wrap ((Rd.l1 s).num 1 : Nat)), int 0, int 0, st ⟨#[]⟩, st ⟨#[]⟩]) tabOk rfl rfl rfl (by rfl)) hx9 rfl rfl ?_
   refine SX.eff rfl (Eff.store (L' := [st (mkS (s.rowOut 16)), int (IntKind.i64.wrap ((Rd.l1 s).num 1 : Nat)), int 0, int 0, st ⟨#[]⟩, st ⟨#[]⟩]) tabOk rfl rfl rfl (by repeat first|assumption|exact Upd.here|apply Upd.there) rfl (lb_ (by rfl)) rfl (by exact putL_whole rfl)) (by simp) rfl rfl ?_
   rintro _ _ ⟨rfl, rfl⟩
   refine SX.nil (SE.seq ?_)
   refine SC.seq (SC.region ?_)
   refine SL.val (Val.move rfl) rfl rfl ?_
   refine SL.call (number_s (s := Rd.l2 s) (n := 8) (by omega) rfl) Casts.refl (by kernel_rfl) rfl rfl rfl ?_
   refine After.one rfl (by repeat first|assumption|exact m0_|apply m1_) (fun _ => rfl) ?_
   intro _
   refine ⟨_, (by repeat first|assumption|exact Upd.here|apply Upd.there), ?_⟩
   first
    | refine SL.val (Val.convI rfl Tryz.underlying2 (by kernel_rfl) (by simp only [InR, lo, hi]; omega)) rfl rfl ?_
    | refine SL.val (Val.convW rfl Tryz.underlying2 (by kernel_rfl)) rfl rfl ?_
   refine SL.val (Val.move rfl) rfl rfl ?_
   refine SL.call (number_s (s := Rd.l3 s) (n := 8) (by omega) rfl) Casts.refl (by kernel_rfl) rfl rfl rfl ?_
   refine After.one rfl (by repeat first|assumption|exact m0_|apply m1_) (fun _ => rfl) ?_
   intro _
   refine ⟨_, (by repeat first|assumption|exact Upd.here|apply Upd.there), ?_⟩
   first
    | refine SL.val (Val.convI rfl Tryz.underlying2 (by kernel_rfl) (by simp only [InR, lo, hi]; omega)) rfl rfl ?_
    | refine SL.val (Val.convW rfl Tryz.underlying2 (by kernel_rfl)) rfl rfl ?_
   refine SL.val (Val.fieldAddr tabOk rfl rfl rfl rfl rfl) rfl rfl ?_
   refine SL.eff (Eff.store (L' := [st (mkS (s.rowOut 16)), int (IntKind.i64.wrap ((Rd.l1 s).num 1 : Nat)), int (IntKind.i64.wrap ((Rd.l2 s).num 8 : Nat)), int 0, st ⟨#[]⟩, st ⟨#[]⟩]) tabOk rfl rfl rfl (by repeat first|assumption|exact Upd.here|apply Upd.there) rfl (lb_ (by rfl)) rfl (by rfl)) rfl rfl ?_
   rintro _ _ ⟨rfl, rfl⟩
   refine SL.val (Val.fieldAddr tabOk rfl rfl rfl rfl rfl) rfl rfl ?_
   refine SL.eff (Eff.store (L' := [st (mkS (s.rowOut 16)), int (IntKind.i64.wrap ((Rd.l1 s).num 1 : Nat)), int (IntKind.i64.wrap ((Rd.l2 s).num 8 : Nat)), int (IntKind.i64.wrap ((Rd.l3 s).num 8 : Nat)), st ⟨#[]⟩, st ⟨#[]⟩]) tabOk rfl rfl rfl (by repeat first|assumption|exact Upd.here|apply Upd.there) rfl (lb_ (by rfl)) rfl (by rfl)) rfl rfl ?_
   rintro _ _ ⟨rfl, rfl⟩
   refine SL.nil (SE.seq ?_)
   refine SC.seq ?_
   refine SC.draw [p, b3] (.q 0 (.q 3 (.e 1 (.q 2 (.q 6 (.e 4 (.q 5 (.e 7 (.q 8 (.e 9 .nil)))))))))) (by kernel_rfl) (by kernel_rfl) ?_
   refine SX.hx (by first|(simp[mids,It.mids,ownPc];done)|(intro k hk;simp[mids,It.mids,ownPc] at hk ⊢;grind)) fun hx9 => ?_
   refine SX.val rfl (Val.move rfl) hx9 rfl rfl ?_
   refine SX.val rfl (Val.move rfl) hx9 rfl rfl ?_
   refine SX.call rfl (rowr_s (s := Rd.l4 s) (n := 200) (by omega) (by omega)) (by simp [mids, It.mids]) Casts.refl (by kernel_rfl) rfl rfl rfl ?_
   refine After.one rfl (by repeat first|assumption|exact m0_|apply m1_) (fun _ => rfl) ?_
   intro _
   refine ⟨_, (by repeat first|assumption|exact Upd.here|apply Upd.there), ?_⟩
   refine SX.hx (by first|(simp[mids,It.mids,ownPc];done)|(intro k hk;simp[mids,It.mids,ownPc] at hk ⊢;grind)) fun hx9 => ?_
   refine SX.val rfl (Val.strOf rfl) hx9 rfl rfl ?_
   refine SX.val rfl (Val.fieldAddr tabOk rfl rfl rfl rfl rfl) hx9 rfl rfl ?_
   refine SX.call rfl (rowr_s (s := Rd.l5 s) (n := 200) (by omega) (by omega)) (by simp [mids, It.mids]) Casts.refl (by kernel_rfl) rfl rfl rfl ?_
   refine After.one rfl (by repeat first|assumption|exact m0_|apply m1_) (fun _ => rfl) ?_
   intro _
   refine ⟨_, (by repeat first|assumption|exact Upd.here|apply Upd.there), ?_⟩
   refine SX.hx (by first|(simp[mids,It.mids,ownPc];done)|(intro k hk;simp[mids,It.mids,ownPc] at hk ⊢;grind)) fun hx9 => ?_
   refine SX.val rfl (Val.strOf rfl) hx9 rfl rfl ?_
   refine SX.eff rfl (Eff.store (L' := [st (mkS (s.rowOut 16)), int (IntKind.i64.wrap ((Rd.l1 s).num 1 : Nat)), int (IntKind.i64.wrap ((Rd.l2 s).num 8 : Nat)), int (IntKind.i64.wrap ((Rd.l3 s).num 8 : Nat)), st (mkS ((Rd.l4 s).rowOut 200)), st ⟨#[]⟩]) tabOk rfl rfl rfl (by repeat first|assumption|exact Upd.here|apply Upd.there) rfl (lb_ (by rfl)) rfl (by rfl)) (by simp) rfl rfl ?_
   rintro _ _ ⟨rfl, rfl⟩
   refine SX.hx (by first|(simp[mids,It.mids,ownPc];done)|(intro k hk;simp[mids,It.mids,ownPc] at hk ⊢;grind)) fun hx9 => ?_
   refine SX.val rfl (Val.fieldAddr tabOk rfl rfl rfl rfl rfl) hx9 rfl rfl ?_
   refine SX.eff rfl (Eff.store (L' := [st (mkS (s.rowOut 16)), int (IntKind.i64.wrap ((Rd.l1 s).num 1 : Nat)), int (IntKind.i64.wrap ((Rd.l2 s).num 8 : Nat)), int (IntKind.i64.wrap ((Rd.l3 s).num 8 : Nat)), st (mkS ((Rd.l4 s).rowOut 200)), st (mkS ((Rd.l5 s).rowOut 200))]) tabOk rfl rfl rfl (by repeat first|assumption|exact Upd.here|apply Upd.there) rfl (lb_ (by rfl)) rfl (by rfl)) (by simp) rfl rfl ?_
   rintro _ _ ⟨rfl, rfl⟩
   refine SX.nil (SE.seq ?_)
   refine SC.seq (SC.region ?_)
   refine SL.val (Val.to (C := .agg (ltrA (Rd.ltr s))) (Val.loadP tabOk rfl rfl rfl (by repeat first|assumption|exact o0_|exact o1_|apply o2_) List.not_mem_nil (lb_ (by rfl))) rfl) rfl rfl ?_
   refine SL.eff (Eff.store (L' := ltrA (Rd.ltr s)) tabOk rfl rfl rfl (by repeat first|assumption|exact Upd.here|apply Upd.there) rfl (lb_ (by rfl)) rfl (by exact putL_whole rfl)) rfl rfl ?_
   rintro _ _ ⟨rfl, rfl⟩
   refine SL.nil (SE.seq ?_)
   refine SC.ret ?_
   refine SE.fin (rs := [.cell 2 81]) rfl (RV.cell rfl (RV.cellA tabOk rfl rfl (by repeat first|assumption|exact o0_|exact o1_|apply o2_) (by rfl)) RV.nil) (()) (by repeat first|exact s0_ _|exact s1_ _|apply s2_|apply s3_) (by simp [It.rids]) ?_
   exact rfl
 ·skip
  refine SX.alloc tabOk rfl rfl rfl rfl fun b3 => ?_
  refine SX.call rfl (rowr_s (s := s) (n := 16) (by omega) (by omega)) (by simp [mids, It.mids]) Casts.refl (by kernel_rfl) rfl rfl rfl ?_
  refine After.one rfl (by repeat first|assumption|exact m0_|apply m1_) (fun _ => rfl) ?_
  intro _
  refine ⟨_, (by repeat first|assumption|exact Upd.here|apply Upd.there), ?_⟩
  refine SX.hx (by first|(simp[mids,It.mids,ownPc];done)|(intro k hk;simp[mids,It.mids,ownPc] at hk ⊢;grind)) fun hx9 => ?_
  refine SX.val rfl (Val.strOf rfl) hx9 rfl rfl ?_
  refine SX.call rfl (number_s (s := Rd.l1 s) (n := 1) (by omega) rfl) (by simp [mids, It.mids]) Casts.refl (by kernel_rfl) rfl rfl rfl ?_
  refine After.one rfl (by repeat first|assumption|exact m0_|apply m1_) (fun _ => rfl) ?_
  intro _
  refine ⟨_, (by repeat first|assumption|exact Upd.here|apply Upd.there), ?_⟩
  refine SX.hx (by first|(simp[mids,It.mids,ownPc];done)|(intro k hk;simp[mids,It.mids,ownPc] at hk ⊢;grind)) fun hx9 => ?_
  refine SX.val rfl (Val.to (C := int (IntKind.i64.wrap ((Rd.l1 s).num 1 : Nat))) (Val.convW rfl Tryz.underlying3 (by kernel_rfl)) rfl) hx9 rfl rfl ?_
  refine SX.val rfl (Val.buildS (L := [st (mkS (s.rowOut 16)), int (IntKind.i64.wrap ((Rd.l1 s).num 1 : Nat)), int 0, int 0, st ⟨#[]⟩, st ⟨#[]⟩]) tabOk rfl rfl rfl (by rfl)) hx9 rfl rfl ?_
  refine SX.eff rfl (Eff.store (L' := [st (mkS (s.rowOut 16)), int (IntKind.i64.wrap ((Rd.l1 s).num 1 : Nat)), int 0, int 0, st ⟨#[]⟩, st ⟨#[]⟩]) tabOk rfl rfl rfl (by repeat first|assumption|exact Upd.here|apply Upd.there) rfl (lb_ (by rfl)) rfl (by exact putL_whole rfl)) (by simp) rfl rfl ?_
  rintro _ _ ⟨rfl, rfl⟩
  refine SX.nil (SE.seq ?_)
  refine SC.seq (SC.region ?_)
  refine SL.val (Val.move rfl) rfl rfl ?_
  refine SL.call (number_s (s := Rd.l2 s) (n := 8) (by omega) rfl) Casts.refl (by kernel_rfl) rfl rfl rfl ?_
  refine After.one rfl (by repeat first|assumption|exact m0_|apply m1_) (fun _ => rfl) ?_
  intro _
  refine ⟨_, (by repeat first|assumption|exact Upd.here|apply Upd.there), ?_⟩
  first
   | refine SL.val (Val.convI rfl Tryz.underlying2 (by kernel_rfl) (by simp only [InR, lo, hi]; omega)) rfl rfl ?_
   | refine SL.val (Val.convW rfl Tryz.underlying2 (by kernel_rfl)) rfl rfl ?_
  refine SL.val (Val.move rfl) rfl rfl ?_
  refine SL.call (number_s (s := Rd.l3 s) (n := 8) (by omega) rfl) Casts.refl (by kernel_rfl) rfl rfl rfl ?_
  refine After.one rfl (by repeat first|assumption|exact m0_|apply m1_) (fun _ => rfl) ?_
  intro _
  refine ⟨_, (by repeat first|assumption|exact Upd.here|apply Upd.there), ?_⟩
  first
   | refine SL.val (Val.convI rfl Tryz.underlying2 (by kernel_rfl) (by simp only [InR, lo, hi]; omega)) rfl rfl ?_
   | refine SL.val (Val.convW rfl Tryz.underlying2 (by kernel_rfl)) rfl rfl ?_
  refine SL.val (Val.fieldAddr tabOk rfl rfl rfl rfl rfl) rfl rfl ?_
  refine SL.eff (Eff.store (L' := [st (mkS (s.rowOut 16)), int (IntKind.i64.wrap ((Rd.l1 s).num 1 : Nat)), int (IntKind.i64.wrap ((Rd.l2 s).num 8 : Nat)), int 0, st ⟨#[]⟩, st ⟨#[]⟩]) tabOk rfl rfl rfl (by repeat first|assumption|exact Upd.here|apply Upd.there) rfl (lb_ (by rfl)) rfl (by rfl)) rfl rfl ?_
  rintro _ _ ⟨rfl, rfl⟩
  refine SL.val (Val.fieldAddr tabOk rfl rfl rfl rfl rfl) rfl rfl ?_
  refine SL.eff (Eff.store (L' := [st (mkS (s.rowOut 16)), int (IntKind.i64.wrap ((Rd.l1 s).num 1 : Nat)), int (IntKind.i64.wrap ((Rd.l2 s).num 8 : Nat)), int (IntKind.i64.wrap ((Rd.l3 s).num 8 : Nat)), st ⟨#[]⟩, st ⟨#[]⟩]) tabOk rfl rfl rfl (by repeat first|assumption|exact Upd.here|apply Upd.there) rfl (lb_ (by rfl)) rfl (by rfl)) rfl rfl ?_
  rintro _ _ ⟨rfl, rfl⟩
  refine SL.nil (SE.seq ?_)
  refine SC.seq ?_
  refine SC.draw [p, b3] (.q 0 (.q 3 (.e 1 (.q 2 (.q 6 (.e 4 (.q 5 (.e 7 (.q 8 (.e 9 .nil)))))))))) (by kernel_rfl) (by kernel_rfl) ?_
  refine SX.hx (by first|(simp[mids,It.mids,ownPc];done)|(intro k hk;simp[mids,It.mids,ownPc] at hk ⊢;grind)) fun hx9 => ?_
  refine SX.val rfl (Val.move rfl) hx9 rfl rfl ?_
  refine SX.val rfl (Val.move rfl) hx9 rfl rfl ?_
  refine SX.call rfl (rowr_s (s := Rd.l4 s) (n := 200) (by omega) (by omega)) (by simp [mids, It.mids]) Casts.refl (by kernel_rfl) rfl rfl rfl ?_
  refine After.one rfl (by repeat first|assumption|exact m0_|apply m1_) (fun _ => rfl) ?_
  intro _
  refine ⟨_, (by repeat first|assumption|exact Upd.here|apply Upd.there), ?_⟩
  refine SX.hx (by first|(simp[mids,It.mids,ownPc];done)|(intro k hk;simp[mids,It.mids,ownPc] at hk ⊢;grind)) fun hx9 => ?_
  refine SX.val rfl (Val.strOf rfl) hx9 rfl rfl ?_
  refine SX.val rfl (Val.fieldAddr tabOk rfl rfl rfl rfl rfl) hx9 rfl rfl ?_
  refine SX.call rfl (rowr_s (s := Rd.l5 s) (n := 200) (by omega) (by omega)) (by simp [mids, It.mids]) Casts.refl (by kernel_rfl) rfl rfl rfl ?_
  refine After.one rfl (by repeat first|assumption|exact m0_|apply m1_) (fun _ => rfl) ?_
  intro _
  refine ⟨_, (by repeat first|assumption|exact Upd.here|apply Upd.there), ?_⟩
  refine SX.hx (by first|(simp[mids,It.mids,ownPc];done)|(intro k hk;simp[mids,It.mids,ownPc] at hk ⊢;grind)) fun hx9 => ?_
  refine SX.val rfl (Val.strOf rfl) hx9 rfl rfl ?_
  refine SX.eff rfl (Eff.store (L' := [st (mkS (s.rowOut 16)), int (IntKind.i64.wrap ((Rd.l1 s).num 1 : Nat)), int (IntKind.i64.wrap ((Rd.l2 s).num 8 : Nat)), int (IntKind.i64.wrap ((Rd.l3 s).num 8 : Nat)), st (mkS ((Rd.l4 s).rowOut 200)), st ⟨#[]⟩]) tabOk rfl rfl rfl (by repeat first|assumption|exact Upd.here|apply Upd.there) rfl (lb_ (by rfl)) rfl (by rfl)) (by simp) rfl rfl ?_
  rintro _ _ ⟨rfl, rfl⟩
  refine SX.hx (by first|(simp[mids,It.mids,ownPc];done)|(intro k hk;simp[mids,It.mids,ownPc] at hk ⊢;grind)) fun hx9 => ?_
  refine SX.val rfl (Val.fieldAddr tabOk rfl rfl rfl rfl rfl) hx9 rfl rfl ?_
  refine SX.eff rfl (Eff.store (L' := [st (mkS (s.rowOut 16)), int (IntKind.i64.wrap ((Rd.l1 s).num 1 : Nat)), int (IntKind.i64.wrap ((Rd.l2 s).num 8 : Nat)), int (IntKind.i64.wrap ((Rd.l3 s).num 8 : Nat)), st (mkS ((Rd.l4 s).rowOut 200)), st (mkS ((Rd.l5 s).rowOut 200))]) tabOk rfl rfl rfl (by repeat first|assumption|exact Upd.here|apply Upd.there) rfl (lb_ (by rfl)) rfl (by rfl)) (by simp) rfl rfl ?_
  rintro _ _ ⟨rfl, rfl⟩
  refine SX.nil (SE.seq ?_)
  refine SC.seq (SC.region ?_)
  refine SL.val (Val.to (C := .agg (ltrA (Rd.ltr s))) (Val.loadP tabOk rfl rfl rfl (by repeat first|assumption|exact o0_|exact o1_|apply o2_) List.not_mem_nil (lb_ (by rfl))) rfl) rfl rfl ?_
  refine SL.eff (Eff.store (L' := ltrA (Rd.ltr s)) tabOk rfl rfl rfl (by repeat first|assumption|exact Upd.here|apply Upd.there) rfl (lb_ (by rfl)) rfl (by exact putL_whole rfl)) rfl rfl ?_
  rintro _ _ ⟨rfl, rfl⟩
  refine SL.nil (SE.seq ?_)
  refine SC.ret ?_
  refine SE.fin (rs := [.cell 2 81]) rfl (RV.cell rfl (RV.cellA tabOk rfl rfl (by repeat first|assumption|exact o0_|exact o1_|apply o2_) (by rfl)) RV.nil) (()) (by repeat first|exact s0_ _|exact s1_ _|apply s2_|apply s3_) (by simp [It.rids]) ?_
  exact rfl
set_option maxHeartbeats 4000000 in
theorem lparse_s (hl : m.length ≤ 10000000) : Spec Tryz.prog 29 [byt m] [] (fun _ : Unit => []) (fun _ => .tup [.agg (parseL m).1.abs, int (parseL m).2]) := by
 have hL : lots = 100000000000 := rfl
 have hof : (Rd.of m).l = m := rfl
 have q1 := (Rd.of m).fixed_length 8
 have q2 := ((Rd.of m).fixed 8).fixed_length 8
 rw [hof] at q1
 have q3 := countL_length (Rd.lgH m) 16
 have q4 := countNL_lt (Rd.lgH m) 16
 have q5 : (Rd.lgH m).l.length ≤ m.length := by unfold Rd.lgH; omega
 have w1 := all_left (one := Rd.ltr) l6_length ((Rd.lgH m).countN 16) ((Rd.lgH m).count 16) []
 have w2 : (Rd.lgL m).2.l.length ≤ m.length := by unfold Rd.lgL; omega
 have w3 := countL_length (Rd.lgL m).2 4
 have w4 := countNL_lt (Rd.lgL m).2 4
 have w5 := all_left (one := Rd.oc) o3_length ((Rd.lgL m).2.countN 4) ((Rd.lgL m).2.count 4) []
 have w6 : (Rd.lgO m).2.l.length ≤ m.length := by unfold Rd.lgO; omega
 refine spec_of Tryz.func29 rfl Tryz.ntmps29 rfl fun G w => ?_
 refine SC.seq (SC.region ?_)
 refine SL.eff (Eff.alloc tabOk rfl) rfl rfl ?_
 rintro _ _ ⟨b2, rfl, rfl⟩
 refine SL.val (Val.assign rfl) rfl rfl ?_
 refine SL.nil (SE.seq ?_)
 refine SC.seq (SC.region ?_)
 refine SL.val (Val.move rfl) rfl rfl ?_
 refine SL.call (read_s (l := m) (by omega)) Casts.refl (by kernel_rfl) rfl rfl rfl ?_
 refine After.make (by repeat first|exact .nil|refine .blk (by repeat first|assumption|exact m0_|apply m1_) ?_|refine .rd (by repeat first|assumption|exact m0_|apply m1_) ?_|refine .pc (by repeat first|assumption|exact m0_|apply m1_) ?_|refine .rdpc (by repeat first|assumption|exact m0_|apply m1_) ?_) (fun _ => rfl) ?_
 intro p9
 refine SL.val (Val.assign rfl) rfl rfl ?_
 refine SL.nil (SE.seq ?_)
 refine SC.seq (SC.region ?_)
 refine SL.val (Val.move rfl) rfl rfl ?_
 refine SL.call (number_s (s := Rd.of m) (n := 8) (by rw [hof]; omega) rfl) Casts.refl (by kernel_rfl) rfl rfl rfl ?_
 refine After.one rfl (by repeat first|assumption|exact m0_|apply m1_) (fun _ => rfl) ?_
 intro _
 refine ⟨_, (by repeat first|assumption|exact Upd.here|apply Upd.there), ?_⟩
 refine SL.val (Val.to (C := int (IntKind.i64.wrap ((Rd.of m).num 8 : Nat))) (Val.convW rfl Tryz.underlying2 (by kernel_rfl)) rfl) rfl rfl ?_
 refine SL.val (Val.move rfl) rfl rfl ?_
 refine SL.call (number_s (s := (Rd.of m).fixed 8) (n := 8) (by omega) rfl) Casts.refl (by kernel_rfl) rfl rfl rfl ?_
 refine After.one rfl (by repeat first|assumption|exact m0_|apply m1_) (fun _ => rfl) ?_
 intro _
 refine ⟨_, (by repeat first|assumption|exact Upd.here|apply Upd.there), ?_⟩
 refine SL.val (Val.to (C := int (IntKind.i64.wrap (((Rd.of m).fixed 8).num 8 : Nat))) (Val.convW rfl Tryz.underlying2 (by kernel_rfl)) rfl) rfl rfl ?_
 refine SL.val (Val.buildS (L := [int (IntKind.i64.wrap ((Rd.of m).num 8 : Nat)), int (IntKind.i64.wrap (((Rd.of m).fixed 8).num 8 : Nat)), .v (.slice none 0 0), .v (.slice none 0 0)]) tabOk rfl rfl rfl (by rfl)) rfl rfl ?_
 refine SL.eff (Eff.alloc tabOk rfl) rfl rfl ?_
 rintro _ _ ⟨b5, rfl, rfl⟩
 refine SL.eff (Eff.store (L' := [int (IntKind.i64.wrap ((Rd.of m).num 8 : Nat)), int (IntKind.i64.wrap (((Rd.of m).fixed 8).num 8 : Nat)), .v (.slice none 0 0), .v (.slice none 0 0)]) tabOk rfl rfl rfl (by repeat first|assumption|exact Upd.here|apply Upd.there) rfl (lb_ (by rfl)) rfl (by exact putL_whole rfl)) rfl rfl ?_
 rintro _ _ ⟨rfl, rfl⟩
 refine SL.nil (SE.seq ?_)
 refine SC.seq ?_
 refine SC.seq (SC.region ?_)
 refine SL.val (Val.move rfl) rfl rfl ?_
 refine SL.call (count_s (s := Rd.lgH m) (n := 16) (by omega)) Casts.refl (by kernel_rfl) rfl rfl rfl ?_
 refine After.one rfl (by repeat first|assumption|exact m0_|apply m1_) (fun _ => rfl) ?_
 intro _
 refine ⟨_, (by repeat first|assumption|exact Upd.here|apply Upd.there), ?_⟩
 refine SL.val (Val.move rfl) rfl rfl ?_
 refine SL.nil (SE.seq ?_)
 refine SC.block ?_
 refine SC.own0 81 6 ?_
 refine SC.loop (ι := Rd × List Ltr × Nat × Value) (fun z => [own 81 6 z.2.2.2 (z.2.1.map ltrA), .blk b5 30 [int (IntKind.i64.wrap ((Rd.of m).num 8 : Nat)), int (IntKind.i64.wrap (((Rd.of m).fixed 8).num 8 : Nat)), .v z.2.2.2, .v (.slice none 0 0)], rdA TR p9 z.1, .blk b2 30 [int 0, int 0, .v (.slice none 0 0), .v (.slice none 0 0)]]) (fun z => [(2, ptr b2), (4, ptr p9), (5, ptr b5), (18, int (((Rd.lgH m).countN 16) : Nat)), (19, int (z.2.2.1 : Nat))]) (fun z => z.2.2.1 ≤ ((Rd.lgH m).countN 16) ∧ z.1.l.length ≤ m.length ∧ z.2.1.length = z.2.2.1 ∧ Rd.allG Rd.ltr Rd.l6 (((Rd.lgH m).countN 16) - z.2.2.1) z.1 z.2.1 = Rd.allG Rd.ltr Rd.l6 ((Rd.lgH m).countN 16) ((Rd.lgH m).count 16) []) (fun z => ((Rd.lgH m).countN 16) - z.2.2.1) (((Rd.lgH m).count 16), [], 0, .slice none 0 0) (⟨Nat.zero_le _, by dsimp only; omega, rfl, rfl⟩) (by exact ⟨rfl, rfl, rfl, rfl, rfl, trivial⟩) (by repeat first|exact s0_ _|exact s1_ _|apply s2_|apply s3_) ?_
 intro z hz
 refine SC.seq (SC.region ?_)
 refine SL.val (Val.ltI rfl rfl) rfl rfl ?_
 refine SL.nil (SE.seq ?_)
 refine SC.seq ?_
 refine SC.condP rfl ?_ ?_
 ·intro hc20
  have n9 := l6_length z.1
  refine SC.skip ?_
  refine SE.seq ?_
  refine SC.seq ?_
  refine SC.block ?_
  refine SC.draw (z.2.2.2.ownBlock.toList ++ [p9, b5]) (.q 0 (.q 2 (.two 1 3 (.e 3 (.e 4 (.e 5 (.q 6 (.e 7 .nil))))) (.two 1 4 (.e 4 (.e 5 (.q 6 (.e 7 .nil)))) (.e 1 (.e 5 (.q 6 (.e 7 .nil)))))))) (by kernel_rfl) (by kernel_rfl) ?_
  refine SX.hx (by first|(simp[mids,It.mids,ownPc];done)|(intro k hk;simp[mids,It.mids,ownPc] at hk ⊢;grind)) fun hx9 => ?_
  refine SX.val rfl (Val.fieldAddr tabOk rfl rfl rfl rfl rfl) hx9 rfl rfl ?_
  refine SX.val rfl (Val.move rfl) hx9 rfl rfl ?_
  refine SX.two ?_ ?_
  ·skip
   refine SX.valE rfl (Val.load1 tabOk rfl rfl (by repeat first|assumption|exact o0_|exact o1_|apply o2_) List.not_mem_nil (by rfl)) rfl rfl ?_
   refine SX.call rfl (readLetter_s (s := z.1) (by omega)) (by simp [mids, It.mids]) Casts.refl (by kernel_rfl) rfl rfl rfl ?_
   refine After.one rfl (by repeat first|assumption|exact m0_|apply m1_) (fun _ => rfl) ?_
   intro _
   refine ⟨_, (by repeat first|assumption|exact Upd.here|apply Upd.there), ?_⟩
   refine SX.eff rfl (Eff.buildSl tabOk Tryz.underlying27 rfl rfl rfl rfl rfl rfl rfl) (by simp) rfl rfl ?_
   rintro _ _ ⟨rfl, rfl⟩
   refine SX.effX [b5] rfl (Eff.appendE (zs := (z.2.1 ++ [Rd.ltr z.1]).map ltrA) tabOk [] (by rw [List.map_append]; rfl) Tryz.underlying27 rfl rfl rfl rfl rfl rfl (by intro c hc; rw [List.mem_singleton] at hc; subst hc; rfl) (by unfold maxLen; simp only [List.length_map, List.length_cons, List.length_nil]; omega) (by rw [show Tryz.prog.bytesOf 81 = 72 by kernel_rfl]; simp only [List.length_map, List.length_cons, List.length_nil]; omega)) (fun k hk => List.mem_append_left _ hk) (by simp) rfl rfl ?_
   rintro _ _ ⟨r26, rfl, rfl⟩
   refine SX.hx (by first|(simp[mids,It.mids,ownPc];done)|(intro k hk;simp[mids,It.mids,ownPc] at hk ⊢;grind)) fun hx9 => ?_
   refine SX.val rfl (Val.fieldAddr tabOk rfl rfl rfl rfl rfl) hx9 rfl rfl ?_
   first
    | refine SX.eff rfl (Eff.store tabOk rfl rfl rfl (by repeat first|assumption|exact Upd.here|apply Upd.there) (by rfl) (lb_ (by rfl)) (by rfl) (by rfl)) (by simp) rfl rfl ?_
    | refine SX.eff rfl (Eff.storeOwn tabOk rfl rfl rfl rfl (by repeat first|assumption|exact m0_|apply m1_) (by repeat first|assumption|exact Upd.here|apply Upd.there) rfl (by rfl)) (by simp) rfl rfl ?_
   rintro _ _ ⟨rfl, rfl⟩
   refine SX.nil ?_
   refine SE.inBlock ?_
   refine SE.seq ?_
   refine SC.region ?_
   first
    | refine SL.val (Val.addI rfl rfl (by simp only [InR, lo, hi]; omega)) rfl rfl ?_
    | refine SL.val (Val.addW rfl rfl) rfl rfl ?_
   refine SL.val (Val.move rfl) rfl rfl ?_
   refine SL.nil ?_
   refine SE.round (Rd.l6 z.1, z.2.1 ++ [Rd.ltr z.1], z.2.2.1 + 1, r26) (by first | omega | (dsimp only; omega)) (⟨by dsimp only; omega, by dsimp only; omega, by dsimp only; rw [List.length_append, hz.2.2.1]; rfl, by
    rw [← hz.2.2.2]
    obtain ⟨j, hj⟩ : ∃ j, ((Rd.lgH m).countN 16) - z.2.2.1 = j + 1 := ⟨((Rd.lgH m).countN 16) - z.2.2.1 - 1, by omega⟩
    rw [hj]
    show Rd.allG Rd.ltr Rd.l6 (((Rd.lgH m).countN 16) - (z.2.2.1 + 1)) _ _ = Rd.allG Rd.ltr Rd.l6 (j + 1) _ _
    rw [show ((Rd.lgH m).countN 16) - (z.2.2.1 + 1) = j by omega]
    rfl⟩) (by exact ⟨rfl, rfl, rfl, rfl, rfl, trivial⟩) (by repeat first|exact s0_ _|exact s1_ _|apply s2_|apply s3_)
  ·skip
   refine SX.call rfl (readLetter_s (s := z.1) (by omega)) (by simp [mids, It.mids]) Casts.refl (by kernel_rfl) rfl rfl rfl ?_
   refine After.one rfl (by repeat first|assumption|exact m0_|apply m1_) (fun _ => rfl) ?_
   intro _
   refine ⟨_, (by repeat first|assumption|exact Upd.here|apply Upd.there), ?_⟩
   refine SX.two ?_ ?_
   ·skip
    refine SX.valE rfl (Val.load1 tabOk rfl rfl (by repeat first|assumption|exact o0_|exact o1_|apply o2_) List.not_mem_nil (by rfl)) rfl rfl ?_
    refine SX.eff rfl (Eff.buildSl tabOk Tryz.underlying27 rfl rfl rfl rfl rfl rfl rfl) (by simp) rfl rfl ?_
    rintro _ _ ⟨rfl, rfl⟩
    refine SX.effX [b5] rfl (Eff.appendE (zs := (z.2.1 ++ [Rd.ltr z.1]).map ltrA) tabOk [] (by rw [List.map_append]; rfl) Tryz.underlying27 rfl rfl rfl rfl rfl rfl (by intro c hc; rw [List.mem_singleton] at hc; subst hc; rfl) (by unfold maxLen; simp only [List.length_map, List.length_cons, List.length_nil]; omega) (by rw [show Tryz.prog.bytesOf 81 = 72 by kernel_rfl]; simp only [List.length_map, List.length_cons, List.length_nil]; omega)) (fun k hk => List.mem_append_left _ hk) (by simp) rfl rfl ?_
    rintro _ _ ⟨r26, rfl, rfl⟩
    refine SX.hx (by first|(simp[mids,It.mids,ownPc];done)|(intro k hk;simp[mids,It.mids,ownPc] at hk ⊢;grind)) fun hx9 => ?_
    refine SX.val rfl (Val.fieldAddr tabOk rfl rfl rfl rfl rfl) hx9 rfl rfl ?_
    first
     | refine SX.eff rfl (Eff.store tabOk rfl rfl rfl (by repeat first|assumption|exact Upd.here|apply Upd.there) (by rfl) (lb_ (by rfl)) (by rfl) (by rfl)) (by simp) rfl rfl ?_
     | refine SX.eff rfl (Eff.storeOwn tabOk rfl rfl rfl rfl (by repeat first|assumption|exact m0_|apply m1_) (by repeat first|assumption|exact Upd.here|apply Upd.there) rfl (by rfl)) (by simp) rfl rfl ?_
    rintro _ _ ⟨rfl, rfl⟩
    refine SX.nil ?_
    refine SE.inBlock ?_
    refine SE.seq ?_
    refine SC.region ?_
    first
     | refine SL.val (Val.addI rfl rfl (by simp only [InR, lo, hi]; omega)) rfl rfl ?_
     | refine SL.val (Val.addW rfl rfl) rfl rfl ?_
    refine SL.val (Val.move rfl) rfl rfl ?_
    refine SL.nil ?_
    refine SE.round (Rd.l6 z.1, z.2.1 ++ [Rd.ltr z.1], z.2.2.1 + 1, r26) (by first | omega | (dsimp only; omega)) (⟨by dsimp only; omega, by dsimp only; omega, by dsimp only; rw [List.length_append, hz.2.2.1]; rfl, by
     rw [← hz.2.2.2]
     obtain ⟨j, hj⟩ : ∃ j, ((Rd.lgH m).countN 16) - z.2.2.1 = j + 1 := ⟨((Rd.lgH m).countN 16) - z.2.2.1 - 1, by omega⟩
     rw [hj]
     show Rd.allG Rd.ltr Rd.l6 (((Rd.lgH m).countN 16) - (z.2.2.1 + 1)) _ _ = Rd.allG Rd.ltr Rd.l6 (j + 1) _ _
     rw [show ((Rd.lgH m).countN 16) - (z.2.2.1 + 1) = j by omega]
     rfl⟩) (by exact ⟨rfl, rfl, rfl, rfl, rfl, trivial⟩) (by repeat first|exact s0_ _|exact s1_ _|apply s2_|apply s3_)
   ·skip
    refine SX.eff rfl (Eff.buildSl tabOk Tryz.underlying27 rfl rfl rfl rfl rfl rfl rfl) (by simp) rfl rfl ?_
    rintro _ _ ⟨rfl, rfl⟩
    refine SX.valE rfl (Val.load1 tabOk rfl rfl (by repeat first|assumption|exact o0_|exact o1_|apply o2_) List.not_mem_nil (by rfl)) rfl rfl ?_
    refine SX.effX [b5] rfl (Eff.appendE (zs := (z.2.1 ++ [Rd.ltr z.1]).map ltrA) tabOk [] (by rw [List.map_append]; rfl) Tryz.underlying27 rfl rfl rfl rfl rfl rfl (by intro c hc; rw [List.mem_singleton] at hc; subst hc; rfl) (by unfold maxLen; simp only [List.length_map, List.length_cons, List.length_nil]; omega) (by rw [show Tryz.prog.bytesOf 81 = 72 by kernel_rfl]; simp only [List.length_map, List.length_cons, List.length_nil]; omega)) (fun k hk => List.mem_append_left _ hk) (by simp) rfl rfl ?_
    rintro _ _ ⟨r26, rfl, rfl⟩
    refine SX.hx (by first|(simp[mids,It.mids,ownPc];done)|(intro k hk;simp[mids,It.mids,ownPc] at hk ⊢;grind)) fun hx9 => ?_
    refine SX.val rfl (Val.fieldAddr tabOk rfl rfl rfl rfl rfl) hx9 rfl rfl ?_
    first
     | refine SX.eff rfl (Eff.store tabOk rfl rfl rfl (by repeat first|assumption|exact Upd.here|apply Upd.there) (by rfl) (lb_ (by rfl)) (by rfl) (by rfl)) (by simp) rfl rfl ?_
     | refine SX.eff rfl (Eff.storeOwn tabOk rfl rfl rfl rfl (by repeat first|assumption|exact m0_|apply m1_) (by repeat first|assumption|exact Upd.here|apply Upd.there) rfl (by rfl)) (by simp) rfl rfl ?_
    rintro _ _ ⟨rfl, rfl⟩
    refine SX.nil ?_
    refine SE.inBlock ?_
    refine SE.seq ?_
    refine SC.region ?_
    first
     | refine SL.val (Val.addI rfl rfl (by simp only [InR, lo, hi]; omega)) rfl rfl ?_
     | refine SL.val (Val.addW rfl rfl) rfl rfl ?_
    refine SL.val (Val.move rfl) rfl rfl ?_
    refine SL.nil ?_
    refine SE.round (Rd.l6 z.1, z.2.1 ++ [Rd.ltr z.1], z.2.2.1 + 1, r26) (by first | omega | (dsimp only; omega)) (⟨by dsimp only; omega, by dsimp only; omega, by dsimp only; rw [List.length_append, hz.2.2.1]; rfl, by
     rw [← hz.2.2.2]
     obtain ⟨j, hj⟩ : ∃ j, ((Rd.lgH m).countN 16) - z.2.2.1 = j + 1 := ⟨((Rd.lgH m).countN 16) - z.2.2.1 - 1, by omega⟩
     rw [hj]
     show Rd.allG Rd.ltr Rd.l6 (((Rd.lgH m).countN 16) - (z.2.2.1 + 1)) _ _ = Rd.allG Rd.ltr Rd.l6 (j + 1) _ _
     rw [show ((Rd.lgH m).countN 16) - (z.2.2.1 + 1) = j by omega]
     rfl⟩) (by exact ⟨rfl, rfl, rfl, rfl, rfl, trivial⟩) (by repeat first|exact s0_ _|exact s1_ _|apply s2_|apply s3_)
 intro hc20
 refine SC.exit ?_
 refine SE.then_ nofun ?_
 refine SE.then_ nofun ?_
 refine SE.exit ?_
 refine SE.seq ?_
 refine SC.seq ?_
 refine SC.seq ?_
 have hzz : (z.2.1, z.1) = Rd.lgL m := by
  unfold Rd.lgL
  rw [← hz.2.2.2, show ((Rd.lgH m).countN 16) - z.2.2.1 = 0 by omega]
  rfl
 have hzA := congrArg Prod.fst hzz
 have hzS := congrArg Prod.snd hzz
 dsimp only at hzA hzS
 refine SC.freezeC [] 2 rfl (by repeat first|assumption|exact Upd.here|apply Upd.there) rfl ?_
 rw [hzA, hzS]
 refine SC.region ?_
 refine SL.val (Val.move rfl) rfl rfl ?_
 refine SL.call (count_s (s := (Rd.lgL m).2) (n := 4) (by omega)) Casts.refl (by kernel_rfl) rfl rfl rfl ?_
 refine After.one rfl (by repeat first|assumption|exact m0_|apply m1_) (fun _ => rfl) ?_
 intro _
 refine ⟨_, (by repeat first|assumption|exact Upd.here|apply Upd.there), ?_⟩
 refine SL.val (Val.move rfl) rfl rfl ?_
 refine SL.nil (SE.seq ?_)
 refine SC.block ?_
 refine SC.own0 40 3 ?_
 refine SC.loop (ι := Rd × List Oc × Nat × Value) (fun z => [own 40 3 z.2.2.2 (z.2.1.map Oc.abs), .blk b5 30 [int (IntKind.i64.wrap ((Rd.of m).num 8 : Nat)), int (IntKind.i64.wrap (((Rd.of m).fixed 8).num 8 : Nat)), ltrsA (Rd.lgL m).1, .v z.2.2.2], rdA TR p9 z.1, .blk b2 30 [int 0, int 0, .v (.slice none 0 0), .v (.slice none 0 0)]]) (fun z => [(2, ptr b2), (4, ptr p9), (5, ptr b5), (30, int (((Rd.lgL m).2.countN 4) : Nat)), (31, int (z.2.2.1 : Nat))]) (fun z => z.2.2.1 ≤ ((Rd.lgL m).2.countN 4) ∧ z.1.l.length ≤ m.length ∧ z.2.1.length = z.2.2.1 ∧ Rd.allG Rd.oc Rd.o3 (((Rd.lgL m).2.countN 4) - z.2.2.1) z.1 z.2.1 = Rd.allG Rd.oc Rd.o3 ((Rd.lgL m).2.countN 4) ((Rd.lgL m).2.count 4) []) (fun z => ((Rd.lgL m).2.countN 4) - z.2.2.1) (((Rd.lgL m).2.count 4), [], 0, .slice none 0 0) (⟨Nat.zero_le _, by dsimp only; omega, rfl, rfl⟩) (by exact ⟨rfl, rfl, rfl, rfl, rfl, trivial⟩) (by repeat first|exact s0_ _|exact s1_ _|apply s2_|apply s3_) ?_
 intro z hz
 refine SC.seq (SC.region ?_)
 refine SL.val (Val.ltI rfl rfl) rfl rfl ?_
 refine SL.nil (SE.seq ?_)
 refine SC.seq ?_
 refine SC.condP rfl ?_ ?_
 rotate_left
 ·intro hc32
  refine SC.exit ?_
  refine SE.then_ nofun ?_
  refine SE.then_ nofun ?_
  refine SE.exit ?_
  refine SE.seq ?_
  refine SC.seq ?_
  refine SC.seq ?_
  have hzz : (z.2.1, z.1) = Rd.lgO m := by
   unfold Rd.lgO
   rw [← hz.2.2.2, show ((Rd.lgL m).2.countN 4) - z.2.2.1 = 0 by omega]
   rfl
  have hzA := congrArg Prod.fst hzz
  have hzS := congrArg Prod.snd hzz
  dsimp only at hzA hzS
  refine SC.freezeC [] 3 rfl (by repeat first|assumption|exact Upd.here|apply Upd.there) rfl ?_
  rw [hzA, hzS]
  refine SC.region ?_
  refine SL.val (Val.move rfl) rfl rfl ?_
  refine SL.call (end_s (s := (Rd.lgO m).2)) Casts.refl (by kernel_rfl) rfl rfl rfl ?_
  refine After.one rfl (by repeat first|assumption|exact m0_|apply m1_) (fun _ => rfl) ?_
  intro _
  refine ⟨_, (by repeat first|assumption|exact Upd.here|apply Upd.there), ?_⟩
  refine SL.val (Val.neI rfl rfl) rfl rfl ?_
  refine SL.val (Val.move rfl) rfl rfl ?_
  refine SL.bothP (t := 54) rfl ?_ ?_
  ·intro hc54
   iterate 3 refine SL.skip rfl rfl ?_
   refine SL.val (Val.pickT rfl rfl) rfl rfl ?_
   refine SL.nil (SE.seq ?_)
   refine SC.condT rfl ?_
   refine SC.seq (SC.region ?_)
   refine SL.val (Val.buildS tabOk rfl rfl rfl rfl) rfl rfl ?_
   refine SL.eff (Eff.store (L' := [int 0, int 0, .v (.slice none 0 0), .v (.slice none 0 0)]) tabOk rfl rfl rfl (by repeat first|assumption|exact Upd.here|apply Upd.there) rfl (lb_ (by rfl)) rfl (by exact putL_whole rfl)) rfl rfl ?_
   rintro _ _ ⟨rfl, rfl⟩
   refine SL.val (Val.assign rfl) rfl rfl ?_
   refine SL.nil (SE.seq ?_)
   refine SC.ret ?_
   refine SE.then_ nofun ?_
   refine SE.finC (rs := [.cell 2 30, .tmp 3]) rfl (RV.cell rfl (RV.cellA tabOk rfl rfl (by repeat first|assumption|exact o0_|exact o1_|apply o2_) (by rfl)) (RV.tmp rfl RV.nil)) (Casts.cons (cast_agg (Casts.keep (Casts.keep (Casts.nils (s := 6) (Casts.nils (s := 3) Casts.refl))))) Casts.refl) (()) (by repeat first|exact s0_ _|exact s1_ _|apply s2_|apply s3_) (by simp [It.rids]) ?_
   have e : parseL m = (Lg.zero, 2) := if_pos (by
    first
     | exact .inl (by assumption)
     | exact .inr (fun h => by have h9 : (Rd.lg m).chk = 0 := if_pos h; exact absurd h9 (by assumption)))
   rw [e]
   rfl
  intro hc54
  refine SL.val (Val.to (C := .agg (Rd.lg m).abs) (Val.loadP tabOk rfl rfl rfl (by repeat first|assumption|exact o0_|exact o1_|apply o2_) List.not_mem_nil (lb_ (by rfl))) rfl) rfl rfl ?_
  refine SL.call (lcheck_s (l := Rd.lg m) (wrap_i64 _)) Casts.refl (by kernel_rfl) rfl rfl rfl ?_
  refine ap_ ?_
  intro _
  refine SL.val (Val.neI rfl rfl) rfl rfl ?_
  refine SL.val (Val.pickF rfl rfl) rfl rfl ?_
  refine SL.nil (SE.seq ?_)
  refine SC.condP rfl ?_ ?_
  ·intro hc58
   refine SC.seq (SC.region ?_)
   refine SL.val (Val.buildS tabOk rfl rfl rfl rfl) rfl rfl ?_
   refine SL.eff (Eff.store (L' := [int 0, int 0, .v (.slice none 0 0), .v (.slice none 0 0)]) tabOk rfl rfl rfl (by repeat first|assumption|exact Upd.here|apply Upd.there) rfl (lb_ (by rfl)) rfl (by exact putL_whole rfl)) rfl rfl ?_
   rintro _ _ ⟨rfl, rfl⟩
   refine SL.val (Val.assign rfl) rfl rfl ?_
   refine SL.nil (SE.seq ?_)
   refine SC.ret ?_
   refine SE.then_ nofun ?_
   refine SE.finC (rs := [.cell 2 30, .tmp 3]) rfl (RV.cell rfl (RV.cellA tabOk rfl rfl (by repeat first|assumption|exact o0_|exact o1_|apply o2_) (by rfl)) (RV.tmp rfl RV.nil)) (Casts.cons (cast_agg (Casts.keep (Casts.keep (Casts.nils (s := 6) (Casts.nils (s := 3) Casts.refl))))) Casts.refl) (()) (by repeat first|exact s0_ _|exact s1_ _|apply s2_|apply s3_) (by simp [It.rids]) ?_
   have e : parseL m = (Lg.zero, 2) := if_pos (by
    first
     | exact .inl (by assumption)
     | exact .inr (fun h => by have h9 : (Rd.lg m).chk = 0 := if_pos h; exact absurd h9 (by assumption)))
   rw [e]
   rfl
  intro hc58
  refine SC.skip ?_
  refine SE.seq ?_
  refine SC.seq (SC.region ?_)
  refine SL.val (Val.to (C := .agg (Rd.lg m).abs) (Val.loadP tabOk rfl rfl rfl (by repeat first|assumption|exact o0_|exact o1_|apply o2_) List.not_mem_nil (lb_ (by rfl))) rfl) rfl rfl ?_
  refine SL.eff (Eff.store (L' := (Rd.lg m).abs) tabOk rfl rfl rfl (by repeat first|assumption|exact Upd.here|apply Upd.there) rfl (lb_ (by rfl)) rfl (by exact putL_whole rfl)) rfl rfl ?_
  rintro _ _ ⟨rfl, rfl⟩
  refine SL.val (Val.assign rfl) rfl rfl ?_
  refine SL.nil (SE.seq ?_)
  refine SC.ret ?_
  refine SE.fin (rs := [.cell 2 30, .tmp 3]) rfl (RV.cell rfl (RV.cellA tabOk rfl rfl (by repeat first|assumption|exact o0_|exact o1_|apply o2_) (by rfl)) (RV.tmp rfl RV.nil)) (()) (by repeat first|exact s0_ _|exact s1_ _|apply s2_|apply s3_) (by simp [It.rids]) ?_
  have hk : (Rd.lg m).chk = 0 := Classical.not_not.1 hc58
  have e : parseL m = (Rd.lg m, 0) := if_neg (by
   rintro (h | h)
   ·exact hc54 h
   ·unfold Lg.chk at hk
    rw [if_neg h] at hk
    cases hk)
  rw [e]
  rfl
 intro hc32
 have n9 := o3_length z.1
 have n7 := z.1.fixed_length 1
 have n8 := (z.1.fixed 1).fixed_length 8
 refine SC.skip ?_
 refine SE.seq ?_
 refine SC.seq ?_
 refine SC.block ?_
 refine SC.seq (SC.region ?_)
 refine SL.val (Val.move rfl) rfl rfl ?_
 refine SL.call (number_s (s := z.1) (n := 1) (by omega) rfl) Casts.refl (by kernel_rfl) rfl rfl rfl ?_
 refine After.one rfl (by repeat first|assumption|exact m0_|apply m1_) (fun _ => rfl) ?_
 intro _
 refine ⟨_, (by repeat first|assumption|exact Upd.here|apply Upd.there), ?_⟩
 refine SL.val (Val.to (C := int (IntKind.i64.wrap (z.1.num 1 : Nat))) (Val.convW rfl Tryz.underlying3 (by kernel_rfl)) rfl) rfl rfl ?_
 refine SL.val (Val.assign rfl) rfl rfl ?_
 refine SL.nil (SE.seq ?_)
 refine SC.seq (SC.region ?_)
 refine SL.val (Val.move rfl) rfl rfl ?_
 refine SL.call (number_s (s := (z.1.fixed 1)) (n := 8) (by omega) rfl) Casts.refl (by kernel_rfl) rfl rfl rfl ?_
 refine After.one rfl (by repeat first|assumption|exact m0_|apply m1_) (fun _ => rfl) ?_
 intro _
 refine ⟨_, (by repeat first|assumption|exact Upd.here|apply Upd.there), ?_⟩
 refine SL.val (Val.to (C := int (IntKind.i64.wrap ((z.1.fixed 1).num 8 : Nat))) (Val.convW rfl Tryz.underlying2 (by kernel_rfl)) rfl) rfl rfl ?_
 refine SL.val (Val.assign rfl) rfl rfl ?_
 refine SL.nil (SE.seq ?_)
 refine SC.draw (z.2.2.2.ownBlock.toList ++ [p9, b5]) (.q 0 (.q 2 (.q 3 (.q 4 (.two 1 5 (.e 5 (.q 6 (.q 7 (.e 8 (.e 9 (.q 10 (.e 11 .nil))))))) (.q 6 (.q 7 (.two 1 8 (.e 8 (.e 9 (.q 10 (.e 11 .nil)))) (.e 1 (.e 9 (.q 10 (.e 11 .nil)))))))))))) (by kernel_rfl) (by kernel_rfl) ?_
 refine SX.hx (by first|(simp[mids,It.mids,ownPc];done)|(intro k hk;simp[mids,It.mids,ownPc] at hk ⊢;grind)) fun hx9 => ?_
 refine SX.val rfl (Val.fieldAddr tabOk rfl rfl rfl rfl rfl) hx9 rfl rfl ?_
 refine SX.val rfl (Val.move rfl) hx9 rfl rfl ?_
 refine SX.val rfl (Val.move rfl) hx9 rfl rfl ?_
 refine SX.val rfl (Val.move rfl) hx9 rfl rfl ?_
 refine SX.two ?_ ?_
 ·skip
  refine SX.valE rfl (Val.load1 tabOk rfl rfl (by repeat first|assumption|exact o0_|exact o1_|apply o2_) List.not_mem_nil (by rfl)) rfl rfl ?_
  refine SX.call rfl (number_s (s := ((z.1.fixed 1).fixed 8)) (n := 1) (by omega) rfl) (by simp [mids, It.mids]) Casts.refl (by kernel_rfl) rfl rfl rfl ?_
  refine After.one rfl (by repeat first|assumption|exact m0_|apply m1_) (fun _ => rfl) ?_
  intro _
  refine ⟨_, (by repeat first|assumption|exact Upd.here|apply Upd.there), ?_⟩
  refine SX.hx (by first|(simp[mids,It.mids,ownPc];done)|(intro k hk;simp[mids,It.mids,ownPc] at hk ⊢;grind)) fun hx9 => ?_
  refine SX.val rfl (Val.to (C := int (IntKind.i64.wrap (((z.1.fixed 1).fixed 8).num 1 : Nat))) (Val.convW rfl Tryz.underlying35 (by kernel_rfl)) rfl) hx9 rfl rfl ?_
  refine SX.val rfl (Val.buildS (L := Oc.abs (Rd.oc z.1)) tabOk rfl rfl rfl (by rfl)) hx9 rfl rfl ?_
  refine SX.eff rfl (Eff.buildSl tabOk Tryz.underlying28 rfl rfl rfl rfl rfl rfl rfl) (by simp) rfl rfl ?_
  rintro _ _ ⟨rfl, rfl⟩
  refine SX.effX [b5] rfl (Eff.appendE (zs := (z.2.1 ++ [(Rd.oc z.1)]).map Oc.abs) tabOk [] (by rw [List.map_append]; rfl) Tryz.underlying28 rfl rfl rfl rfl rfl rfl (by intro c hc; rw [List.mem_singleton] at hc; subst hc; rfl) (by unfold maxLen; simp only [List.length_map, List.length_cons, List.length_nil]; omega) (by rw [show Tryz.prog.bytesOf 40 = 24 by kernel_rfl]; simp only [List.length_map, List.length_cons, List.length_nil]; omega)) (fun k hk => List.mem_append_left _ hk) (by simp) rfl rfl ?_
  rintro _ _ ⟨r48, rfl, rfl⟩
  refine SX.hx (by first|(simp[mids,It.mids,ownPc];done)|(intro k hk;simp[mids,It.mids,ownPc] at hk ⊢;grind)) fun hx9 => ?_
  refine SX.val rfl (Val.fieldAddr tabOk rfl rfl rfl rfl rfl) hx9 rfl rfl ?_
  first
   | refine SX.eff rfl (Eff.store tabOk rfl rfl rfl (by repeat first|assumption|exact Upd.here|apply Upd.there) (by rfl) (lb_ (by rfl)) (by rfl) (by rfl)) (by simp) rfl rfl ?_
   | refine SX.eff rfl (Eff.storeOwn tabOk rfl rfl rfl rfl (by repeat first|assumption|exact m0_|apply m1_) (by repeat first|assumption|exact Upd.here|apply Upd.there) rfl (by rfl)) (by simp) rfl rfl ?_
  rintro _ _ ⟨rfl, rfl⟩
  refine SX.nil ?_
  refine SE.inBlock ?_
  refine SE.seq ?_
  refine SC.region ?_
  first
   | refine SL.val (Val.addI rfl rfl (by simp only [InR, lo, hi]; omega)) rfl rfl ?_
   | refine SL.val (Val.addW rfl rfl) rfl rfl ?_
  refine SL.val (Val.move rfl) rfl rfl ?_
  refine SL.nil ?_
  refine SE.round (Rd.o3 z.1, z.2.1 ++ [(Rd.oc z.1)], z.2.2.1 + 1, r48) (by first | omega | (dsimp only; omega)) (⟨by dsimp only; omega, by dsimp only; omega, by dsimp only; rw [List.length_append, hz.2.2.1]; rfl, by
   rw [← hz.2.2.2]
   obtain ⟨j, hj⟩ : ∃ j, ((Rd.lgL m).2.countN 4) - z.2.2.1 = j + 1 := ⟨((Rd.lgL m).2.countN 4) - z.2.2.1 - 1, by omega⟩
   rw [hj]
   show Rd.allG Rd.oc Rd.o3 (((Rd.lgL m).2.countN 4) - (z.2.2.1 + 1)) _ _ = Rd.allG Rd.oc Rd.o3 (j + 1) _ _
   rw [show ((Rd.lgL m).2.countN 4) - (z.2.2.1 + 1) = j by omega]
   rfl⟩) (by exact ⟨rfl, rfl, rfl, rfl, rfl, trivial⟩) (by repeat first|exact s0_ _|exact s1_ _|apply s2_|apply s3_)
 ·skip
  refine SX.call rfl (number_s (s := ((z.1.fixed 1).fixed 8)) (n := 1) (by omega) rfl) (by simp [mids, It.mids]) Casts.refl (by kernel_rfl) rfl rfl rfl ?_
  refine After.one rfl (by repeat first|assumption|exact m0_|apply m1_) (fun _ => rfl) ?_
  intro _
  refine ⟨_, (by repeat first|assumption|exact Upd.here|apply Upd.there), ?_⟩
  refine SX.hx (by first|(simp[mids,It.mids,ownPc];done)|(intro k hk;simp[mids,It.mids,ownPc] at hk ⊢;grind)) fun hx9 => ?_
  refine SX.val rfl (Val.to (C := int (IntKind.i64.wrap (((z.1.fixed 1).fixed 8).num 1 : Nat))) (Val.convW rfl Tryz.underlying35 (by kernel_rfl)) rfl) hx9 rfl rfl ?_
  refine SX.val rfl (Val.buildS (L := Oc.abs (Rd.oc z.1)) tabOk rfl rfl rfl (by rfl)) hx9 rfl rfl ?_
  refine SX.two ?_ ?_
  ·skip
   refine SX.valE rfl (Val.load1 tabOk rfl rfl (by repeat first|assumption|exact o0_|exact o1_|apply o2_) List.not_mem_nil (by rfl)) rfl rfl ?_
   refine SX.eff rfl (Eff.buildSl tabOk Tryz.underlying28 rfl rfl rfl rfl rfl rfl rfl) (by simp) rfl rfl ?_
   rintro _ _ ⟨rfl, rfl⟩
   refine SX.effX [b5] rfl (Eff.appendE (zs := (z.2.1 ++ [(Rd.oc z.1)]).map Oc.abs) tabOk [] (by rw [List.map_append]; rfl) Tryz.underlying28 rfl rfl rfl rfl rfl rfl (by intro c hc; rw [List.mem_singleton] at hc; subst hc; rfl) (by unfold maxLen; simp only [List.length_map, List.length_cons, List.length_nil]; omega) (by rw [show Tryz.prog.bytesOf 40 = 24 by kernel_rfl]; simp only [List.length_map, List.length_cons, List.length_nil]; omega)) (fun k hk => List.mem_append_left _ hk) (by simp) rfl rfl ?_
   rintro _ _ ⟨r48, rfl, rfl⟩
   refine SX.hx (by first|(simp[mids,It.mids,ownPc];done)|(intro k hk;simp[mids,It.mids,ownPc] at hk ⊢;grind)) fun hx9 => ?_
   refine SX.val rfl (Val.fieldAddr tabOk rfl rfl rfl rfl rfl) hx9 rfl rfl ?_
   first
    | refine SX.eff rfl (Eff.store tabOk rfl rfl rfl (by repeat first|assumption|exact Upd.here|apply Upd.there) (by rfl) (lb_ (by rfl)) (by rfl) (by rfl)) (by simp) rfl rfl ?_
    | refine SX.eff rfl (Eff.storeOwn tabOk rfl rfl rfl rfl (by repeat first|assumption|exact m0_|apply m1_) (by repeat first|assumption|exact Upd.here|apply Upd.there) rfl (by rfl)) (by simp) rfl rfl ?_
   rintro _ _ ⟨rfl, rfl⟩
   refine SX.nil ?_
   refine SE.inBlock ?_
   refine SE.seq ?_
   refine SC.region ?_
   first
    | refine SL.val (Val.addI rfl rfl (by simp only [InR, lo, hi]; omega)) rfl rfl ?_
    | refine SL.val (Val.addW rfl rfl) rfl rfl ?_
   refine SL.val (Val.move rfl) rfl rfl ?_
   refine SL.nil ?_
   refine SE.round (Rd.o3 z.1, z.2.1 ++ [(Rd.oc z.1)], z.2.2.1 + 1, r48) (by first | omega | (dsimp only; omega)) (⟨by dsimp only; omega, by dsimp only; omega, by dsimp only; rw [List.length_append, hz.2.2.1]; rfl, by
    rw [← hz.2.2.2]
    obtain ⟨j, hj⟩ : ∃ j, ((Rd.lgL m).2.countN 4) - z.2.2.1 = j + 1 := ⟨((Rd.lgL m).2.countN 4) - z.2.2.1 - 1, by omega⟩
    rw [hj]
    show Rd.allG Rd.oc Rd.o3 (((Rd.lgL m).2.countN 4) - (z.2.2.1 + 1)) _ _ = Rd.allG Rd.oc Rd.o3 (j + 1) _ _
    rw [show ((Rd.lgL m).2.countN 4) - (z.2.2.1 + 1) = j by omega]
    rfl⟩) (by exact ⟨rfl, rfl, rfl, rfl, rfl, trivial⟩) (by repeat first|exact s0_ _|exact s1_ _|apply s2_|apply s3_)
  ·skip
   refine SX.eff rfl (Eff.buildSl tabOk Tryz.underlying28 rfl rfl rfl rfl rfl rfl rfl) (by simp) rfl rfl ?_
   rintro _ _ ⟨rfl, rfl⟩
   refine SX.valE rfl (Val.load1 tabOk rfl rfl (by repeat first|assumption|exact o0_|exact o1_|apply o2_) List.not_mem_nil (by rfl)) rfl rfl ?_
   refine SX.effX [b5] rfl (Eff.appendE (zs := (z.2.1 ++ [(Rd.oc z.1)]).map Oc.abs) tabOk [] (by rw [List.map_append]; rfl) Tryz.underlying28 rfl rfl rfl rfl rfl rfl (by intro c hc; rw [List.mem_singleton] at hc; subst hc; rfl) (by unfold maxLen; simp only [List.length_map, List.length_cons, List.length_nil]; omega) (by rw [show Tryz.prog.bytesOf 40 = 24 by kernel_rfl]; simp only [List.length_map, List.length_cons, List.length_nil]; omega)) (fun k hk => List.mem_append_left _ hk) (by simp) rfl rfl ?_
   rintro _ _ ⟨r48, rfl, rfl⟩
   refine SX.hx (by first|(simp[mids,It.mids,ownPc];done)|(intro k hk;simp[mids,It.mids,ownPc] at hk ⊢;grind)) fun hx9 => ?_
   refine SX.val rfl (Val.fieldAddr tabOk rfl rfl rfl rfl rfl) hx9 rfl rfl ?_
   first
    | refine SX.eff rfl (Eff.store tabOk rfl rfl rfl (by repeat first|assumption|exact Upd.here|apply Upd.there) (by rfl) (lb_ (by rfl)) (by rfl) (by rfl)) (by simp) rfl rfl ?_
    | refine SX.eff rfl (Eff.storeOwn tabOk rfl rfl rfl rfl (by repeat first|assumption|exact m0_|apply m1_) (by repeat first|assumption|exact Upd.here|apply Upd.there) rfl (by rfl)) (by simp) rfl rfl ?_
   rintro _ _ ⟨rfl, rfl⟩
   refine SX.nil ?_
   refine SE.inBlock ?_
   refine SE.seq ?_
   refine SC.region ?_
   first
    | refine SL.val (Val.addI rfl rfl (by simp only [InR, lo, hi]; omega)) rfl rfl ?_
    | refine SL.val (Val.addW rfl rfl) rfl rfl ?_
   refine SL.val (Val.move rfl) rfl rfl ?_
   refine SL.nil ?_
   refine SE.round (Rd.o3 z.1, z.2.1 ++ [(Rd.oc z.1)], z.2.2.1 + 1, r48) (by first | omega | (dsimp only; omega)) (⟨by dsimp only; omega, by dsimp only; omega, by dsimp only; rw [List.length_append, hz.2.2.1]; rfl, by
    rw [← hz.2.2.2]
    obtain ⟨j, hj⟩ : ∃ j, ((Rd.lgL m).2.countN 4) - z.2.2.1 = j + 1 := ⟨((Rd.lgL m).2.countN 4) - z.2.2.1 - 1, by omega⟩
    rw [hj]
    show Rd.allG Rd.oc Rd.o3 (((Rd.lgL m).2.countN 4) - (z.2.2.1 + 1)) _ _ = Rd.allG Rd.oc Rd.o3 (j + 1) _ _
    rw [show ((Rd.lgL m).2.countN 4) - (z.2.2.1 + 1) = j by omega]
    rfl⟩) (by exact ⟨rfl, rfl, rfl, rfl, rfl, trivial⟩) (by repeat first|exact s0_ _|exact s1_ _|apply s2_|apply s3_)
end
end Go.Proofs.YtickdhjljpnlpaaGreatDoor.A
/-
  Ledgers out of bytes: the document's.
-/
namespace Go.Proofs.YtickdhjljpnlpaaGreatDoor.A
open Go.RowKit

section
variable {l : Lg} {x y : Ltr} {o q : Oc} {a b c k n : Int} {ls : List Ltr} {os : List Oc} {m : List UInt8}
end
end Go.Proofs.YtickdhjljpnlpaaGreatDoor.A
/-
  Entries in new memory.
-/
namespace Go.Proofs.YtickdhjljpnlpaaGreatDoor.A
open Go.RowKit

theorem ents_ones (l : List Ent) : ∀ c ∈ l.map entA, ones c = true := by
  intro c hc
  obtain ⟨o, _, rfl⟩ := List.mem_map.1 hc
  rfl
theorem clone_ents_s {xs : List (List Abs)} (h1 : ∀ c ∈ xs, ones c = true) (hn : xs.length ≤ 1000000) : Spec Tryz.prog 28 [.sl 8 xs] [] (fun _ : Unit => []) (fun _ => .sl 8 xs) := by
 refine spec_of Tryz.func28 rfl Tryz.ntmps28 rfl fun G w => ?_
 refine SC.seq (SC.region ?_)
 refine SL.val (Val.assign rfl) rfl rfl ?_
 refine SL.nil (SE.seq ?_)
 refine SC.seq ?_
 refine SC.seq (SC.region ?_)
 refine SL.val (Val.move rfl) rfl rfl ?_
 refine SL.eqNil Tryz.underlying26 rfl rfl rfl ?_
 intro b hb
 refine SL.nil (SE.seq ?_)
 refine SC.cond rfl ?_ ?_
 ·intro hc4
  have hnil : xs = [] := hb hc4
  subst hnil
  refine SC.seq (SC.region ?_)
  refine SL.val (Val.assign rfl) rfl rfl ?_
  refine SL.nil (SE.seq ?_)
  refine SC.ret ?_
  refine SE.then_ nofun ?_
  refine SE.finC (rs := [.tmp 2]) rfl (RV.tmp rfl RV.nil) (Casts.nils (s := 8) Casts.refl) () (by repeat first|exact s0_ _|exact s1_ _|apply s2_|apply s3_) (by simp [It.rids]) rfl
 intro hc4
 refine SC.skip ?_
 refine SE.seq ?_
 refine SC.seq (SC.region ?_)
 refine SL.eff (Eff.buildOwn tabOk Tryz.underlying26 rfl rfl rfl rfl rfl rfl rfl) rfl rfl ?_
 rintro _ _ ⟨r5, rfl, rfl⟩
 refine SL.val (Val.move rfl) rfl rfl ?_
 refine SL.eff (Eff.appendE (zs := xs) tabOk [] rfl Tryz.underlying26 rfl rfl rfl rfl rfl rfl h1 (by unfold maxLen; simp only [List.length_nil]; omega) (by rw [show Tryz.prog.bytesOf 66 = 80 by kernel_rfl]; simp only [List.length_nil]; omega)) rfl rfl ?_
 rintro _ _ ⟨r7, rfl, rfl⟩
 refine SL.val (Val.assign rfl) rfl rfl ?_
 refine SL.nil (SE.seq ?_)
 refine SC.ret ?_
 refine SE.freeze [] (t := 2) rfl rfl ?_
 refine SE.fin (rs := [.tmp 2]) rfl (RV.tmp rfl RV.nil) (()) (by repeat first|exact s0_ _|exact s1_ _|apply s2_|apply s3_) (by simp [It.rids]) ?_
 exact rfl
end Go.Proofs.YtickdhjljpnlpaaGreatDoor.A
/-
  The second engine: one cell of an element of a row of one's own: its address, read, and stored into.
-/
namespace Go.Proofs.YtickdhjljpnlpaaGreatDoor.A
open Go.RowKit

section
variable {P : Program} {n : Nat} {W : Wd} {σ τ : Blks} {l : Slots} {X : List Nat} {x y : Operand} {d : Option Nat} {ty t e e' : TypeId} {pos : String} {aft : Array Edge} {g : Option (Nat × Bool)} {v : Value} {A : Abs} {tab : List (Nat × TI)} {xs : List (List Abs)} {s q jj : Nat} {cs : List Abs} {K : List Nat} {w : World}
/-- The address of a field of an element. -/
theorem Val.fieldOwn (hT : TabOk P tab) {sz fo ft f : Nat} {gs : List (Nat × Nat)} {zs : List Value} {j : TI} (ht : ti tab t = some ⟨sz, .struct gs, zs⟩) (hx : look l x = some (.v (eptr v (q * s)))) (hb : isOwn σ e' s v xs) (hpos : Nat.blt 0 s = true) (hq : xs[q]? = some cs) (hfo : gs[f]? = some (fo, ft)) (hj : ti tab ft = some j) (hs0 : Nat.beq j.size 0 = false) :
    Val P n W σ l X ⟨d, .fieldAddr t x f, ty, pos, aft, g⟩ (.v (eptr v (q * s + fo))) := Val.mk' fun a w hs _ => by
  obtain ⟨us, h1, h2⟩ := hs.mem.ownR hb
  obtain ⟨b, off, c, hvv, hbl, vs, h3, h4, h5⟩ := own_at h1 h2 (by simpa [Nat.blt_eq] using hpos) hq
  refine ⟨_, rfl, fun w' _ => ?_⟩
  rw [hvv]
  show Proofs.YtickdhjljpnlpaaGreatDoor.Val _ _ _ _ _ (.pointer (some ⟨b, off + (q * s + fo), none⟩))
  rw [← Nat.add_assoc]
  exact Proofs.YtickdhjljpnlpaaGreatDoor.Val.fieldAddr hT ht (by rw [hs.at2 hx, hs.plain hx, hvv]; rfl) hfo hj hs0
theorem Val.loadOwnJ (hT : TabOk P tab) {sz : Nat} {zs : List Value} (ht : ti tab t = some ⟨sz, .one, zs⟩) (hx : look l x = some (.v (eptr v (q * s + jj)))) (hb : isOwn σ e' s v xs) (hpos : Nat.blt 0 s = true) (hq : xs[q]? = some cs) (hv : cs[jj]? = some A) : Val P n W σ l [] ⟨d, .load t x, ty, pos, aft, g⟩ A := Val.mk' fun a w hs hX => by
  obtain ⟨us, h1, h2⟩ := hs.mem.ownR hb
  obtain ⟨b, off, c, hvv, hbl, vs, h3, h4, h5⟩ := own_at h1 h2 (by simpa [Nat.blt_eq] using hpos) hq
  obtain ⟨u, h6, h7⟩ := reps_get h4 hv
  refine ⟨u, h7, fun w' hw' => Proofs.YtickdhjljpnlpaaGreatDoor.Val.load1C (b := b) (o := off + (q * s + jj)) hT ht (by rw [hs.at2 hx, hs.plain hx, hvv]; rfl) fun w1 e => by subst e; exact cell_later hw' (by simp) (by rw [← Nat.add_assoc]; exact h5 jj u h6)⟩
theorem reps_set1 {u : Value} (hu : rep K w A u) : ∀ {cs : List Abs} {vs : List Value} {j : Nat}, reps K w cs vs → reps K w (cs.set j A) (vs.set j u)
  | [], _, _, h => by
    have h : _ = [] := h
    subst h
    rfl
  | c :: cs, _, 0, ⟨u1, us, h1, h2, h3⟩ => by
    subst h1
    exact ⟨u, us, rfl, hu, h3⟩
  | c :: cs, _, j + 1, ⟨u1, us, h1, h2, h3⟩ => by
    subst h1
    exact ⟨u1, _, rfl, h2, reps_set1 hu h3⟩
theorem repss_set1 {u : Value} (hu : rep K w A u) : ∀ {xs : List (List Abs)} {us : List Value} {q : Nat}, repss K w s xs us → xs[q]? = some cs → jj < s → repss K w s (xs.set q (cs.set jj A)) (us.set (q * s + jj) u)
  | [], _, _, _, h, _ => by simp at h
  | c :: xs, _, 0, ⟨u1, u2, h1, h2, h3, h4⟩, h, hj => by
    subst h1
    have h : c = cs := by simpa using h
    subst h
    refine ⟨u1.set jj u, u2, ?_, by simpa using h2, reps_set1 hu h3, h4⟩
    rw [Nat.zero_mul, Nat.zero_add, List.set_append_left _ _ (by omega)]
  | c :: xs, _, q + 1, ⟨u1, u2, h1, h2, h3, h4⟩, h, hj => by
    subst h1
    have h5 := repss_set1 hu h4 (q := q) (by simpa using h) hj
    refine ⟨u1, _, ?_, h2, h3, h5⟩
    rw [List.set_append_right _ _ (by rw [Nat.succ_mul]; omega)]
    congr 2
    rw [Nat.succ_mul]
    omega
/-- One cell of an element of a row of the call's own is another one then. -/
theorem Eff.setOwnJ (hT : TabOk P tab) {sz : Nat} {zs : List Value} (ht : ti tab t = some ⟨sz, .one, zs⟩) (hsz : Nat.beq sz 1 = true) (hx : look l x = some (.v (eptr v (q * s + jj)))) (hy : look l y = some A) (h1 : A.one = true) (hq : xs[q]? = some cs) (hj : Nat.blt jj s = true) (hu : Upd (own e s v xs) (own e s v (xs.set q (cs.set jj A))) σ τ) :
    Eff P n W σ l v.ownBlock.toList ⟨d, .store t x y, ty, pos, aft, g⟩ fun u τ' => u = .v undef ∧ τ' = τ := fun ac w hst => by
  have hj : jj < s := by simpa [Nat.blt_eq] using hj
  have hsz := Nat.eq_of_beq_eq_true hsz
  subst hsz
  obtain ⟨us, hown, hr⟩ : (ownPc e s v xs).p _ w := hst.mem.hold _ hu.mem
  have hry := hst.eval hy
  have hone := Abs.one_rep hry h1
  have hql : q < xs.length := (List.getElem?_eq_some_iff.1 hq).1
  rcases hown.2 with ⟨h, h0⟩ | ⟨gb, cap, cur, hv, hbase, hg, hn, hcap, hsz, htk⟩
  · omega
  · subst hv
    have h2 := (hT t _ ht).isAgg (w := w)
    have h3 := (hT t _ ht).sizeOf (w := w)
    have hb1 : q * s + s ≤ xs.length * s := by rw [← Nat.succ_mul]; exact Nat.mul_le_mul_right _ hql
    have hb2 : xs.length * s ≤ cap * s := Nat.mul_le_mul_right _ hn
    have hcl1 : cellsL (ac.eval y) = [ac.eval y] := by
      cases hv9 : ac.eval y <;> first | rfl | (rw [hv9] at hone; cases hone)
    have hrun := run_storeCells_at (P := P) gb (0 + (q * s + jj)) e (cellsL (ac.eval y)) 0 cur w hg (by rw [hcl1, List.length_singleton]; omega) (by rw [hcl1]; intro u hu; rw [List.mem_singleton.1 hu]; exact hone)
    have e0 : 0 + (q * s + jj) + 0 = q * s + jj := by omega
    rw [e0] at hrun
    have hcl : cur.toList.length = cur.size := by simp
    have hle : (cellsL (ac.eval y)).length = 1 := by rw [hcl1]; rfl
    have hxx : Ext (Value.ownBlock (.slice (some ⟨gb, 0, none⟩) xs.length cap)).toList w (w.setRow gb (cur.toList.take (q * s + jj) ++ cellsL (ac.eval y) ++ cur.toList.drop (q * s + jj + (cellsL (ac.eval y)).length)).toArray) := (Ext.refl w).setRow (.inl (by simp [Value.ownBlock])) _
    have hnew : (cur.toList.take (q * s + jj) ++ cellsL (ac.eval y) ++ cur.toList.drop (q * s + jj + (cellsL (ac.eval y)).length)).take (xs.length * s) = us.set (q * s + jj) (ac.eval y) := by
      rw [← htk, hle, hcl1]
      apply List.ext_getElem?
      intro j
      simp only [List.getElem?_take, List.getElem?_append, List.length_append, List.length_take, List.getElem?_drop, List.getElem?_set, List.length_singleton, hcl]
      grind
    have hm := hst.mem.upd hu hxx own_nodup (fun k hk => .inl hk) rfl fun hca => ⟨us.set (q * s + jj) (ac.eval y), ⟨?_, .inr ⟨gb, cap, _, by rw [List.length_set], hbase, setRow_heap w gb cur _ e (0, 0) hg, by rw [List.length_set]; exact hn, hcap, ?_, ?_⟩⟩, repss_carry hca _ _ _ (repss_set1 hry hr hq hj)⟩
    · refine ⟨undef, _, _, _, ⟨rfl, rfl⟩, hxx, rfl, hm.1, hm.2, .inr ⟨rfl, ?_⟩⟩
      have hcs := cellsL_eq (ac.eval y)
      have hle2 : (cellsL (ac.eval y)).length = 1 := hle
      have hx2 : ac.eval x = .pointer (some ⟨gb, 0 + (q * s + jj), none⟩) := hst.plain hx
      simp [execOp, hx2, Instr.storeAt, Instr.sureAddr, storeVar, Sem.run_bind, hcs, h3, hle2, hrun, Result.andThen]
      first | rfl | (simp only [Nat.zero_add] at hrun; simp [hle2, hrun])
    · rw [List.length_set, hown.1, List.length_set]
    · simp only [List.size_toArray, List.length_append, List.length_take, List.length_drop]
      omega
    · rw [List.length_set]
      simpa using hnew
end
end Go.Proofs.YtickdhjljpnlpaaGreatDoor.A
/-
  The second engine: a row of one's own appended to another one; whether it is nil.
-/
namespace Go.Proofs.YtickdhjljpnlpaaGreatDoor.A
open Go.RowKit

section
variable {P : Program} {n : Nat} {W : Wd} {σ σ0 : Blks} {l : Slots} {tab : List (Nat × TI)} {e e2 t ty : TypeId} {s : Nat} {v v2 : Value} {xs ys : List (List Abs)} {x y : Operand} {ops : Array Oper} {rest : List Oper} {Q : Exit → Act → World → Prop} {t' : TypeId} {gq : Option (Nat × Bool)} {d : Option Nat} {pos : String} {aft : Array Edge} {g : Option (Nat × Bool)}
/-- 'append(dst, src...)': both the call's own. -/
theorem Eff.appendR (hT : TabOk P tab) {i : TI} {post : Blks} (hu : P.underlying t = some (.slice e)) (hi : ti tab e = some i) (hpos : Nat.blt 0 i.size = true) (hsz : Nat.beq s i.size = true)
    (hx : look l x = some (.v v)) (hy : look l y = some (.v v2)) (hb : isOwn σ e2 s v2 ys) (hσ : σ = own e s v xs :: post) (h1 : ∀ c ∈ ys, ones c = true) (hm : xs.length + ys.length ≤ maxLen) (hby : (xs.length + ys.length) * P.bytesOf e ≤ 140737488355328) :
    Eff P n W σ l v.ownBlock.toList ⟨d, .call { callee := .builtin .append, args := #[x, y], argTypes := #[t, t] }, ty, pos, aft, g⟩ fun r τ => ∃ u, r = .v u ∧ τ = own e s u (xs ++ ys) :: post := fun a w hs => by
  subst hσ
  have hsz := Nat.eq_of_beq_eq_true hsz
  subst hsz
  obtain ⟨us, own1, hr1⟩ : (ownPc e i.size v xs).p _ w := hs.mem.hold (own e i.size v xs) (by simp)
  obtain ⟨news, hrow, hr2⟩ := hs.mem.ownR hb
  obtain ⟨A', c', hsh, _⟩ := hrow.shape
  have hone : ∀ u ∈ news, u.oneCell' = true := by
    have aux : ∀ (ys : List (List Abs)) (news : List Value), (∀ c ∈ ys, ones c = true) → repss (mids (own e i.size v xs :: post) ++ W.G) w i.size ys news → ∀ u ∈ news, u.oneCell' = true := by
      intro ys
      induction ys with
      | nil => intro news _ h u hu; have : news = [] := h; subst this; cases hu
      | cons c ys ih =>
        rintro news ho ⟨u1, u2, rfl, _, h3, h4⟩ u hu
        rcases List.mem_append.1 hu with hu | hu
        · exact ones_reps h3 (ho c (by simp)) u hu
        · exact ih u2 (fun c hc => ho c (by simp [hc])) h4 u hu
    exact aux ys news h1 hr2
  have hrow' := hrow
  rw [hsh] at hrow'
  obtain ⟨v', w', hrun, h2, h3, h4⟩ := run_appendRow (ty := ty) hT hu hi hby hpos own1 hrow' (repss_length hr2) hone hm
  have hxx : Ext v.ownBlock.toList w w' := ext_grownF h3 fun k hk => .inl (by simpa using hk)
  have hup : Upd (own e i.size v xs) (own e i.size v' (xs ++ ys)) (own e i.size v xs :: post) (own e i.size v' (xs ++ ys) :: post) := .here
  have hm2 := hs.mem.upd hup hxx own_nodup (fun k hk => ?_) rfl fun hc => ⟨_, by rw [List.length_append]; exact h2, repss_append (repss_carry hc _ _ _ hr1) (repss_carry hc _ _ _ hr2)⟩
  · refine ⟨v', w', _, _, ⟨v', rfl, rfl⟩, hxx, rfl, hm2.1, hm2.2, .inl ?_⟩
    simp [execOp, resolve, invoke, builtin, hs.plain hx, hs.plain hy, hsh, hrun, Result.andThen]
  · have hk' : v'.ownBlock = some k := by simpa [It.mids, ownPc] using hk
    rcases h4 with h4 | h4
    · exact .inl (by simp [It.mids, ownPc, ← h4, hk'])
    · rw [h4] at hk'; simp at hk'; exact .inr (by omega)
/-- 'row == nil', the row the call's own or one's own read. -/
theorem SL.eqNilOwn (ht : P.underlying t = some (.slice e)) (hx : look l x = some (.v v)) (hb : isOwn σ e2 s v xs) (hg : gd ops l ⟨d, .binOp .eql t x (.const (.slice none 0 0)) t', ty, pos, aft, gq⟩ = some true) (hd : lt? d n = true)
    (k : ∀ b : Bool, (b = true → xs = []) → SL P ops rest (St n W σ (put? l d (.v (.bool b)))) Q) : SL P ops (⟨d, .binOp .eql t x (.const (.slice none 0 0)) t', ty, pos, aft, gq⟩ :: rest) (St n W σ l) Q := fun a w hs =>
  wpList_step fun K hK => by
    rw [if_pos (hs.wanted hg)]
    unfold Oper.wp
    obtain ⟨us, hr, h2⟩ := hs.mem.ownR hb
    have h0 := hs.plain hx
    obtain ⟨A', c, h1, h3, h4, h5⟩ := hr.shape
    have e1 : a.eval (.const (.slice none 0 0)) = .slice none 0 0 := rfl
    have hrun : (binOp .eql t (.slice A' xs.length c) (.slice none 0 0)).run P w = .ok (.bool A'.isNone) w := by
      have h : ∀ d : Nat, (Op.equalIn (d + 1) t (.slice A' xs.length c) (.slice none 0 0)).run P w = .ok A'.isNone w := fun d => by cases A' <;> simp [Op.equalIn, run_underlying ht]
      simp only [binOp]
      simp [Op.equal, Op.maxDepth, h 9999]
    have hrun2 : (execOp a.eval ⟨d, .binOp .eql t x (.const (.slice none 0 0)) t', ty, pos, aft, gq⟩).run P w = .ok (.value (.bool A'.isNone)) w := by simp [execOp, h0, h1, e1, eqGuard, hrun]
    rw [hrun2]
    refine hK _ _ (k A'.isNone (fun hb => ?_) _ _ (hs.put hd (show rep _ _ (.v (.bool A'.isNone)) _ from rfl)))
    cases A' with
    | none =>
      have := h5 rfl
      exact List.length_eq_zero_iff.1 (by omega)
    | some A' => cases hb
end
end Go.Proofs.YtickdhjljpnlpaaGreatDoor.A
/-
  The second engine: many pieces as one, at once; calls that change pieces in the midst, and read others.
-/
namespace Go.Proofs.YtickdhjljpnlpaaGreatDoor.A
open Go.RowKit

/-- A piece that may be changed, as one of memory. -/
def itPc : It → Pc
  | .blk b t cs => blkP b t cs
  | .pc c => c
  | _ => bigP []
/-- Pieces that may be changed, as one. -/
def bigI (xs : Blks) : Pc := bigP (xs.map itPc)
def isMut : It → Bool
  | .blk .. => true
  | .pc _ => true
  | _ => false
section
variable {xs ys : Blks} {x : It} {K : List Nat} {w : World}
theorem itPc_ids (h : isMut x = true) : (itPc x).ids = x.mids := by
  cases x with
  | blk b t cs => simp [itPc, It.mids, blkP]
  | pc c => rfl
  | _ => cases h
theorem itPc_p (h : isMut x = true) : (itPc x).p K w ↔ x.holds K w := by
  cases x with
  | blk b t cs => exact Iff.rfl
  | pc c => exact Iff.rfl
  | _ => cases h
theorem mut_rids (h : isMut x = true) : x.rids = [] := by
  cases x with
  | blk b t cs => rfl
  | pc c => rfl
  | _ => cases h
theorem bigI_ids : ∀ {xs : Blks}, xs.all isMut = true → (bigI xs).ids = mids xs
  | [], _ => rfl
  | x :: xs, h => by
    rw [List.all_cons, Bool.and_eq_true] at h
    have h1 := bigI_ids h.2
    unfold bigI bigP at h1 ⊢
    simp only [List.map_cons, List.flatMap_cons]
    rw [itPc_ids h.1, mids_cons]
    exact congrArg (x.mids ++ ·) h1
theorem bigI_p (h : xs.all isMut = true) : (bigI xs).p K w ↔ ∀ x ∈ xs, x.holds K w := by
  rw [List.all_eq_true] at h
  show (∀ c ∈ xs.map itPc, c.p K w) ↔ _
  constructor
  · intro h1 x hx
    exact (itPc_p (h x hx)).1 (h1 _ (List.mem_map.2 ⟨x, hx, rfl⟩))
  · intro h1 c hc
    obtain ⟨x, hx, rfl⟩ := List.mem_map.1 hc
    exact (itPc_p (h x hx)).2 (h1 x hx)
theorem mids_big (h : xs.all isMut = true) : mids [.pc (bigI xs)] = mids xs := by
  rw [mids_cons]
  show (bigI xs).ids ++ mids [] = _
  rw [bigI_ids h]
  simp [mids]
theorem all_rids (h : xs.all isMut = true) : ∀ x ∈ xs, x.rids = [] := fun x hx => mut_rids (List.all_eq_true.1 h x hx)
theorem Re.bigIn (h : xs.all isMut = true) : Re xs [.pc (bigI xs)] := ⟨⟨[], by rw [mids_big h, List.append_nil]⟩, by simp [It.rids], fun K w hx y hy => by
  rw [List.mem_singleton.1 hy]
  exact (bigI_p h).2 hx⟩
theorem Re.bigOut (h : xs.all isMut = true) : Re [.pc (bigI xs)] xs := ⟨⟨[], by rw [mids_big h, List.append_nil]⟩, all_rids h, fun K w hx y hy => (bigI_p h).1 (hx _ List.mem_cons_self) y hy⟩
/-- A function that reads, and leaves the pieces. -/
theorem Spec.stay {P : Program} {f : FuncId} {args : List Abs} {c : Pc} {r : Abs} (h : Spec P f args [] (fun _ : Unit => []) (fun _ => r)) : Spec P f args [.pc c] (fun _ : Unit => [.pc c]) (fun _ => r) := fun G w vals hm hv =>
  (h.after hm hv (After.pure Reads.nil (fun _ => rfl) (K := fun ν _ => ν = [.pc c]) (fun _ => rfl))).mono fun e w' ⟨z, u, ν, he, hx, ho, hm', hc, hr', hk⟩ => by
    subst hk
    exact ⟨(), u, he, by simp [It.rids], hm', hr'⟩
end
end Go.Proofs.YtickdhjljpnlpaaGreatDoor.A
/-
  The program's executor: what it tells.
-/
namespace Go.Proofs.YtickdhjljpnlpaaGreatDoor.A
open Go.RowKit

abbrev exA (n : Int) (x : Ex) (r : Value) : List Abs := [int n, int x.l.seq, int x.l.total, ltrsA x.l.ls, outA x.l.os, .v r]
/-- An executor, as a piece of memory. -/
abbrev exP (b : Nat) (n : Int) (x : Ex) (r : Value) : Pc := bigI [.blk b 71 (exA n x r), own 49 3 r (x.ds.map Dd.abs)]
theorem dds_same {ds : List Dd} {z : Nat} (h : z < ds.length) : (ds.map Dd.abs).set z ((Dd.abs ds[z]).set 1 (entsR ds[z].batch)) = ds.map Dd.abs := by
  rw [show (Dd.abs ds[z]).set 1 (entsR ds[z].batch) = Dd.abs ds[z] from rfl]
  refine List.ext_getElem (by simp) fun i h1 h2 => ?_
  rw [List.getElem_set]
  split
  · next h => subst h; simp
  · rfl
section
variable {x : Ex} {n seq k : Int} {es : List Ent} {m : List UInt8} {b : Nat} {r e1 e2 : Value} {c : Core} {xs : List Dd} {v : Value}
theorem exnew_s (hn : 1 ≤ n ∧ n ≤ 7) : Spec Tryz.prog 7 [int n] [] (fun b : Nat => [.pc (exP b n Ex.zero (.slice none 0 0))]) (fun b => ptr b) := by
 refine spec_of Tryz.func7 rfl Tryz.ntmps7 rfl fun G w => ?_
 refine SC.seq (SC.region ?_)
 refine SL.val (Val.assign rfl) rfl rfl ?_
 refine SL.nil (SE.seq ?_)
 refine SC.seq ?_
 refine SC.seq (SC.region ?_)
 refine SL.val (Val.move rfl) rfl rfl ?_
 refine SL.val (Val.ltI rfl rfl) rfl rfl ?_
 refine SL.val (Val.move rfl) rfl rfl ?_
 refine SL.bothP (t := 5) rfl (by intro hc5; exfalso; omega) ?_
 intro hc5
 refine SL.val (Val.move rfl) rfl rfl ?_
 refine SL.val (Val.gtI rfl rfl) rfl rfl ?_
 refine SL.val (Val.pickF rfl rfl) rfl rfl ?_
 refine SL.nil (SE.seq ?_)
 refine SC.condP rfl (by intro hc8; exfalso; omega) ?_
 intro hc8
 refine SC.skip ?_
 refine SE.seq ?_
 refine SC.seq ?_
 refine SC.own0 49 3 ?_
 refine SC.region ?_
 refine SL.val (Val.move rfl) rfl rfl ?_
 refine SL.val (Val.buildS (L := [int n, int 0, int 0, .v (.slice none 0 0), .v (.slice none 0 0), .v (.slice none 0 0)]) tabOk rfl rfl rfl (by rfl)) rfl rfl ?_
 refine SL.eff (Eff.boxA (cs := [int n, int 0, int 0, .v (.slice none 0 0), .v (.slice none 0 0), .v (.slice none 0 0)]) rfl) rfl rfl ?_
 rintro _ _ ⟨b11, rfl, rfl⟩
 refine SL.val (Val.assign rfl) rfl rfl ?_
 refine SL.nil (SE.seq ?_)
 refine SC.ret ?_
 refine SE.re [] (Re.cast (ds := exA n Ex.zero (.slice none 0 0)) (Casts.keep (Casts.keep (Casts.keep (Casts.nils (s := 6) (Casts.nils (s := 3) Casts.refl)))))) rfl ?_
 refine SE.re [] (Re.bigIn (xs := [_, _]) rfl) rfl ?_
 refine SE.fin (rs := [.tmp 2]) rfl (RV.tmp rfl RV.nil) (b11) (by repeat first|exact s0_ _|exact s1_ _|apply s2_|apply s3_) (by simp [It.rids]) ?_
 exact rfl
theorem excur_s  : Spec Tryz.prog 10 [ptr b] [.pc (exP b n x r)] (fun _ : Unit => [.pc (exP b n x r)]) (fun _ => int x.l.seq) := by
 refine spec_of Tryz.func10 rfl Tryz.ntmps10 rfl fun G w => ?_
 refine SC.seq (SC.region ?_)
 refine SL.val (Val.assign rfl) rfl rfl ?_
 refine SL.nil (SE.seq ?_)
 refine SC.seq ?_
 refine SC.seq ?_
 refine SC.re [] (Re.bigOut rfl) rfl ?_
 refine SC.region ?_
 refine SL.val (Val.move rfl) rfl rfl ?_
 refine SL.val (Val.eqP rfl rfl (by kernel_rfl)) rfl rfl ?_
 refine SL.nil (SE.seq ?_)
 refine SC.condF rfl ?_
 refine SC.skip ?_
 refine SE.seq ?_
 refine SC.seq (SC.region ?_)
 refine SL.val (Val.move rfl) rfl rfl ?_
 refine SL.val (Val.nilCheck rfl) rfl rfl ?_
 refine SL.val (Val.fieldAddr tabOk rfl rfl rfl rfl rfl) rfl rfl ?_
 refine SL.val (Val.fieldAddr tabOk rfl rfl rfl rfl rfl) rfl rfl ?_
 refine SL.val (Val.to (C := int x.l.seq) (Val.load1 tabOk rfl rfl (by repeat first|assumption|exact o0_|exact o1_|apply o2_) List.not_mem_nil (by rfl)) rfl) rfl rfl ?_
 refine SL.val (Val.assign rfl) rfl rfl ?_
 refine SL.nil (SE.seq ?_)
 refine SC.ret ?_
 refine SE.re [] (Re.bigIn (xs := [_, _]) rfl) rfl ?_
 refine SE.fin (rs := [.tmp 2]) rfl (RV.tmp rfl RV.nil) (()) (by repeat first|exact s0_ _|exact s1_ _|apply s2_|apply s3_) (by simp [It.rids]) ?_
 exact rfl
theorem exbytes_s (hl : i64ok x.l.total) : Spec Tryz.prog 12 [ptr b] [.pc (exP b n x r)] (fun _ : Unit => [.pc (exP b n x r)]) (fun _ => byt x.l.bytesR) := by
 refine spec_of Tryz.func12 rfl Tryz.ntmps12 rfl fun G w => ?_
 refine SC.seq (SC.region ?_)
 refine SL.val (Val.assign rfl) rfl rfl ?_
 refine SL.nil (SE.seq ?_)
 refine SC.seq ?_
 refine SC.seq ?_
 refine SC.re [] (Re.bigOut rfl) rfl ?_
 refine SC.region ?_
 refine SL.val (Val.move rfl) rfl rfl ?_
 refine SL.val (Val.eqP rfl rfl (by kernel_rfl)) rfl rfl ?_
 refine SL.nil (SE.seq ?_)
 refine SC.condF rfl ?_
 refine SC.skip ?_
 refine SE.seq ?_
 refine SC.seq (SC.region ?_)
 refine SL.val (Val.move rfl) rfl rfl ?_
 refine SL.val (Val.nilCheck rfl) rfl rfl ?_
 refine SL.val (Val.fieldAddr tabOk rfl rfl rfl rfl rfl) rfl rfl ?_
 refine SL.val (Val.to (C := .agg x.l.abs) (Val.loadP tabOk rfl rfl rfl (by repeat first|assumption|exact o0_|exact o1_|apply o2_) List.not_mem_nil (lb_ (by rfl))) rfl) rfl rfl ?_
 refine SL.call (lbytes_s (l := x.l) hl) Casts.refl (by kernel_rfl) rfl rfl rfl ?_
 refine ap_ ?_
 intro _
 refine SL.val (Val.assign rfl) rfl rfl ?_
 refine SL.nil (SE.seq ?_)
 refine SC.ret ?_
 refine SE.re [] (Re.bigIn (xs := [_, _]) rfl) rfl ?_
 refine SE.fin (rs := [.tmp 2]) rfl (RV.tmp rfl RV.nil) (()) (by repeat first|exact s0_ _|exact s1_ _|apply s2_|apply s3_) (by simp [It.rids]) ?_
 exact rfl
theorem clone_dds_s (hn : xs.length ≤ 1000000) : Spec Tryz.prog 35 [.v v] [.rdpc (ownPc 49 3 v (xs.map Dd.abs))] (fun r : Value => [own 49 3 r (xs.map Dd.abs)]) (fun r => .v r) := by
 refine spec_of Tryz.func35 rfl Tryz.ntmps35 rfl fun G w => ?_
 refine SC.seq (SC.region ?_)
 refine SL.val (Val.assign rfl) rfl rfl ?_
 refine SL.nil (SE.seq ?_)
 refine SC.seq ?_
 refine SC.seq (SC.region ?_)
 refine SL.val (Val.move rfl) rfl rfl ?_
 refine SL.eqNilOwn (e2 := 49) (s := 3) (xs := xs.map Dd.abs) Tryz.underlying46 rfl (.inr (by repeat first|assumption|exact m0_|apply m1_)) rfl rfl ?_
 intro b hb
 refine SL.nil (SE.seq ?_)
 refine SC.cond rfl ?_ ?_
 ·intro hc4
  have hnil : xs = [] := List.map_eq_nil_iff.1 (hb hc4)
  subst hnil
  refine SC.seq ?_
  refine SC.own0 49 3 ?_
  refine SC.region ?_
  refine SL.val (Val.assign rfl) rfl rfl ?_
  refine SL.nil (SE.seq ?_)
  refine SC.ret ?_
  refine SE.then_ nofun ?_
  refine SE.fin (rs := [.tmp 2]) rfl (RV.tmp rfl RV.nil) (.slice none 0 0) (by repeat first|exact s0_ _|exact s1_ _|apply s2_|apply s3_) (by simp [It.rids]) ?_
  exact rfl
 intro hc4
 refine SC.skip ?_
 refine SE.seq ?_
 refine SC.seq (SC.region ?_)
 refine SL.eff (Eff.buildOwn tabOk Tryz.underlying46 rfl rfl rfl rfl rfl rfl rfl) rfl rfl ?_
 rintro _ _ ⟨r5, rfl, rfl⟩
 refine SL.val (Val.move rfl) rfl rfl ?_
 refine SL.eff (Eff.appendR tabOk Tryz.underlying46 rfl rfl rfl rfl rfl (.inr (by repeat first|assumption|exact m0_|apply m1_)) rfl (dds_ones xs) (by unfold maxLen; simp only [List.length_map, List.length_nil]; omega) (by rw [show Tryz.prog.bytesOf 49 = 40 by kernel_rfl]; simp only [List.length_map, List.length_nil]; omega)) rfl rfl ?_
 rintro _ _ ⟨r7, rfl, rfl⟩
 refine SL.val (Val.assign rfl) rfl rfl ?_
 refine SL.nil (SE.seq ?_)
 refine SC.ret ?_
 refine SE.fin (rs := [.tmp 2]) rfl (RV.tmp rfl RV.nil) (r7) (by repeat first|exact s0_ _|exact s1_ _|apply s2_|apply s3_) (by simp [It.rids]) ?_
 exact rfl
set_option maxHeartbeats 1000000 in
theorem exdeeds_s (hn : x.ds.length ≤ 100000) (hb : ∀ d ∈ x.ds, d.batch.length ≤ 1000) : Spec Tryz.prog 15 [ptr b] [.pc (exP b n x r)] (fun _ : Unit => [.pc (exP b n x r)]) (fun _ => ddsA x.ds) := by
 refine spec_of Tryz.func15 rfl Tryz.ntmps15 rfl fun G w => ?_
 refine SC.seq (SC.region ?_)
 refine SL.val (Val.assign rfl) rfl rfl ?_
 refine SL.nil (SE.seq ?_)
 refine SC.seq ?_
 refine SC.seq ?_
 refine SC.re [] (Re.bigOut rfl) rfl ?_
 refine SC.region ?_
 refine SL.val (Val.move rfl) rfl rfl ?_
 refine SL.val (Val.eqP rfl rfl (by kernel_rfl)) rfl rfl ?_
 refine SL.nil (SE.seq ?_)
 refine SC.condF rfl ?_
 refine SC.skip ?_
 refine SE.seq ?_
 refine SC.seq (SC.region ?_)
 refine SL.val (Val.move rfl) rfl rfl ?_
 refine SL.val (Val.nilCheck rfl) rfl rfl ?_
 refine SL.val (Val.fieldAddr tabOk rfl rfl rfl rfl rfl) rfl rfl ?_
 refine SL.val (Val.to (C := .v r) (Val.load1 tabOk rfl rfl (by repeat first|assumption|exact o0_|exact o1_|apply o2_) List.not_mem_nil (by rfl)) rfl) rfl rfl ?_
 refine SL.call (clone_dds_s (v := r) (xs := x.ds) (by omega)) Casts.refl (by kernel_rfl) rfl rfl rfl ?_
 refine After.make (by repeat (first | exact Reads.nil | (refine Reads.blk ?_ ?_; focus ((repeat first|assumption|exact m0_|apply m1_); done)) | (refine Reads.rd ?_ ?_; focus ((repeat first|assumption|exact m0_|apply m1_); done)) | (refine Reads.pc ?_ ?_; focus ((repeat first|assumption|exact m0_|apply m1_); done)) | (refine Reads.rdpc ?_ ?_; focus ((repeat first|assumption|exact m0_|apply m1_); done)))) (fun _ => rfl) ?_
 intro v3
 refine SL.val (Val.assign rfl) rfl rfl ?_
 refine SL.nil (SE.seq ?_)
 refine SC.seq ?_
 refine SC.seq (SC.region ?_)
 refine SL.val (Val.move rfl) rfl rfl ?_
 refine SL.val (Val.lenOwnR (m := x.ds.length) rfl (.inl (by repeat first|assumption|exact m0_|apply m1_)) Tryz.underlying46 (List.length_map _)) rfl rfl ?_
 refine SL.val (Val.move rfl) rfl rfl ?_
 refine SL.nil (SE.seq ?_)
 refine SC.block ?_
 refine SC.loop (ι := Nat) (fun z => [own 49 3 v3 (x.ds.map Dd.abs), .blk b 71 (exA n x r), own 49 3 r (x.ds.map Dd.abs)]) (fun z => [(3, .v v3), (13, int (x.ds.length : Nat)), (14, int (z : Nat))]) (fun z => z ≤ x.ds.length) (fun z => x.ds.length - z) (0) (Nat.zero_le _) (by exact ⟨rfl, rfl, rfl, trivial⟩) (by repeat first|exact s0_ _|exact s1_ _|apply s2_|apply s3_) ?_
 intro z hz
 refine SC.seq (SC.region ?_)
 refine SL.val (Val.ltI rfl rfl) rfl rfl ?_
 refine SL.nil (SE.seq ?_)
 refine SC.seq ?_
 refine SC.condP rfl ?_ ?_
 rotate_left
 ·intro hc15
  refine SC.exit ?_
  refine SE.then_ nofun ?_
  refine SE.then_ nofun ?_
  refine SE.exit ?_
  refine SE.seq ?_
  refine SC.seq (SC.region ?_)
  refine SL.val (Val.move rfl) rfl rfl ?_
  refine SL.val (Val.assign rfl) rfl rfl ?_
  refine SL.nil (SE.seq ?_)
  refine SC.ret ?_
  refine SE.freeze [] (t := 2) rfl rfl ?_
  refine SE.re [] (Re.bigIn (xs := [_, _]) rfl) rfl ?_
  refine SE.fin (rs := [.tmp 2]) rfl (RV.tmp rfl RV.nil) (()) (by repeat first|exact s0_ _|exact s1_ _|apply s2_|apply s3_) (by simp [It.rids]) ?_
  exact rfl
 intro hc15
 have hlt : z < x.ds.length := by omega
 refine SC.skip ?_
 refine SE.seq ?_
 refine SC.seq ?_
 refine SC.block ?_
 refine SC.seq (SC.region ?_)
 refine SL.val (Val.move rfl) rfl rfl ?_
 refine SL.val (Val.assign rfl) rfl rfl ?_
 refine SL.nil (SE.seq ?_)
 refine SC.region ?_
 iterate 4 refine SL.val (Val.move rfl) rfl rfl ?_
 refine SL.val (Val.indexOwn (q := z) tabOk Tryz.underlying46 rfl rfl (.inl (by repeat first|assumption|exact m0_|apply m1_)) rfl rfl (by rw [List.length_map]; exact hlt) rfl rfl) rfl rfl ?_
 refine SL.val (Val.fieldOwn (q := z) (s := 3) (cs := Dd.abs (x.ds[z]'hlt)) tabOk rfl rfl (.inl (by repeat first|assumption|exact m0_|apply m1_)) rfl (by rw [List.getElem?_map, List.getElem?_eq_getElem hlt]; rfl) rfl rfl rfl) rfl rfl ?_
 refine SL.val (Val.to (C := entsR (x.ds[z]'hlt).batch) (Val.loadOwnJ (q := z) (s := 3) (jj := 1) (cs := Dd.abs (x.ds[z]'hlt)) tabOk rfl rfl (.inl (by repeat first|assumption|exact m0_|apply m1_)) rfl (by rw [List.getElem?_map, List.getElem?_eq_getElem hlt]; rfl) rfl) rfl) rfl rfl ?_
 refine SL.call (clone_ents_s (ents_ones (x.ds[z]'hlt).batch) (by rw [List.length_map]; have := hb _ (List.getElem_mem hlt); omega)) Casts.refl (by kernel_rfl) rfl rfl rfl ?_
 refine ap_ ?_
 intro _
 refine SL.val (Val.indexOwn (q := z) tabOk Tryz.underlying46 rfl rfl (.inl (by repeat first|assumption|exact m0_|apply m1_)) rfl rfl (by rw [List.length_map]; exact hlt) rfl rfl) rfl rfl ?_
 refine SL.val (Val.fieldOwn (q := z) (s := 3) (cs := Dd.abs (x.ds[z]'hlt)) tabOk rfl rfl (.inl (by repeat first|assumption|exact m0_|apply m1_)) rfl (by rw [List.getElem?_map, List.getElem?_eq_getElem hlt]; rfl) rfl rfl rfl) rfl rfl ?_
 refine SL.eff (Eff.setOwnJ (q := z) (s := 3) (jj := 1) (cs := Dd.abs (x.ds[z]'hlt)) tabOk rfl rfl rfl rfl rfl (by rw [List.getElem?_map, List.getElem?_eq_getElem hlt]; rfl) rfl (by repeat first|assumption|exact Upd.here|apply Upd.there)) rfl rfl ?_
 rintro _ _ ⟨rfl, rfl⟩
 rw [dds_same hlt]
 refine SL.nil ?_
 refine SE.inBlock ?_
 refine SE.seq ?_
 refine SC.region ?_
 first
  | refine SL.val (Val.addI rfl rfl (by simp only [InR, lo, hi]; omega)) rfl rfl ?_
  | refine SL.val (Val.addW rfl rfl) rfl rfl ?_
 refine SL.val (Val.move rfl) rfl rfl ?_
 refine SL.nil ?_
 refine SE.round (z + 1) (by first | omega | (dsimp only; omega)) (by first | omega | (dsimp only; omega)) (by exact ⟨rfl, rfl, rfl, trivial⟩) (by repeat first|exact s0_ _|exact s1_ _|apply s2_|apply s3_)
end
end Go.Proofs.YtickdhjljpnlpaaGreatDoor.A
/-
  The second engine: maps of rows of the call's own: a row taken out, and put back; all of them as rows that are read.
-/
namespace Go.Proofs.YtickdhjljpnlpaaGreatDoor.A
open Go.RowKit

section
variable {xs ys zs : Blks} {x : It}
theorem Re.bigPerm (hp : xs.Perm ys) (hx : xs.all isMut = true) : Re [.pc (bigI xs)] [.pc (bigI ys)] := by
  have hy : ys.all isMut = true := List.all_eq_true.2 fun y hy => List.all_eq_true.1 hx y (hp.mem_iff.2 hy)
  refine ⟨⟨[], ?_⟩, by simp [It.rids], fun K w h y hy2 => ?_⟩
  · rw [mids_big hx, mids_big hy, List.append_nil]
    exact mids_perm hp
  · rw [List.mem_singleton.1 hy2]
    exact (bigI_p hy).2 fun z hz => (bigI_p hx).1 (h _ List.mem_cons_self) z (hp.mem_iff.2 hz)
theorem mids_two (h : xs.all isMut = true) : mids [x, .pc (bigI xs)] = mids (x :: xs) := by
  rw [mids_cons, mids_big h, mids_cons]
theorem Re.bigCons (h : (x :: xs).all isMut = true) : Re [.pc (bigI (x :: xs))] [x, .pc (bigI xs)] := by
  have h1 : isMut x = true ∧ xs.all isMut = true := by rw [List.all_cons, Bool.and_eq_true] at h; exact h
  refine ⟨⟨[], ?_⟩, fun y hy => ?_, fun K w hh y hy => ?_⟩
  · rw [mids_big h, mids_two h1.2, List.append_nil]
  · rcases List.mem_cons.1 hy with rfl | hy
    · exact mut_rids h1.1
    · rw [List.mem_singleton.1 hy]; rfl
  · have h2 := (bigI_p h).1 (hh _ List.mem_cons_self)
    rcases List.mem_cons.1 hy with rfl | hy
    · exact h2 _ List.mem_cons_self
    · rw [List.mem_singleton.1 hy]
      exact (bigI_p h1.2).2 fun z hz => h2 z (List.mem_cons_of_mem _ hz)
end
/-! ### Maps as lists of pairs -/
section
variable {α γ : Type} [DecidableEq α] {m : List (α × γ)} {a : α} {u : γ}
theorem aget_perm (hn : (m.map (·.1)).Nodup) (h : aget m a = some u) : m.Perm ((a, u) :: adel m a) := by
  induction m with
  | nil => cases h
  | cons p m ih =>
    rw [List.map_cons, List.nodup_cons] at hn
    by_cases hp : p.1 = a
    · have hu : p.2 = u := by
        unfold aget at h
        rw [List.find?_cons, decide_eq_true hp] at h
        exact Option.some.inj h
      have hd : adel (p :: m) a = m := by
        have h1 : adel (p :: m) a = adel m a := List.filter_cons_of_neg (by simpa using hp)
        rw [h1]
        exact adel_none ((aget_none m a).2 (hp ▸ hn.1))
      rw [hd, ← hp, ← hu]
    · have h1 : aget m a = some u := by
        unfold aget at h ⊢
        rw [List.find?_cons, decide_eq_false hp] at h
        exact h
      have h2 : adel (p :: m) a = p :: adel m a := List.filter_cons_of_pos (by simpa using hp)
      rw [h2]
      exact ((ih hn.2 h1).cons p).trans (List.Perm.swap _ _ _)
end
/-! ### The rows -/
section
variable {α β : Type} [DecidableEq α] {tm : List (α × (Value × β))} {a : α} {v : Value} {x z0 : β} {f : β → List (List Abs)} {T : TypeId} {s : Nat}
def rowsB {α : Type} (T : TypeId) (s : Nat) (f : β → List (List Abs)) (tm : List (α × (Value × β))) : Blks := tm.map fun e => own T s e.2.1 (f e.2.2)
abbrev rowsPc {α : Type} (T : TypeId) (s : Nat) (f : β → List (List Abs)) (tm : List (α × (Value × β))) : Pc := bigI (rowsB T s f tm)
def rowV (tm : List (α × (Value × β))) (a : α) : Value := ((aget tm a).map (·.1)).getD (.slice none 0 0)
def rowD (tm : List (α × (Value × β))) (a : α) (z0 : β) : β := ((aget tm a).map (·.2)).getD z0
omit [DecidableEq α] in
theorem rowsB_mut : (rowsB T s f tm).all isMut = true := by
  unfold rowsB
  rw [List.all_map]
  exact List.all_eq_true.2 fun _ _ => rfl
omit [DecidableEq α] in
theorem rowsB_perm {tm' : List (α × (Value × β))} (h : tm.Perm tm') : (rowsB T s f tm).Perm (rowsB T s f tm') := h.map _
theorem Re.rowOut (hn : (tm.map (·.1)).Nodup) (hz : f z0 = []) : Re [.pc (rowsPc T s f tm)] [own T s (rowV tm a) (f (rowD tm a z0)), .pc (rowsPc T s f (adel tm a))] := by
  cases h : aget tm a with
  | none =>
    have h1 : rowV tm a = .slice none 0 0 := by unfold rowV; rw [h]; rfl
    have h2 : f (rowD tm a z0) = [] := by unfold rowD; rw [h]; exact hz
    rw [h1, h2, adel_none h]
    refine ⟨⟨[], by simp [mids, It.mids, ownPc, Value.ownBlock]⟩, fun y hy => ?_, fun K w hh y hy => ?_⟩
    · rcases List.mem_cons.1 hy with rfl | hy
      · rfl
      · rw [List.mem_singleton.1 hy]; rfl
    · rcases List.mem_cons.1 hy with rfl | hy
      · exact ⟨[], ⟨by simp, .inl ⟨rfl, rfl⟩⟩, rfl⟩
      · rw [List.mem_singleton.1 hy]
        exact hh _ List.mem_cons_self
  | some u =>
    have h1 : rowV tm a = u.1 := by unfold rowV; rw [h]; rfl
    have h2 : rowD tm a z0 = u.2 := by unfold rowD; rw [h]; rfl
    rw [h1, h2]
    have h3 := rowsB_perm (T := T) (s := s) (f := f) (aget_perm hn h)
    exact (Re.bigPerm h3 rowsB_mut).trans (Re.bigCons (rowsB_mut (tm := (a, u) :: adel tm a)))
variable {P : Program} {n : Nat} {W : Wd} {σ : Blks} {l : Slots} {ops : Array Oper} {rest : List Oper} {Q : Exit → Act → World → Prop} {ix : Plan} {X : List Nat}
omit [DecidableEq α] in
/-- The pieces lie apart. -/
theorem SC.nod {c : Code} (k : (mids σ).Nodup → SC P c (St n W σ l) Q) : SC P c (St n W σ l) Q := fun a w h => k h.mem.nodup a w h
end
end Go.Proofs.YtickdhjljpnlpaaGreatDoor.A
