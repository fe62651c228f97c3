/-
  Packed out of the texts: EX6, CT1, TDoc, TM5, CT2, EX7, EX8, EX9.
-/
import Derived.Test.YtickdhjljpnlpaaGreatDoorP013
/-
  The program's executor: what it does.
-/
set_option maxRecDepth 100000
set_option linter.unusedSimpArgs false
set_option linter.unusedVariables false
namespace Go.Proofs.YtickdhjljpnlpaaGreatDoor.A
open Go.RowKit

section
variable {x : Ex} {n seq k : Int} {es : List Ent} {m : List UInt8} {b : Nat} {r e1 e2 : Value} {c : Core} {xs : List Dd} {v : Value}
set_option maxHeartbeats 4000000 in
theorem exdo_s {j : Nat} (he : isIf e1) (hr : isIf e2) (hes : ∀ e ∈ es, EnIns e) (hb : es.length ≤ 10) (hk : j ≤ 45) (hx : x.Ok j) : Spec Tryz.prog 9 [ptr b, int seq, entsR es] (.pc (exP b n x r) :: (globs e1 e2)) (fun r' : Value => [.pc (exP b n (x.doX n seq es) r')]) (fun _ => .tup [outA (x.doO n seq es), int (x.doE n seq es)]) := by
 have hs0 := hx.seq
 have hl0 := hx.ls
 have ho0 := hx.os
 have hd0 := hx.few
 have hrl : ((x.l.foldF es n)).2.length = es.length := goes_len n x.l es
 refine spec_of Tryz.func9 rfl Tryz.ntmps9 rfl fun G w => ?_
 refine SC.seq (SC.region ?_)
 iterate 2 refine SL.val (Val.assign rfl) rfl rfl ?_
 refine SL.nil (SE.seq ?_)
 refine SC.seq ?_
 refine SC.block ?_
 refine SC.seq ?_
 refine SC.re [] (Re.bigOut rfl) rfl ?_
 refine SC.region ?_
 refine SL.val (Val.move rfl) rfl rfl ?_
 refine SL.val (Val.eqP rfl rfl (by kernel_rfl)) rfl rfl ?_
 refine SL.val (Val.assign rfl) rfl rfl ?_
 refine SL.nil (SE.seq ?_)
 refine SC.condF rfl ?_
 refine SC.seq (SC.region ?_)
 refine SL.val (Val.move rfl) rfl rfl ?_
 refine SL.val (Val.nilCheck rfl) rfl rfl ?_
 refine SL.val (Val.fieldAddr tabOk rfl rfl rfl rfl rfl) rfl rfl ?_
 refine SL.val (Val.fieldAddr tabOk rfl rfl rfl rfl rfl) rfl rfl ?_
 refine SL.val (Val.to (C := int x.l.seq) (Val.load1 tabOk rfl rfl (by repeat first|assumption|exact o0_|exact o1_|apply o2_) List.not_mem_nil (by rfl)) rfl) rfl rfl ?_
 refine SL.val (Val.geI rfl rfl) rfl rfl ?_
 refine SL.val (Val.move rfl) rfl rfl ?_
 refine SL.bothP (t := 24) rfl ?_ ?_
 ·intro hc24
  iterate 8 refine SL.skip rfl rfl ?_
  refine SL.val (Val.pickT rfl rfl) rfl rfl ?_
  refine SL.val (Val.assign rfl) rfl rfl ?_
  refine SL.nil (SE.seq ?_)
  refine SC.condT rfl ?_
  refine SC.seq (SC.region ?_)
  iterate 2 refine SL.val (Val.assign rfl) rfl rfl ?_
  refine SL.nil (SE.seq ?_)
  refine SC.ret ?_
  refine SE.ret ?_
  refine SE.then_ nofun ?_
  obtain ⟨g1, g2, g3⟩ := do_mark (x := x) (n := n) (b := es) (seq := seq) (by omega)
  rw [g1, g2, g3]
  refine SE.re [] (Re.bigIn (xs := [_, _]) rfl) rfl ?_
  refine SE.finC (rs := [.tmp 6, .tmp 7]) rfl (RV.tmp rfl (RV.tmp rfl RV.nil)) (Casts.nils (s := 3) Casts.refl) (r) (by repeat first|exact s0_ _|exact s1_ _|apply s2_|apply s3_) (by simp [It.rids]) ?_
  exact rfl
 intro hc24
 iterate 2 refine SL.val (Val.move rfl) rfl rfl ?_
 refine SL.val (Val.nilCheck rfl) rfl rfl ?_
 refine SL.val (Val.fieldAddr tabOk rfl rfl rfl rfl rfl) rfl rfl ?_
 refine SL.val (Val.fieldAddr tabOk rfl rfl rfl rfl rfl) rfl rfl ?_
 refine SL.val (Val.to (C := int x.l.seq) (Val.load1 tabOk rfl rfl (by repeat first|assumption|exact o0_|exact o1_|apply o2_) List.not_mem_nil (by rfl)) rfl) rfl rfl ?_
 refine SL.val (Val.addI rfl rfl (by simp only [InR, lo, hi]; omega)) rfl rfl ?_
 refine SL.val (Val.neI rfl rfl) rfl rfl ?_
 refine SL.val (Val.pickF rfl rfl) rfl rfl ?_
 refine SL.val (Val.assign rfl) rfl rfl ?_
 refine SL.nil (SE.seq ?_)
 refine SC.condP rfl ?_ ?_
 ·intro hc17
  refine SC.seq (SC.region ?_)
  iterate 2 refine SL.val (Val.assign rfl) rfl rfl ?_
  refine SL.nil (SE.seq ?_)
  refine SC.ret ?_
  refine SE.ret ?_
  refine SE.then_ nofun ?_
  obtain ⟨g1, g2, g3⟩ := do_mark (x := x) (n := n) (b := es) (seq := seq) (by omega)
  rw [g1, g2, g3]
  refine SE.re [] (Re.bigIn (xs := [_, _]) rfl) rfl ?_
  refine SE.finC (rs := [.tmp 6, .tmp 7]) rfl (RV.tmp rfl (RV.tmp rfl RV.nil)) (Casts.nils (s := 3) Casts.refl) (r) (by repeat first|exact s0_ _|exact s1_ _|apply s2_|apply s3_) (by simp [It.rids]) ?_
  exact rfl
 intro hc17
 refine SC.skip ?_
 refine SE.inBlock ?_
 refine SE.seq ?_
 refine SC.seq ?_
 refine SC.seq (SC.region ?_)
 iterate 2 refine SL.val (Val.move rfl) rfl rfl ?_
 refine SL.val (Val.nilCheck rfl) rfl rfl ?_
 refine SL.val (Val.fieldAddr tabOk rfl rfl rfl rfl rfl) rfl rfl ?_
 refine SL.val (Val.to (C := int n) (Val.load1 tabOk rfl rfl (by repeat first|assumption|exact o0_|exact o1_|apply o2_) List.not_mem_nil (by rfl)) rfl) rfl rfl ?_
 refine SL.call (bcheck_s (es := es) (n := n) (by omega)) Casts.refl (by kernel_rfl) rfl rfl rfl ?_
 refine ap_ ?_
 intro _
 refine SL.val (Val.assign rfl) rfl rfl ?_
 refine SL.nil (SE.seq ?_)
 refine SC.seq (SC.region ?_)
 refine SL.val (Val.move rfl) rfl rfl ?_
 refine SL.val (Val.neI rfl rfl) rfl rfl ?_
 refine SL.nil (SE.seq ?_)
 refine SC.condP rfl ?_ ?_
 ·intro hc41
  refine SC.seq (SC.region ?_)
  refine SL.val (Val.move rfl) rfl rfl ?_
  iterate 2 refine SL.val (Val.assign rfl) rfl rfl ?_
  refine SL.nil (SE.seq ?_)
  refine SC.ret ?_
  refine SE.then_ nofun ?_
  obtain ⟨g1, g2, g3⟩ := do_odd (x := x) (n := n) (b := es) (seq := seq) (by omega) hc41
  rw [g1, g2, g3]
  refine SE.re [] (Re.bigIn (xs := [_, _]) rfl) rfl ?_
  refine SE.finC (rs := [.tmp 6, .tmp 7]) rfl (RV.tmp rfl (RV.tmp rfl RV.nil)) (Casts.nils (s := 3) Casts.refl) (r) (by repeat first|exact s0_ _|exact s1_ _|apply s2_|apply s3_) (by simp [It.rids]) ?_
  exact rfl
 intro hc41
 refine SC.skip ?_
 refine SE.seq ?_
 refine SC.cutS (ι := Nat) (fun q9 => (.blk q9 30 (x.l.foldF es n).1.abs :: .blk b 71 (exA n x r) :: own 49 3 r (x.ds.map Dd.abs) :: [])) (fun q9 => [(0, ptr b), (1, int seq), (2, entsR es), (9, ptr q9), (10, errsR (x.l.foldF es n).2)]) (fun q9 => True) ?_ ?_
 ·skip
  refine SC.draw [] (.q 0 (.q 1 (.q 2 (.q 3 (.q 4 (.q 5 (.q 6 (.q 7 (.q 8 (.two 9 13 (.q 10 (.q 11 (.q 12 (.e 13 (.e 14 (.q 15 .nil)))))) (.e 9 (.q 10 (.q 11 (.q 12 (.e 14 (.q 15 .nil)))))))))))))))) (by kernel_rfl) (by kernel_rfl) ?_
  refine SX.val rfl (Val.move rfl) (by simp) rfl rfl ?_
  refine SX.val rfl (Val.nilCheck rfl) (by simp) rfl rfl ?_
  refine SX.val rfl (Val.fieldAddr tabOk rfl rfl rfl rfl rfl) (by simp) rfl rfl ?_
  refine SX.hx (by first|(simp[mids,It.mids,ownPc];done)|(intro k hk;simp[mids,It.mids,ownPc] at hk ⊢;grind)) fun hx9 => ?_
  refine SX.val rfl (Val.to (C := .agg x.l.abs) (Val.loadP tabOk rfl rfl rfl (by repeat first|assumption|exact o0_|exact o1_|apply o2_) List.not_mem_nil (lb_ (by rfl))) rfl) hx9 rfl rfl ?_
  refine SX.val rfl (Val.move rfl) (by simp) rfl rfl ?_
  refine SX.val rfl (Val.move rfl) (by simp) rfl rfl ?_
  refine SX.val rfl (Val.nilCheck rfl) (by simp) rfl rfl ?_
  refine SX.val rfl (Val.fieldAddr tabOk rfl rfl rfl rfl rfl) (by simp) rfl rfl ?_
  refine SX.val rfl (Val.to (C := int n) (Val.load1 tabOk rfl rfl (by repeat first|assumption|exact o0_|exact o1_|apply o2_) List.not_mem_nil (by rfl)) rfl) hx9 rfl rfl ?_
  refine SX.two ?_ ?_
  ·skip
   refine SX.call rfl (lfold_s (l := x.l) (es := es) (n := n) he hr hes hx.ins.wf (by omega) (by omega) (by omega) (by omega)) (by simp [mids, It.mids]) Casts.refl (by kernel_rfl) rfl rfl rfl ?_
   refine ap_ ?_
   intro _
   refine SX.val rfl (Val.move rfl) (by simp) rfl rfl ?_
   refine SX.val rfl (Val.extract rfl rfl) (by simp) rfl rfl ?_
   refine SX.val rfl (Val.extract rfl rfl) (by simp) rfl rfl ?_
   refine SX.alloc tabOk rfl rfl rfl rfl fun b9 => ?_
   refine SX.eff rfl (Eff.store (L' := (x.l.foldF es n).1.abs) tabOk rfl rfl rfl (by repeat first|assumption|exact Upd.here|apply Upd.there) rfl (lb_ (by rfl)) rfl (by exact putL_whole rfl)) (by simp) rfl rfl ?_
   rintro _ _ ⟨rfl, rfl⟩
   refine SX.hx (by first|(simp[mids,It.mids,ownPc];done)|(intro k hk;simp[mids,It.mids,ownPc] at hk ⊢;grind)) fun hx9 => ?_
   refine SX.val rfl (Val.assign rfl) hx9 rfl rfl ?_
   refine SX.nil ?_
   refine SE.meet (b9) (trivial) (by exact ⟨rfl, rfl, rfl, rfl, rfl, trivial⟩) (by repeat first|exact s0_ _|exact s1_ _|apply s2_|apply s3_)
  ·skip
   refine SX.alloc tabOk rfl rfl rfl rfl fun b9 => ?_
   refine SX.call rfl (lfold_s (l := x.l) (es := es) (n := n) he hr hes hx.ins.wf (by omega) (by omega) (by omega) (by omega)) (by simp [mids, It.mids]) Casts.refl (by kernel_rfl) rfl rfl rfl ?_
   refine ap_ ?_
   intro _
   refine SX.hx (by first|(simp[mids,It.mids,ownPc];done)|(intro k hk;simp[mids,It.mids,ownPc] at hk ⊢;grind)) fun hx9 => ?_
   refine SX.val rfl (Val.move rfl) hx9 rfl rfl ?_
   refine SX.val rfl (Val.extract rfl rfl) hx9 rfl rfl ?_
   refine SX.val rfl (Val.extract rfl rfl) hx9 rfl rfl ?_
   refine SX.eff rfl (Eff.store (L' := (x.l.foldF es n).1.abs) tabOk rfl rfl rfl (by repeat first|assumption|exact Upd.here|apply Upd.there) rfl (lb_ (by rfl)) rfl (by exact putL_whole rfl)) (by simp) rfl rfl ?_
   rintro _ _ ⟨rfl, rfl⟩
   refine SX.hx (by first|(simp[mids,It.mids,ownPc];done)|(intro k hk;simp[mids,It.mids,ownPc] at hk ⊢;grind)) fun hx9 => ?_
   refine SX.val rfl (Val.assign rfl) hx9 rfl rfl ?_
   refine SX.nil ?_
   refine SE.meet (b9) (trivial) (by exact ⟨rfl, rfl, rfl, rfl, rfl, trivial⟩) (by repeat first|exact s0_ _|exact s1_ _|apply s2_|apply s3_)
 ·intro q9 hq9
  refine SC.seq (SC.region ?_)
  refine SL.val (Val.move rfl) rfl rfl ?_
  refine SL.val (Val.to (C := .agg (x.l.foldF es n).1.abs) (Val.loadP tabOk rfl rfl rfl (by repeat first|assumption|exact o0_|exact o1_|apply o2_) List.not_mem_nil (lb_ (by rfl))) rfl) rfl rfl ?_
  refine SL.val (Val.nilCheck rfl) rfl rfl ?_
  refine SL.val (Val.fieldAddr tabOk rfl rfl rfl rfl rfl) rfl rfl ?_
  refine SL.eff (Eff.store (L' := exA n (⟨(x.l.foldF es n).1, x.ds⟩ : Ex) r) tabOk rfl rfl rfl (by repeat first|assumption|exact Upd.here|apply Upd.there) rfl (lb_ (by rfl)) rfl (by rfl)) rfl rfl ?_
  rintro _ _ ⟨rfl, rfl⟩
  refine SL.nil (SE.seq ?_)
  refine SC.cutS (ι := Value) (fun q10 => (.blk b 71 (exA n (⟨(x.l.foldF es n).1, x.ds ++ [⟨seq, es, false⟩]⟩ : Ex) q10) :: own 49 3 q10 ((⟨(x.l.foldF es n).1, x.ds ++ [⟨seq, es, false⟩]⟩ : Ex).ds.map Dd.abs) :: [])) (fun q10 => [(2, entsR es), (10, errsR (x.l.foldF es n).2)]) (fun q10 => True) ?_ ?_
  ·skip
   refine SC.draw (r.ownBlock.toList ++ [b]) (.q 0 (.q 1 (.q 2 (.q 3 (.q 5 (.q 6 (.two 4 7 (.e 7 (.q 8 (.e 9 (.e 10 (.q 11 (.q 12 (.e 13 .nil))))))) (.q 8 (.two 4 9 (.e 9 (.e 10 (.q 11 (.q 12 (.e 13 .nil))))) (.e 4 (.e 10 (.q 11 (.q 12 (.e 13 .nil)))))))))))))) (by kernel_rfl) (by kernel_rfl) ?_
   refine SX.hx (by first|(simp[mids,It.mids,ownPc];done)|(intro k hk;simp[mids,It.mids,ownPc] at hk ⊢;grind)) fun hx9 => ?_
   refine SX.val rfl (Val.move rfl) hx9 rfl rfl ?_
   refine SX.val rfl (Val.move rfl) hx9 rfl rfl ?_
   refine SX.val rfl (Val.nilCheck rfl) hx9 rfl rfl ?_
   refine SX.val rfl (Val.fieldAddr tabOk rfl rfl rfl rfl rfl) hx9 rfl rfl ?_
   refine SX.val rfl (Val.move rfl) hx9 rfl rfl ?_
   refine SX.val rfl (Val.move rfl) hx9 rfl rfl ?_
   refine SX.two ?_ ?_
   ·skip
    refine SX.valE rfl (Val.to (C := .v r) (Val.load1 tabOk rfl rfl (by repeat first|assumption|exact o0_|exact o1_|apply o2_) List.not_mem_nil (by rfl)) rfl) rfl rfl ?_
    refine SX.call rfl (clone_ents_s (ents_ones es) (by rw [List.length_map]; omega)) (by simp [mids, It.mids]) Casts.refl (by kernel_rfl) rfl rfl rfl ?_
    refine ap_ ?_
    intro _
    refine SX.hx (by first|(simp[mids,It.mids,ownPc];done)|(intro k hk;simp[mids,It.mids,ownPc] at hk ⊢;grind)) fun hx9 => ?_
    refine SX.val rfl (Val.buildS (L := Dd.abs ⟨seq, es, false⟩) tabOk rfl rfl rfl (by rfl)) hx9 rfl rfl ?_
    refine SX.eff rfl (Eff.buildSl tabOk Tryz.underlying46 rfl rfl rfl rfl rfl rfl rfl) (by simp) rfl rfl ?_
    rintro _ _ ⟨rfl, rfl⟩
    refine SX.effX [b] rfl (Eff.appendE (zs := (x.ds ++ [(⟨seq, es, false⟩ : Dd)]).map Dd.abs) tabOk [_, _] (by rw [List.map_append]; rfl) Tryz.underlying46 rfl rfl rfl rfl rfl rfl (by intro c hc; rw [List.mem_singleton] at hc; subst hc; rfl) (by unfold maxLen; simp only [List.length_map, List.length_cons, List.length_nil]; omega) (by rw [show Tryz.prog.bytesOf 49 = 40 by kernel_rfl]; simp only [List.length_map, List.length_cons, List.length_nil]; omega)) (fun k hk => List.mem_append_left _ hk) (by simp) rfl rfl ?_
    rintro _ _ ⟨r70, rfl, rfl⟩
    refine SX.hx (by first|(simp[mids,It.mids,ownPc];done)|(intro k hk;simp[mids,It.mids,ownPc] at hk ⊢;grind)) fun hx9 => ?_
    refine SX.val rfl (Val.nilCheck rfl) hx9 rfl rfl ?_
    refine SX.val rfl (Val.fieldAddr tabOk rfl rfl rfl rfl rfl) hx9 rfl rfl ?_
    first
     | refine SX.eff rfl (Eff.store tabOk rfl rfl rfl (by repeat first|assumption|exact Upd.here|apply Upd.there) (by rfl) (lb_ (by rfl)) (by rfl) (by rfl)) (by simp) rfl rfl ?_
     | refine SX.eff rfl (Eff.storeOwn tabOk rfl rfl rfl rfl (by repeat first|assumption|exact m0_|apply m1_) (by repeat first|assumption|exact Upd.here|apply Upd.there) rfl (by rfl)) (by simp) rfl rfl ?_
    rintro _ _ ⟨rfl, rfl⟩
    refine SX.nil ?_
    refine SE.meet (r70) (trivial) (by exact ⟨rfl, rfl, trivial⟩) (by repeat first|exact s0_ _|exact s1_ _|apply s2_|apply s3_)
   ·skip
    refine SX.call rfl (clone_ents_s (ents_ones es) (by rw [List.length_map]; omega)) (by simp [mids, It.mids]) Casts.refl (by kernel_rfl) rfl rfl rfl ?_
    refine ap_ ?_
    intro _
    refine SX.hx (by first|(simp[mids,It.mids,ownPc];done)|(intro k hk;simp[mids,It.mids,ownPc] at hk ⊢;grind)) fun hx9 => ?_
    refine SX.val rfl (Val.buildS (L := Dd.abs ⟨seq, es, false⟩) tabOk rfl rfl rfl (by rfl)) hx9 rfl rfl ?_
    refine SX.two ?_ ?_
    ·skip
     refine SX.valE rfl (Val.to (C := .v r) (Val.load1 tabOk rfl rfl (by repeat first|assumption|exact o0_|exact o1_|apply o2_) List.not_mem_nil (by rfl)) rfl) rfl rfl ?_
     refine SX.eff rfl (Eff.buildSl tabOk Tryz.underlying46 rfl rfl rfl rfl rfl rfl rfl) (by simp) rfl rfl ?_
     rintro _ _ ⟨rfl, rfl⟩
     refine SX.effX [b] rfl (Eff.appendE (zs := (x.ds ++ [(⟨seq, es, false⟩ : Dd)]).map Dd.abs) tabOk [_, _] (by rw [List.map_append]; rfl) Tryz.underlying46 rfl rfl rfl rfl rfl rfl (by intro c hc; rw [List.mem_singleton] at hc; subst hc; rfl) (by unfold maxLen; simp only [List.length_map, List.length_cons, List.length_nil]; omega) (by rw [show Tryz.prog.bytesOf 49 = 40 by kernel_rfl]; simp only [List.length_map, List.length_cons, List.length_nil]; omega)) (fun k hk => List.mem_append_left _ hk) (by simp) rfl rfl ?_
     rintro _ _ ⟨r70, rfl, rfl⟩
     refine SX.hx (by first|(simp[mids,It.mids,ownPc];done)|(intro k hk;simp[mids,It.mids,ownPc] at hk ⊢;grind)) fun hx9 => ?_
     refine SX.val rfl (Val.nilCheck rfl) hx9 rfl rfl ?_
     refine SX.val rfl (Val.fieldAddr tabOk rfl rfl rfl rfl rfl) hx9 rfl rfl ?_
     first
      | refine SX.eff rfl (Eff.store tabOk rfl rfl rfl (by repeat first|assumption|exact Upd.here|apply Upd.there) (by rfl) (lb_ (by rfl)) (by rfl) (by rfl)) (by simp) rfl rfl ?_
      | refine SX.eff rfl (Eff.storeOwn tabOk rfl rfl rfl rfl (by repeat first|assumption|exact m0_|apply m1_) (by repeat first|assumption|exact Upd.here|apply Upd.there) rfl (by rfl)) (by simp) rfl rfl ?_
     rintro _ _ ⟨rfl, rfl⟩
     refine SX.nil ?_
     refine SE.meet (r70) (trivial) (by exact ⟨rfl, rfl, trivial⟩) (by repeat first|exact s0_ _|exact s1_ _|apply s2_|apply s3_)
    ·skip
     refine SX.eff rfl (Eff.buildSl tabOk Tryz.underlying46 rfl rfl rfl rfl rfl rfl rfl) (by simp) rfl rfl ?_
     rintro _ _ ⟨rfl, rfl⟩
     refine SX.valE rfl (Val.to (C := .v r) (Val.load1 tabOk rfl rfl (by repeat first|assumption|exact o0_|exact o1_|apply o2_) List.not_mem_nil (by rfl)) rfl) rfl rfl ?_
     refine SX.effX [b] rfl (Eff.appendE (zs := (x.ds ++ [(⟨seq, es, false⟩ : Dd)]).map Dd.abs) tabOk [_, _] (by rw [List.map_append]; rfl) Tryz.underlying46 rfl rfl rfl rfl rfl rfl (by intro c hc; rw [List.mem_singleton] at hc; subst hc; rfl) (by unfold maxLen; simp only [List.length_map, List.length_cons, List.length_nil]; omega) (by rw [show Tryz.prog.bytesOf 49 = 40 by kernel_rfl]; simp only [List.length_map, List.length_cons, List.length_nil]; omega)) (fun k hk => List.mem_append_left _ hk) (by simp) rfl rfl ?_
     rintro _ _ ⟨r70, rfl, rfl⟩
     refine SX.hx (by first|(simp[mids,It.mids,ownPc];done)|(intro k hk;simp[mids,It.mids,ownPc] at hk ⊢;grind)) fun hx9 => ?_
     refine SX.val rfl (Val.nilCheck rfl) hx9 rfl rfl ?_
     refine SX.val rfl (Val.fieldAddr tabOk rfl rfl rfl rfl rfl) hx9 rfl rfl ?_
     first
      | refine SX.eff rfl (Eff.store tabOk rfl rfl rfl (by repeat first|assumption|exact Upd.here|apply Upd.there) (by rfl) (lb_ (by rfl)) (by rfl) (by rfl)) (by simp) rfl rfl ?_
      | refine SX.eff rfl (Eff.storeOwn tabOk rfl rfl rfl rfl (by repeat first|assumption|exact m0_|apply m1_) (by repeat first|assumption|exact Upd.here|apply Upd.there) rfl (by rfl)) (by simp) rfl rfl ?_
     rintro _ _ ⟨rfl, rfl⟩
     refine SX.nil ?_
     refine SE.meet (r70) (trivial) (by exact ⟨rfl, rfl, trivial⟩) (by repeat first|exact s0_ _|exact s1_ _|apply s2_|apply s3_)
  ·intro q10 hq10
   refine SC.seq (SC.region ?_)
   refine SL.val (Val.assign rfl) rfl rfl ?_
   refine SL.nil (SE.seq ?_)
   refine SC.seq ?_
   refine SC.seq (SC.region ?_)
   refine SL.val (Val.move rfl) rfl rfl ?_
   first
    | refine SL.val (Val.lenSl rfl Tryz.underlying50 (List.length_map _)) rfl rfl ?_
    | refine SL.val (Val.lenOwn rfl (by repeat first|assumption|exact m0_|apply m1_) Tryz.underlying50 (List.length_map _)) rfl rfl ?_
    | refine SL.val (Val.lenNil rfl Tryz.underlying50) rfl rfl ?_
   refine SL.val (Val.move rfl) rfl rfl ?_
   refine SL.nil (SE.seq ?_)
   refine SC.block ?_
   refine SC.own0 40 3 ?_
   refine SC.loop (ι := Nat × List Oc × Value) (fun z => (own 40 3 z.2.2 (z.2.1.map Oc.abs) :: .blk b 71 (exA n (⟨(x.l.foldF es n).1, x.ds ++ [⟨seq, es, false⟩]⟩ : Ex) q10) :: own 49 3 q10 ((⟨(x.l.foldF es n).1, x.ds ++ [⟨seq, es, false⟩]⟩ : Ex).ds.map Dd.abs) :: [])) (fun z => [(2, entsR es), (11, .v z.2.2), (73, errsR (x.l.foldF es n).2), (74, int ((x.l.foldF es n).2.length : Nat)), (75, int (z.1 : Nat))]) (fun z => z.1 ≤ (x.l.foldF es n).2.length ∧ z.2.1.length ≤ z.1 ∧ z.2.1 ++ outF (es.drop z.1) ((x.l.foldF es n).2.drop z.1) = outF es (x.l.foldF es n).2) (fun z => (x.l.foldF es n).2.length - z.1) (0, [], .slice none 0 0) (⟨Nat.zero_le _, Nat.le_refl _, rfl⟩) (by exact ⟨rfl, rfl, rfl, rfl, rfl, trivial⟩) (by repeat first|exact s0_ _|exact s1_ _|apply s2_|apply s3_) ?_
   intro z hz
   refine SC.seq (SC.region ?_)
   refine SL.val (Val.ltI rfl rfl) rfl rfl ?_
   refine SL.nil (SE.seq ?_)
   refine SC.seq ?_
   refine SC.condP rfl ?_ ?_
   rotate_left
   ·intro hc76
    refine SC.exit ?_
    refine SE.then_ nofun ?_
    refine SE.then_ nofun ?_
    refine SE.exit ?_
    refine SE.seq ?_
    refine SC.seq (SC.region ?_)
    refine SL.val (Val.move rfl) rfl rfl ?_
    iterate 2 refine SL.val (Val.assign rfl) rfl rfl ?_
    refine SL.nil (SE.seq ?_)
    refine SC.ret ?_
    obtain ⟨g1, g2, g3⟩ := do_ok (x := x) (n := n) (b := es) (seq := seq) (by omega) hc41
    have hfe := hz.2.2
    rw [outF_end (show (x.l.foldF es n).2.length ≤ z.1 by omega), List.append_nil] at hfe
    rw [g1, g2, g3, ← hfe]
    refine SE.freeze [] (t := 6) rfl rfl ?_
    refine SE.re [] (Re.bigIn (xs := [_, _]) rfl) rfl ?_
    refine SE.fin (rs := [.tmp 6, .tmp 7]) rfl (RV.tmp rfl (RV.tmp rfl RV.nil)) (q10) (by repeat first|exact s0_ _|exact s1_ _|apply s2_|apply s3_) (by simp [It.rids]) ?_
    exact rfl
   intro hc76
   have hrz : z.1 < (x.l.foldF es n).2.length := by omega
   have hez : z.1 < es.length := by omega
   have hst := outF_step hez hrz
   refine SC.skip ?_
   refine SE.seq ?_
   refine SC.seq ?_
   refine SC.block ?_
   refine SC.seq (SC.region ?_)
   refine SL.val (Val.move rfl) rfl rfl ?_
   refine SL.val (Val.indexSl (q := z.1) (cs := [int ((x.l.foldF es n).2[z.1]'hrz)]) tabOk Tryz.underlying50 rfl rfl rfl rfl (by rw [List.getElem?_map, List.getElem?_eq_getElem hrz]; rfl) rfl rfl) rfl rfl ?_
   refine SL.val (Val.to (C := int ((x.l.foldF es n).2[z.1]'hrz)) (Val.load1R tabOk rfl rfl rfl) rfl) rfl rfl ?_
   iterate 2 refine SL.val (Val.assign rfl) rfl rfl ?_
   refine SL.nil (SE.seq ?_)
   refine SC.seq (SC.region ?_)
   refine SL.val (Val.move rfl) rfl rfl ?_
   refine SL.val (Val.neI rfl rfl) rfl rfl ?_
   refine SL.nil (SE.seq ?_)
   refine SC.condP rfl ?_ ?_
   rotate_left
   ·intro hc81
    refine SC.skip ?_
    refine SE.inBlock ?_
    refine SE.seq ?_
    refine SC.region ?_
    first
     | refine SL.val (Val.addI rfl rfl (by simp only [InR, lo, hi]; omega)) rfl rfl ?_
     | refine SL.val (Val.addW rfl rfl) rfl rfl ?_
    refine SL.val (Val.move rfl) rfl rfl ?_
    refine SL.nil ?_
    refine SE.round (z.1 + 1, z.2) (by first | omega | (dsimp only; omega)) (⟨by dsimp only; omega, by dsimp only; omega, by rw [if_neg hc81] at hst; have h9 := hz.2.2; rw [hst] at h9; exact h9⟩) (by exact ⟨rfl, rfl, rfl, rfl, rfl, trivial⟩) (by repeat first|exact s0_ _|exact s1_ _|apply s2_|apply s3_)
   intro hc81
   refine SC.draw z.2.2.ownBlock.toList (.q 0 (.q 1 (.q 2 (.q 3 (.q 4 (.q 5 (.q 6 (.q 7 (.q 8 (.q 9 (.q 10 (.q 11 (.q 12 (.q 13 (.q 14 (.e 15 (.e 16 (.q 17 .nil)))))))))))))))))) (by kernel_rfl) (by kernel_rfl) ?_
   refine SX.hx (by first|(simp[mids,It.mids,ownPc];done)|(intro k hk;simp[mids,It.mids,ownPc] at hk ⊢;grind)) fun hx9 => ?_
   refine SX.val rfl (Val.move rfl) hx9 rfl rfl ?_
   refine SX.val rfl (Val.move rfl) hx9 rfl rfl ?_
   refine SX.val rfl (Val.move rfl) hx9 rfl rfl ?_
   refine SX.val rfl (Val.indexSl (q := z.1) (cs := entA (es[z.1]'hez)) tabOk Tryz.underlying26 rfl rfl rfl rfl (by rw [List.getElem?_map, List.getElem?_eq_getElem hez]; rfl) rfl rfl) hx9 rfl rfl ?_
   first
    | refine SX.val rfl (Val.fieldAddr tabOk rfl rfl rfl rfl rfl) hx9 rfl rfl ?_
    | refine SX.val rfl (Val.fieldAddrR tabOk rfl rfl rfl rfl rfl) hx9 rfl rfl ?_
   first
    | refine SX.val rfl (Val.fieldAddr tabOk rfl rfl rfl rfl rfl) hx9 rfl rfl ?_
    | refine SX.val rfl (Val.fieldAddrR tabOk rfl rfl rfl rfl rfl) hx9 rfl rfl ?_
   refine SX.val rfl (Val.to (C := int (es[z.1]'hez).core.client) (Val.load1R tabOk rfl rfl rfl) rfl) hx9 rfl rfl ?_
   refine SX.val rfl (Val.move rfl) hx9 rfl rfl ?_
   refine SX.val rfl (Val.move rfl) hx9 rfl rfl ?_
   refine SX.val rfl (Val.indexSl (q := z.1) (cs := entA (es[z.1]'hez)) tabOk Tryz.underlying26 rfl rfl rfl rfl (by rw [List.getElem?_map, List.getElem?_eq_getElem hez]; rfl) rfl rfl) hx9 rfl rfl ?_
   first
    | refine SX.val rfl (Val.fieldAddr tabOk rfl rfl rfl rfl rfl) hx9 rfl rfl ?_
    | refine SX.val rfl (Val.fieldAddrR tabOk rfl rfl rfl rfl rfl) hx9 rfl rfl ?_
   first
    | refine SX.val rfl (Val.fieldAddr tabOk rfl rfl rfl rfl rfl) hx9 rfl rfl ?_
    | refine SX.val rfl (Val.fieldAddrR tabOk rfl rfl rfl rfl rfl) hx9 rfl rfl ?_
   refine SX.val rfl (Val.to (C := int (es[z.1]'hez).core.stamp) (Val.load1R tabOk rfl rfl rfl) rfl) hx9 rfl rfl ?_
   refine SX.val rfl (Val.move rfl) hx9 rfl rfl ?_
   refine SX.val rfl (Val.buildS (L := Oc.abs (⟨(es[z.1]'hez).core.client, (es[z.1]'hez).core.stamp, ((x.l.foldF es n).2[z.1]'hrz)⟩ : Oc)) tabOk rfl rfl rfl (by rfl)) hx9 rfl rfl ?_
   refine SX.eff rfl (Eff.buildSl tabOk Tryz.underlying28 rfl rfl rfl rfl rfl rfl rfl) (by simp) rfl rfl ?_
   rintro _ _ ⟨rfl, rfl⟩
   refine SX.effX [] rfl (Eff.appendE (zs := (z.2.1 ++ [(⟨(es[z.1]'hez).core.client, (es[z.1]'hez).core.stamp, ((x.l.foldF es n).2[z.1]'hrz)⟩ : Oc)]).map Oc.abs) tabOk [] (by rw [List.map_append]; rfl) Tryz.underlying28 rfl rfl rfl rfl rfl rfl (by intro c hc; rw [List.mem_singleton] at hc; subst hc; rfl) (by unfold maxLen; simp only [List.length_map, List.length_cons, List.length_nil]; omega) (by rw [show Tryz.prog.bytesOf 40 = 24 by kernel_rfl]; simp only [List.length_map, List.length_cons, List.length_nil]; omega)) (fun k hk => hk) (by simp) rfl rfl ?_
   rintro _ _ ⟨r98, rfl, rfl⟩
   refine SX.hx (by first|(simp[mids,It.mids,ownPc];done)|(intro k hk;simp[mids,It.mids,ownPc] at hk ⊢;grind)) fun hx9 => ?_
   refine SX.val rfl (Val.assign rfl) hx9 rfl rfl ?_
   refine SX.nil ?_
   refine SE.inBlock ?_
   refine SE.seq ?_
   refine SC.region ?_
   first
    | refine SL.val (Val.addI rfl rfl (by simp only [InR, lo, hi]; omega)) rfl rfl ?_
    | refine SL.val (Val.addW rfl rfl) rfl rfl ?_
   refine SL.val (Val.move rfl) rfl rfl ?_
   refine SL.nil ?_
   refine SE.round (z.1 + 1, z.2.1 ++ [(⟨(es[z.1]'hez).core.client, (es[z.1]'hez).core.stamp, ((x.l.foldF es n).2[z.1]'hrz)⟩ : Oc)], r98) (by first | omega | (dsimp only; omega)) (⟨by dsimp only; omega, by simp only [List.length_append, List.length_singleton]; omega, by rw [if_pos hc81] at hst; have h9 := hz.2.2; rw [hst] at h9; rw [← h9]; exact (List.append_assoc _ [_] _)⟩) (by exact ⟨rfl, rfl, rfl, rfl, rfl, trivial⟩) (by repeat first|exact s0_ _|exact s1_ _|apply s2_|apply s3_)
set_option maxHeartbeats 4000000 in
theorem exad_s {j : Nat} (hm : m.length ≤ 10000000) (hk : j ≤ 45) (hx : x.Ok j) : Spec Tryz.prog 11 [ptr b, byt m] [.pc (exP b n x r)] (fun r' : Value => [.pc (exP b n (x.adX m) r')]) (fun _ => int (x.adE m)) := by
 have hd0 := hx.few
 refine spec_of Tryz.func11 rfl Tryz.ntmps11 rfl fun G w => ?_
 refine SC.seq (SC.region ?_)
 refine SL.val (Val.assign rfl) rfl rfl ?_
 refine SL.nil (SE.seq ?_)
 refine SC.seq ?_
 refine SC.seq ?_
 refine SC.re [] (Re.bigOut rfl) rfl ?_
 refine SC.region ?_
 refine SL.val (Val.move rfl) rfl rfl ?_
 refine SL.val (Val.eqP rfl rfl (by kernel_rfl)) rfl rfl ?_
 refine SL.nil (SE.seq ?_)
 refine SC.condF rfl ?_
 refine SC.skip ?_
 refine SE.seq ?_
 refine SC.seq (SC.region ?_)
 refine SL.val (Val.move rfl) rfl rfl ?_
 refine SL.call (lparse_s (m := m) hm) Casts.refl (by kernel_rfl) rfl rfl rfl ?_
 refine ap_ ?_
 intro _
 refine SL.val (Val.move rfl) rfl rfl ?_
 refine SL.val (Val.extract rfl rfl) rfl rfl ?_
 refine SL.val (Val.extract rfl rfl) rfl rfl ?_
 refine SL.eff (Eff.alloc tabOk rfl) rfl rfl ?_
 rintro _ _ ⟨b5, rfl, rfl⟩
 refine SL.eff (Eff.store (L' := (parseL m).1.abs) tabOk rfl rfl rfl (by repeat first|assumption|exact Upd.here|apply Upd.there) rfl (lb_ (by rfl)) rfl (by exact putL_whole rfl)) rfl rfl ?_
 rintro _ _ ⟨rfl, rfl⟩
 refine SL.val (Val.assign rfl) rfl rfl ?_
 refine SL.nil (SE.seq ?_)
 refine SC.seq ?_
 refine SC.block ?_
 refine SC.seq (SC.region ?_)
 refine SL.val (Val.move rfl) rfl rfl ?_
 refine SL.val (Val.neI rfl rfl) rfl rfl ?_
 refine SL.val (Val.assign rfl) rfl rfl ?_
 refine SL.nil (SE.seq ?_)
 refine SC.condP rfl ?_ ?_
 ·intro hc14
  refine SC.seq (SC.region ?_)
  refine SL.val (Val.move rfl) rfl rfl ?_
  refine SL.val (Val.assign rfl) rfl rfl ?_
  refine SL.nil (SE.seq ?_)
  refine SC.ret ?_
  refine SE.ret ?_
  refine SE.then_ nofun ?_
  obtain ⟨g1, g2⟩ := ad_form (x := x) (m := m) (by assumption)
  rw [g1, g2]
  refine SE.re [_] (Re.bigIn (xs := [_, _]) rfl) rfl ?_
  refine SE.fin (rs := [.tmp 4]) rfl (RV.tmp rfl RV.nil) (r) (by repeat first|exact s0_ _|exact s1_ _|apply s2_|apply s3_) (by simp [It.rids]) ?_
  exact rfl
 intro hc14
 refine SC.seq ?_
 refine SC.draw [] (.q 0 (.q 1 (.q 2 (.q 3 (.q 4 (.q 5 (.q 6 (.q 7 (.q 8 .nil))))))))) (by kernel_rfl) (by kernel_rfl) ?_
 refine SX.val rfl (Val.fieldAddr tabOk rfl rfl rfl rfl rfl) (by simp) rfl rfl ?_
 refine SX.hx (by first|(simp[mids,It.mids,ownPc];done)|(intro k hk;simp[mids,It.mids,ownPc] at hk ⊢;grind)) fun hx9 => ?_
 refine SX.val rfl (Val.to (C := int (parseL m).1.seq) (Val.load1 tabOk rfl rfl (by repeat first|assumption|exact o0_|exact o1_|apply o2_) List.not_mem_nil (by rfl)) rfl) hx9 rfl rfl ?_
 refine SX.val rfl (Val.move rfl) (by simp) rfl rfl ?_
 refine SX.val rfl (Val.nilCheck rfl) (by simp) rfl rfl ?_
 refine SX.val rfl (Val.fieldAddr tabOk rfl rfl rfl rfl rfl) (by simp) rfl rfl ?_
 refine SX.val rfl (Val.fieldAddr tabOk rfl rfl rfl rfl rfl) (by simp) rfl rfl ?_
 refine SX.val rfl (Val.to (C := int x.l.seq) (Val.load1 tabOk rfl rfl (by repeat first|assumption|exact o0_|exact o1_|apply o2_) List.not_mem_nil (by rfl)) rfl) hx9 rfl rfl ?_
 refine SX.val rfl (Val.leI rfl rfl) (by simp) rfl rfl ?_
 refine SX.val rfl (Val.assign rfl) (by simp) rfl rfl ?_
 refine SX.nil (SE.seq ?_)
 refine SC.condP rfl ?_ ?_
 ·intro hc18
  refine SC.seq (SC.region ?_)
  refine SL.val (Val.assign rfl) rfl rfl ?_
  refine SL.nil (SE.seq ?_)
  refine SC.ret ?_
  refine SE.ret ?_
  refine SE.then_ nofun ?_
  obtain ⟨g1, g2⟩ := ad_mark (x := x) (m := m) (by assumption) (by assumption)
  rw [g1, g2]
  refine SE.re [_] (Re.bigIn (xs := [_, _]) rfl) rfl ?_
  refine SE.fin (rs := [.tmp 4]) rfl (RV.tmp rfl RV.nil) (r) (by repeat first|exact s0_ _|exact s1_ _|apply s2_|apply s3_) (by simp [It.rids]) ?_
  exact rfl
 intro hc18
 refine SC.skip ?_
 refine SE.inBlock ?_
 refine SE.seq ?_
 refine SC.seq (SC.region ?_)
 refine SL.val (Val.move rfl) rfl rfl ?_
 refine SL.val (Val.to (C := .agg (parseL m).1.abs) (Val.loadP tabOk rfl rfl rfl (by repeat first|assumption|exact o0_|exact o1_|apply o2_) List.not_mem_nil (lb_ (by rfl))) rfl) rfl rfl ?_
 refine SL.val (Val.nilCheck rfl) rfl rfl ?_
 refine SL.val (Val.fieldAddr tabOk rfl rfl rfl rfl rfl) rfl rfl ?_
 refine SL.eff (Eff.store (L' := exA n (⟨(parseL m).1, x.ds⟩ : Ex) r) tabOk rfl rfl rfl (by repeat first|assumption|exact Upd.here|apply Upd.there) rfl (lb_ (by rfl)) rfl (by rfl)) rfl rfl ?_
 rintro _ _ ⟨rfl, rfl⟩
 refine SL.nil (SE.seq ?_)
 refine SC.seq ?_
 refine SC.nod fun hnod => ?_
 have hb5 : b5 ∉ r.ownBlock.toList ++ [b] := by
  have h9 : (b5 :: b :: (r.ownBlock.toList ++ [])).Nodup := hnod
  rw [List.nodup_cons] at h9
  intro hm
  refine h9.1 ?_
  rcases List.mem_append.1 hm with hm | hm
  ·exact List.mem_cons_of_mem _ (List.mem_append_left _ hm)
  ·rw [List.mem_singleton.1 hm]; exact List.mem_cons_self
 refine SC.draw (r.ownBlock.toList ++ [b]) (.q 0 (.q 1 (.q 2 (.q 3 (.q 5 (.q 6 (.q 7 (.two 4 8 (.e 8 (.e 9 (.q 10 (.q 11 (.e 12 .nil))))) (.e 4 (.e 9 (.q 10 (.q 11 (.e 12 .nil))))))))))))) (by kernel_rfl) (by kernel_rfl) ?_
 refine SX.hx (by first|(simp[mids,It.mids,ownPc];done)|(intro k hk;simp[mids,It.mids,ownPc] at hk ⊢;grind)) fun hx9 => ?_
 refine SX.val rfl (Val.move rfl) hx9 rfl rfl ?_
 refine SX.val rfl (Val.move rfl) hx9 rfl rfl ?_
 refine SX.val rfl (Val.nilCheck rfl) hx9 rfl rfl ?_
 refine SX.val rfl (Val.fieldAddr tabOk rfl rfl rfl rfl rfl) hx9 rfl rfl ?_
 refine SX.val rfl (Val.fieldAddr tabOk rfl rfl rfl rfl rfl) hx9 rfl rfl ?_
 refine SX.val rfl (Val.to (C := int (parseL m).1.seq) (Val.load1 tabOk rfl rfl (by repeat first|assumption|exact o0_|exact o1_|apply o2_) hb5 (by rfl)) rfl) hx9 rfl rfl ?_
 refine SX.val rfl (Val.buildS (L := [int (parseL m).1.seq, .v (.slice none 0 0), boo true]) tabOk rfl rfl rfl (by rfl)) hx9 rfl rfl ?_
 refine SX.cast (t := 38) (.agg (Dd.abs ⟨(parseL m).1.seq, [], true⟩)) rfl (cast_agg (Casts.keep (Casts.nils (s := 8) Casts.refl))) ?_
 refine SX.two ?_ ?_
 ·skip
  refine SX.valE rfl (Val.to (C := .v r) (Val.load1 tabOk rfl rfl (by repeat first|assumption|exact o0_|exact o1_|apply o2_) List.not_mem_nil (by rfl)) rfl) rfl rfl ?_
  refine SX.eff rfl (Eff.buildSl tabOk Tryz.underlying46 rfl rfl rfl rfl rfl rfl rfl) (by simp) rfl rfl ?_
  rintro _ _ ⟨rfl, rfl⟩
  refine SX.effX [b] rfl (Eff.appendE (zs := ((⟨(parseL m).1, x.ds ++ [⟨(parseL m).1.seq, [], true⟩]⟩ : Ex).ds).map Dd.abs) tabOk [_, _] (by rw [List.map_append]; rfl) Tryz.underlying46 rfl rfl rfl rfl rfl rfl (by intro c hc; rw [List.mem_singleton] at hc; subst hc; rfl) (by unfold maxLen; simp only [List.length_map, List.length_cons, List.length_nil]; omega) (by rw [show Tryz.prog.bytesOf 49 = 40 by kernel_rfl]; simp only [List.length_map, List.length_cons, List.length_nil]; omega)) (fun k hk => List.mem_append_left _ hk) (by simp) rfl rfl ?_
  rintro _ _ ⟨r40, rfl, rfl⟩
  refine SX.hx (by first|(simp[mids,It.mids,ownPc];done)|(intro k hk;simp[mids,It.mids,ownPc] at hk ⊢;grind)) fun hx9 => ?_
  refine SX.val rfl (Val.nilCheck rfl) hx9 rfl rfl ?_
  refine SX.val rfl (Val.fieldAddr tabOk rfl rfl rfl rfl rfl) hx9 rfl rfl ?_
  first
   | refine SX.eff rfl (Eff.store tabOk rfl rfl rfl (by repeat first|assumption|exact Upd.here|apply Upd.there) (by rfl) (lb_ (by rfl)) (by rfl) (by rfl)) (by simp) rfl rfl ?_
   | refine SX.eff rfl (Eff.storeOwn tabOk rfl rfl rfl rfl (by repeat first|assumption|exact m0_|apply m1_) (by repeat first|assumption|exact Upd.here|apply Upd.there) rfl (by rfl)) (by simp) rfl rfl ?_
  rintro _ _ ⟨rfl, rfl⟩
  refine SX.nil (SE.seq ?_)
  refine SC.seq (SC.region ?_)
  refine SL.val (Val.assign rfl) rfl rfl ?_
  refine SL.nil (SE.seq ?_)
  refine SC.ret ?_
  obtain ⟨g1, g2⟩ := ad_ok (x := x) (m := m) (by assumption) (by assumption)
  rw [g1, g2]
  refine SE.re [_] (Re.bigIn (xs := [_, _]) rfl) rfl ?_
  refine SE.fin (rs := [.tmp 4]) rfl (RV.tmp rfl RV.nil) (r40) (by repeat first|exact s0_ _|exact s1_ _|apply s2_|apply s3_) (by simp [It.rids]) ?_
  exact rfl
 ·skip
  refine SX.eff rfl (Eff.buildSl tabOk Tryz.underlying46 rfl rfl rfl rfl rfl rfl rfl) (by simp) rfl rfl ?_
  rintro _ _ ⟨rfl, rfl⟩
  refine SX.valE rfl (Val.to (C := .v r) (Val.load1 tabOk rfl rfl (by repeat first|assumption|exact o0_|exact o1_|apply o2_) List.not_mem_nil (by rfl)) rfl) rfl rfl ?_
  refine SX.effX [b] rfl (Eff.appendE (zs := ((⟨(parseL m).1, x.ds ++ [⟨(parseL m).1.seq, [], true⟩]⟩ : Ex).ds).map Dd.abs) tabOk [_, _] (by rw [List.map_append]; rfl) Tryz.underlying46 rfl rfl rfl rfl rfl rfl (by intro c hc; rw [List.mem_singleton] at hc; subst hc; rfl) (by unfold maxLen; simp only [List.length_map, List.length_cons, List.length_nil]; omega) (by rw [show Tryz.prog.bytesOf 49 = 40 by kernel_rfl]; simp only [List.length_map, List.length_cons, List.length_nil]; omega)) (fun k hk => List.mem_append_left _ hk) (by simp) rfl rfl ?_
  rintro _ _ ⟨r40, rfl, rfl⟩
  refine SX.hx (by first|(simp[mids,It.mids,ownPc];done)|(intro k hk;simp[mids,It.mids,ownPc] at hk ⊢;grind)) fun hx9 => ?_
  refine SX.val rfl (Val.nilCheck rfl) hx9 rfl rfl ?_
  refine SX.val rfl (Val.fieldAddr tabOk rfl rfl rfl rfl rfl) hx9 rfl rfl ?_
  first
   | refine SX.eff rfl (Eff.store tabOk rfl rfl rfl (by repeat first|assumption|exact Upd.here|apply Upd.there) (by rfl) (lb_ (by rfl)) (by rfl) (by rfl)) (by simp) rfl rfl ?_
   | refine SX.eff rfl (Eff.storeOwn tabOk rfl rfl rfl rfl (by repeat first|assumption|exact m0_|apply m1_) (by repeat first|assumption|exact Upd.here|apply Upd.there) rfl (by rfl)) (by simp) rfl rfl ?_
  rintro _ _ ⟨rfl, rfl⟩
  refine SX.nil (SE.seq ?_)
  refine SC.seq (SC.region ?_)
  refine SL.val (Val.assign rfl) rfl rfl ?_
  refine SL.nil (SE.seq ?_)
  refine SC.ret ?_
  obtain ⟨g1, g2⟩ := ad_ok (x := x) (m := m) (by assumption) (by assumption)
  rw [g1, g2]
  refine SE.re [_] (Re.bigIn (xs := [_, _]) rfl) rfl ?_
  refine SE.fin (rs := [.tmp 4]) rfl (RV.tmp rfl RV.nil) (r40) (by repeat first|exact s0_ _|exact s1_ _|apply s2_|apply s3_) (by simp [It.rids]) ?_
  exact rfl
end
end Go.Proofs.YtickdhjljpnlpaaGreatDoor.A
/-
  The document's ledgers: what is told last, and put in.
-/
namespace Go.Proofs.YtickdhjljpnlpaaGreatDoor.A
open Go.RowKit

section
variable {l : Lg} {k n : Int} {s : ByteArray} {c : Core} {e : Ent} {es : List Ent} {e1 e2 : Value}
end
section
variable {l : Lg} {x : Oc}
end
section
variable {l : Lg} {x : Ltr}
end
end Go.Proofs.YtickdhjljpnlpaaGreatDoor.A
/-
  Policies' texts, plain: what the document's parser answers, step by step.
-/
namespace Go.Proofs.YtickdhjljpnlpaaGreatDoor.A
open Go.RowKit

/-- A number, as the document's parser answers. -/
def numF (t : Txt) : Int × Txt × Bool := match numT t with
  | none => (0, t, false)
  | some x => (((x.1 : Nat) : Int), x.2, true)
theorem numF_none {t : Txt} (h : numT t = none) : numF t = (0, t, false) := by unfold numF; rw [h]
theorem numF_some {t : Txt} {x : Nat × Txt} (h : numT t = some x) : numF t = (((x.1 : Nat) : Int), x.2, true) := by unfold numF; rw [h]
theorem numF_no {t : Txt} (h : (numF t).2.2 = false) : numT t = none := by
  cases hq : numT t with
  | none => rfl
  | some x => rw [numF_some hq] at h; cases h
theorem numF_ok {t : Txt} (h : (numF t).2.2 = true) : ∃ v : Nat, numT t = some (v, (numF t).2.1) ∧ (numF t).1 = (v : Int) ∧ (numF t).2.1.length < t.length ∧ v ≤ 9999 := by
  cases hq : numT t with
  | none => rw [numF_none hq] at h; cases h
  | some x =>
    obtain ⟨v, r⟩ := x
    rw [numF_some hq]
    exact ⟨v, rfl, rfl, numT_short hq, numT_le hq⟩
/-- What the document's parser answers of a policy. -/
def DocP (k : Nat) (l : Txt) (z : Frm × Txt × Bool) : Prop := (polT k l = none → z.2.2 = false) ∧ ∀ x, polT k l = some x → z = (x.1, x.2, true)
def DocR (k : Nat) (l : Txt) (z : List Frm × Txt × Bool) : Prop := (rowT (polT k) l = none → z.2.2 = false) ∧ ∀ x, rowT (polT k) l = some x → z = (x.1, x.2, true)
section
variable {k : Nat} {l : Txt} {y : Frm × Txt × Bool} {w : List Frm × Txt × Bool} {z : Txt × List Frm}
theorem DocP.no (h : DocP k l y) (ho : y.2.2 = false) : polT k l = none := by
  cases hq : polT k l with
  | none => rfl
  | some x => rw [h.2 x hq] at ho; cases ho
theorem DocP.get (h : DocP k l y) (ho : y.2.2 = true) : polT k l = some (y.1, y.2.1) := by
  cases hq : polT k l with
  | none => rw [h.1 hq] at ho; cases ho
  | some x => rw [h.2 x hq]
theorem DocR.no (h : DocR k l w) (ho : w.2.2 = false) : rowT (polT k) l = none := by
  cases hq : rowT (polT k) l with
  | none => rfl
  | some x => rw [h.2 x hq] at ho; cases ho
theorem DocR.get (h : DocR k l w) (ho : w.2.2 = true) : rowT (polT k) l = some (w.1, w.2.1) := by
  cases hq : rowT (polT k) l with
  | none => rw [h.1 hq] at ho; cases ho
  | some x => rw [h.2 x hq]
theorem DocR.of_none (h : rowT (polT k) l = none) (t : Txt) : DocR k l ([], t, false) := ⟨fun _ => rfl, fun x hx => (by rw [h] at hx; cases hx)⟩
theorem DocR.of_some {a : List Frm} {b : Txt} (h : rowT (polT k) l = some (a, b)) : DocR k l (a, b, true) := ⟨fun hx => (by rw [h] at hx; cases hx), fun x hx => (by rw [h] at hx; cases hx; rfl)⟩
theorem DocP.of_none (h : polT k l = none) (hy : y.2.2 = false) : DocP k l y := ⟨fun _ => hy, fun x hx => (by rw [h] at hx; cases hx)⟩
theorem DocP.of_some {a : Frm} {b : Txt} (h : polT k l = some (a, b)) : DocP k l (a, b, true) := ⟨fun hx => (by rw [h] at hx; cases hx), fun x hx => (by rw [h] at hx; cases hx; rfl)⟩
/-- At the head of a round: the text begins with a bracket or a comma. -/
structure DocI (k : Nat) (l : Txt) (z : Txt × List Frm) : Prop where
  pos : 1 ≤ z.1.length
  len : z.1.length ≤ l.length
  few : z.2.length + z.1.length ≤ l.length + 1
  go : ∃ F, z.1.length ≤ F ∧ rowT (polT k) l = rowL (polT k) F (z.1.drop 1) z.2
theorem DocI.start (h : begins (bare l) [40] = true) : DocI k l (bare l, []) := by
  have h1 := begins_len h
  have h2 := bare_len l
  refine ⟨h1, h2, (by simp only [List.length_nil]; omega), l.length + 1, (by simp only; omega), ?_⟩
  unfold rowT
  rw [if_pos h]
theorem DocI.more (h : DocI k l z) : ∃ m, z.1.length ≤ m + 1 ∧ rowT (polT k) l = match polT k (z.1.drop 1) with
    | none => none
    | some (f, r) => if begins (bare r) [41] = true then some (z.2 ++ [f], (bare r).drop 1) else if begins (bare r) [44] = true then rowL (polT k) m ((bare r).drop 1) (z.2 ++ [f]) else none := by
  obtain ⟨F, hF, hR⟩ := h.go
  have hp := h.pos
  obtain ⟨m, rfl⟩ : ∃ m, F = m + 1 := ⟨F - 1, (by omega)⟩
  refine ⟨m, hF, hR.trans ?_⟩
  conv => lhs; unfold rowL
  cases polT k (z.1.drop 1) with
  | none => rfl
  | some x => obtain ⟨f, r⟩ := x; rfl
theorem DocI.no (h : DocI k l z) (hy : DocP k (z.1.drop 1) y) (ho : y.2.2 = false) : rowT (polT k) l = none := by
  obtain ⟨m, _, hR⟩ := h.more
  rw [hR, hy.no ho]
theorem DocI.done (h : DocI k l z) (hy : DocP k (z.1.drop 1) y) (ho : y.2.2 = true) (hb : begins (bare y.2.1) [41] = true) : rowT (polT k) l = some (z.2 ++ [y.1], (bare y.2.1).drop 1) := by
  obtain ⟨m, _, hR⟩ := h.more
  rw [hR, hy.get ho]
  exact if_pos hb
theorem DocI.bad (h : DocI k l z) (hy : DocP k (z.1.drop 1) y) (ho : y.2.2 = true) (hb : ¬ begins (bare y.2.1) [41] = true) (hc : ¬ begins (bare y.2.1) [44] = true) : rowT (polT k) l = none := by
  obtain ⟨m, _, hR⟩ := h.more
  rw [hR, hy.get ho]
  exact (if_neg hb).trans (if_neg hc)
theorem DocI.step (h : DocI k l z) (hy : DocP k (z.1.drop 1) y) (ho : y.2.2 = true) (hb : ¬ begins (bare y.2.1) [41] = true) (hc : begins (bare y.2.1) [44] = true) : DocI k l (bare y.2.1, z.2 ++ [y.1]) ∧ (bare y.2.1).length < z.1.length := by
  obtain ⟨m, hm, hR⟩ := h.more
  have hg := hy.get ho
  have hs := polT_short k _ _ _ hg
  rw [List.length_drop] at hs
  have hbl := bare_len y.2.1
  have hp := h.pos
  have hl := h.len
  have hf := h.few
  have hcl := begins_len hc
  simp only [List.length_singleton] at hcl
  rw [hg] at hR
  refine ⟨⟨hcl, (by simp only; omega), (by simp only [List.length_append, List.length_singleton]; omega), m, (by simp only; omega), ?_⟩, (by omega)⟩
  rw [hR]
  exact (if_neg hb).trans (if_pos hc)
/-! ### Policies -/
theorem DocP.deep (hy : y.2.2 = false) : DocP 0 l y := DocP.of_none rfl hy
theorem DocP.all (hb : begins (bare l) [97, 108, 108] = true) (hw : DocR k ((bare l).drop 3) w) : DocP (k + 1) l (.mk 0 w.1.length w.1, w.2.1, w.2.2) := by
  have e : polT (k + 1) l = (rowT (polT k) ((bare l).drop 3)).map fun x => (.mk 0 x.1.length x.1, x.2) := by
    conv => lhs; unfold polT
    rw [if_pos hb]
  cases hq : rowT (polT k) ((bare l).drop 3) with
  | none => rw [hq] at e; exact DocP.of_none e (hw.1 hq)
  | some x => rw [hq] at e; rw [hw.2 x hq]; exact DocP.of_some e
theorem DocP.any (ha : ¬ begins (bare l) [97, 108, 108] = true) (hb : begins (bare l) [97, 110, 121] = true) (hw : DocR k ((bare l).drop 3) w) : DocP (k + 1) l (.mk 0 1 w.1, w.2.1, w.2.2) := by
  have e : polT (k + 1) l = (rowT (polT k) ((bare l).drop 3)).map fun x => (.mk 0 1 x.1, x.2) := by
    conv => lhs; unfold polT
    rw [if_neg ha, if_pos hb]
  cases hq : rowT (polT k) ((bare l).drop 3) with
  | none => rw [hq] at e; exact DocP.of_none e (hw.1 hq)
  | some x => rw [hq] at e; rw [hw.2 x hq]; exact DocP.of_some e
theorem DocP.bad (ha : ¬ begins (bare l) [97, 108, 108] = true) (hb : ¬ begins (bare l) [97, 110, 121] = true) (hn : (numF (bare l)).2.2 = false) (hy : y.2.2 = false) : DocP (k + 1) l y :=
  DocP.of_none (by rw [pol_num ha hb, numF_no hn]) hy
theorem DocP.org (ha : ¬ begins (bare l) [97, 108, 108] = true) (hb : ¬ begins (bare l) [97, 110, 121] = true) (hn : (numF (bare l)).2.2 = true) (hof : ¬ begins (bare (numF (bare l)).2.1) [111, 102] = true) : DocP (k + 1) l (.mk (numF (bare l)).1 0 [], (numF (bare l)).2.1, true) := by
  obtain ⟨v, h1, h2, _⟩ := numF_ok hn
  refine DocP.of_some ?_
  rw [pol_num ha hb, h1, h2]
  exact if_neg hof
theorem DocP.of (ha : ¬ begins (bare l) [97, 108, 108] = true) (hb : ¬ begins (bare l) [97, 110, 121] = true) (hn : (numF (bare l)).2.2 = true) (hof : begins (bare (numF (bare l)).2.1) [111, 102] = true) (hw : DocR k ((bare (numF (bare l)).2.1).drop 2) w) {o : Bool}
    (ho : o = true ↔ w.2.2 = true ∧ 1 ≤ (numF (bare l)).1 ∧ (numF (bare l)).1 ≤ 99) : DocP (k + 1) l (.mk 0 (numF (bare l)).1 w.1, w.2.1, o) := by
  obtain ⟨v, h1, h2, _⟩ := numF_ok hn
  rw [h2] at ho ⊢
  have e := pol_num (k := k) ha hb
  rw [h1] at e
  dsimp only at e
  rw [if_pos hof] at e
  by_cases hv : 1 ≤ v ∧ v ≤ 99
  · rw [if_pos hv] at e
    cases hq : rowT (polT k) ((bare (numF (bare l)).2.1).drop 2) with
    | none =>
      rw [hq] at e
      refine DocP.of_none e ?_
      have := hw.1 hq
      cases o with
      | false => rfl
      | true => rw [(ho.1 rfl).1] at this; cases this
    | some x =>
      rw [hq] at e
      have hx := hw.2 x hq
      have ho2 : o = true := ho.2 ⟨(by rw [hx]), (by omega), (by omega)⟩
      rw [ho2, hx]
      exact DocP.of_some e
  · rw [if_neg hv] at e
    refine DocP.of_none e ?_
    cases o with
    | false => rfl
    | true => have := ho.1 rfl; exact absurd ⟨(by omega), (by omega)⟩ hv
end
end Go.Proofs.YtickdhjljpnlpaaGreatDoor.A
/-
  Policies' texts: the document's parser.
-/
namespace Go.Proofs.YtickdhjljpnlpaaGreatDoor.A
open Go.RowKit

section
variable {l wd : Txt} {k : Nat} {d n : Int}
end
end Go.Proofs.YtickdhjljpnlpaaGreatDoor.A
/-
  The document's contract: entries, batches, ledgers.
-/
namespace Go.Proofs.YtickdhjljpnlpaaGreatDoor.A
open Go.RowKit

section
variable {l : Lg} {x : Ltr} {k n : Int} {s : ByteArray} {c : Core} {e : Ent} {es : List Ent} {h : List (List Ent)} {e1 e2 : Value}
end
end Go.Proofs.YtickdhjljpnlpaaGreatDoor.A
/-
  The document's executor.
-/
namespace Go.Proofs.YtickdhjljpnlpaaGreatDoor.A
open Go.RowKit

section
variable {x : Ex} {n seq k : Int} {es : List Ent} {m : List UInt8} {b : Nat} {r e1 e2 : Value} {c : Core} {xs : List Dd} {v : Value}
end
end Go.Proofs.YtickdhjljpnlpaaGreatDoor.A
/-
  The executor: fixed answers.
-/
namespace Go.Proofs.YtickdhjljpnlpaaGreatDoor.A
open Go.RowKit

section
variable {x : Ex} {n seq k : Int} {es : List Ent} {m : List UInt8} {b : Nat} {r e1 e2 : Value} {c : Core} {xs : List Dd} {v : Value}
set_option maxHeartbeats 1000000 in
theorem few29_s  : Spec Tryz.prog 8 [entsR es] [] (fun _ : Unit => []) (fun _ => boo (decide (FewX es))) := by
 refine spec_of Tryz.func8 rfl Tryz.ntmps8 rfl fun G w => ?_
 refine SC.seq (SC.region ?_)
 refine SL.val (Val.assign rfl) rfl rfl ?_
 refine SL.nil (SE.seq ?_)
 refine SC.seq ?_
 refine SC.seq (SC.region ?_)
 refine SL.val (Val.move rfl) rfl rfl ?_
 first
  | refine SL.val (Val.lenSl rfl Tryz.underlying26 (List.length_map _)) rfl rfl ?_
  | refine SL.val (Val.lenOwn rfl (by repeat first|assumption|exact m0_|apply m1_) Tryz.underlying26 (List.length_map _)) rfl rfl ?_
  | refine SL.val (Val.lenNil rfl Tryz.underlying26) rfl rfl ?_
 refine SL.val (Val.move rfl) rfl rfl ?_
 refine SL.nil (SE.seq ?_)
 refine SC.block ?_
 refine SC.rowLe (i := 5) rfl fun hrow => ?_
 rw [List.length_map] at hrow
 unfold maxLen at hrow
 refine SC.loop (ι := Nat) (fun z => []) (fun z => [(0, entsR es), (5, entsR es), (6, int (es.length : Nat)), (7, int (z : Nat))]) (fun z => z ≤ es.length ∧ ∀ i (hi9 : i < es.length), i < z → es[i].core.letter.size ≤ 100 ∧ es[i].core.text.size ≤ 300) (fun z => es.length - z) (0) (⟨Nat.zero_le _, fun j h h2 => by omega⟩) (by exact ⟨rfl, rfl, rfl, rfl, trivial⟩) (by repeat first|exact s0_ _|exact s1_ _|apply s2_|apply s3_) ?_
 intro z hz
 refine SC.seq (SC.region ?_)
 refine SL.val (Val.ltI rfl rfl) rfl rfl ?_
 refine SL.nil (SE.seq ?_)
 refine SC.seq ?_
 refine SC.condP rfl ?_ ?_
 rotate_left
 ·intro hc8
  refine SC.exit ?_
  refine SE.then_ nofun ?_
  refine SE.then_ nofun ?_
  refine SE.exit ?_
  refine SE.seq ?_
  refine SC.seq (SC.region ?_)
  refine SL.val (Val.move rfl) rfl rfl ?_
  first
   | refine SL.val (Val.lenSl rfl Tryz.underlying26 (List.length_map _)) rfl rfl ?_
   | refine SL.val (Val.lenOwn rfl (by repeat first|assumption|exact m0_|apply m1_) Tryz.underlying26 (List.length_map _)) rfl rfl ?_
   | refine SL.val (Val.lenNil rfl Tryz.underlying26) rfl rfl ?_
  refine SL.val (Val.leI rfl rfl) rfl rfl ?_
  refine SL.val (Val.assign rfl) rfl rfl ?_
  refine SL.nil (SE.seq ?_)
  refine SC.ret ?_
  refine SE.fin (rs := [.tmp 2]) rfl (RV.tmp rfl RV.nil) (()) (by repeat first|exact s0_ _|exact s1_ _|apply s2_|apply s3_) (by simp [It.rids]) ?_
  refine congrArg (fun b => Abs.v (Value.bool b)) ?_
  rw [decide_eq_decide]
  exact ⟨fun h9 => ⟨fun i h1 => hz.2 i h1 (by omega), by omega⟩, fun h9 => by have := h9.len; omega⟩
 intro hc8
 have hlt : z < es.length := by omega
 refine SC.skip ?_
 refine SE.seq ?_
 refine SC.seq ?_
 refine SC.block ?_
 refine SC.seq (SC.region ?_)
 refine SL.val (Val.indexSl tabOk Tryz.underlying26 rfl rfl rfl rfl (at_map (by omega)) rfl rfl) rfl rfl ?_
 refine SL.val (Val.loadAR tabOk rfl rfl rfl (by rfl)) rfl rfl ?_
 refine SL.eff (Eff.alloc tabOk rfl) rfl rfl ?_
 rintro _ _ ⟨b4, rfl, rfl⟩
 refine SL.eff (Eff.store (L' := entA (es[z]'hlt)) tabOk rfl rfl rfl (by repeat first|assumption|exact Upd.here|apply Upd.there) rfl (lb_ (by rfl)) rfl (by exact putL_whole rfl)) rfl rfl ?_
 rintro _ _ ⟨rfl, rfl⟩
 refine SL.nil (SE.seq ?_)
 refine SC.seq (SC.region ?_)
 refine SL.val (Val.fieldAddr tabOk rfl rfl rfl rfl rfl) rfl rfl ?_
 refine SL.val (Val.fieldAddr tabOk rfl rfl rfl rfl rfl) rfl rfl ?_
 refine SL.val (Val.to (C := st (es[z]'hlt).core.letter) (Val.load1 tabOk rfl rfl (by repeat first|assumption|exact o0_|exact o1_|apply o2_) List.not_mem_nil (by rfl)) rfl) rfl rfl ?_
 refine SL.val (Val.lenSt rfl Tryz.underlying9) rfl rfl ?_
 refine SL.val (Val.gtI rfl rfl) rfl rfl ?_
 refine SL.val (Val.move rfl) rfl rfl ?_
 refine SL.bothP (t := 16) rfl ?_ ?_
 ·intro hc16
  iterate 5 refine SL.skip rfl rfl ?_
  refine SL.val (Val.pickT rfl rfl) rfl rfl ?_
  refine SL.nil (SE.seq ?_)
  refine SC.condT rfl ?_
  refine SC.seq (SC.region ?_)
  refine SL.val (Val.assign rfl) rfl rfl ?_
  refine SL.nil (SE.seq ?_)
  refine SC.ret ?_
  refine SE.ret ?_
  refine SE.then_ nofun ?_
  refine SE.then_ nofun ?_
  refine SE.ret ?_
  refine SE.then_ nofun ?_
  refine SE.fin (rs := [.tmp 2]) rfl (RV.tmp rfl RV.nil) (()) (by repeat first|exact s0_ _|exact s1_ _|apply s2_|apply s3_) (by simp [It.rids]) ?_
  refine boo_dec0 fun he => ?_
  have := he.en z hlt
  omega
 intro hc16
 refine SL.val (Val.fieldAddr tabOk rfl rfl rfl rfl rfl) rfl rfl ?_
 refine SL.val (Val.fieldAddr tabOk rfl rfl rfl rfl rfl) rfl rfl ?_
 refine SL.val (Val.to (C := st (es[z]'hlt).core.text) (Val.load1 tabOk rfl rfl (by repeat first|assumption|exact o0_|exact o1_|apply o2_) List.not_mem_nil (by rfl)) rfl) rfl rfl ?_
 refine SL.val (Val.lenSt rfl Tryz.underlying9) rfl rfl ?_
 refine SL.val (Val.gtI rfl rfl) rfl rfl ?_
 refine SL.val (Val.pickF rfl rfl) rfl rfl ?_
 refine SL.nil (SE.seq ?_)
 refine SC.condP rfl ?_ ?_
 rotate_left
 ·intro hc22
  refine SC.skip ?_
  refine SE.inBlock ?_
  refine SE.seq ?_
  refine SC.region ?_
  first
   | refine SL.val (Val.addI rfl rfl (by simp only [InR, lo, hi]; omega)) rfl rfl ?_
   | refine SL.val (Val.addW rfl rfl) rfl rfl ?_
  refine SL.val (Val.move rfl) rfl rfl ?_
  refine SL.nil ?_
  refine SE.round (z + 1) (by first | omega | (dsimp only; omega)) (⟨by omega, fun j h1 h2 => by rcases Nat.lt_or_ge j z with h3 | h3; exact hz.2 j h1 h3; obtain rfl : j = z := (by omega); omega⟩) (by exact ⟨rfl, rfl, rfl, rfl, trivial⟩) (by repeat first|exact s0_ _|exact s1_ _|apply s2_|apply s3_)
 intro hc22
 refine SC.seq (SC.region ?_)
 refine SL.val (Val.assign rfl) rfl rfl ?_
 refine SL.nil (SE.seq ?_)
 refine SC.ret ?_
 refine SE.ret ?_
 refine SE.then_ nofun ?_
 refine SE.then_ nofun ?_
 refine SE.ret ?_
 refine SE.then_ nofun ?_
 refine SE.fin (rs := [.tmp 2]) rfl (RV.tmp rfl RV.nil) (()) (by repeat first|exact s0_ _|exact s1_ _|apply s2_|apply s3_) (by simp [It.rids]) ?_
 refine boo_dec0 fun he => ?_
 have := he.en z hlt
 omega
end
def XA1 : Ex := ⟨⟨1, 0, [], []⟩, [⟨1, [], false⟩]⟩
def XA2 : Ex := ⟨⟨1, 0, [], []⟩, [⟨1, [], true⟩]⟩
theorem XA1_right : XA1.l.Right := Lg.zero_keep.right (s := 1) (by omega)
theorem XA1_ok : XA1.Ok 1 := ⟨XA1_right.ins, by show (0 : Int) ≤ 1 ∧ (1 : Int) ≤ _; omega, Nat.zero_le _, Nat.zero_le _, Nat.le_refl _, fun d hd => by
  rw [List.mem_singleton.1 hd]
  exact ⟨⟨by show i64ok 1; unfold i64ok; omega, fun e he => (by cases he)⟩, Nat.zero_le _, fun e he => (by cases he)⟩⟩
theorem XA2_ok : XA2.Ok 1 := ⟨XA1_right.ins, by show (0 : Int) ≤ 1 ∧ (1 : Int) ≤ _; omega, Nat.zero_le _, Nat.zero_le _, Nat.le_refl _, fun d hd => by
  rw [List.mem_singleton.1 hd]
  exact ⟨⟨by show i64ok 1; unfold i64ok; omega, fun e he => (by cases he)⟩, Nat.zero_le _, fun e he => (by cases he)⟩⟩
theorem fx29a : Ex.zero.doX 4 1 [] = XA1 := by kernel_rfl
theorem fx29b : Ex.zero.doE 4 1 [] = 0 := by kernel_rfl
theorem fx29c : XA1.doX 4 3 [] = XA1 := by kernel_rfl
theorem fx29d : XA1.doE 4 3 [] = 14 := by kernel_rfl
theorem fx29e : Ex.zero.adX XA1.l.bytesR = XA2 ∧ Ex.zero.adE XA1.l.bytesR = 0 := by
  have hp := lg_back XA1_right
  rw [bytesR_ok XA1_right]
  obtain ⟨g1, g2⟩ := ad_ok (x := Ex.zero) (m := XA1.l.bytes) (by rw [hp]; simp) (by rw [hp]; show ¬ (1 : Int) ≤ 0; omega)
  exact ⟨by rw [g1, hp]; rfl, g2⟩
theorem fx29f : XA2.adE XA1.l.bytesR = 14 := by
  have hp := lg_back XA1_right
  rw [bytesR_ok XA1_right]
  exact (ad_mark (x := XA2) (m := XA1.l.bytes) (by rw [hp]; simp) (by rw [hp]; show (1 : Int) ≤ 1; omega)).2
theorem fx29g : XA1.l.bytesR.length ≤ 10000000 := by
  rw [bytesR_ok XA1_right]
  have := XA1_right.bytes
  omega
section
variable {e1 e2 : Value}
set_option maxHeartbeats 4000000 in
theorem fixed29_s (he : isIf e1) (hr : isIf e2) : Spec Tryz.prog 6 [] (globs e1 e2) (fun _ : Unit => []) (fun _ => boo true) := by
 refine spec_of Tryz.func6 rfl Tryz.ntmps6 rfl fun G w => ?_
 refine SC.seq (SC.region ?_)
 refine SL.val (Val.assign rfl) rfl rfl ?_
 refine SL.nil (SE.seq ?_)
 refine SC.seq (SC.region ?_)
 refine SL.call (exnew_s (n := 4) (by omega)) Casts.refl (by kernel_rfl) rfl rfl rfl ?_
 refine After.make (by repeat first|exact .nil|refine .blk (by repeat first|assumption|exact m0_|apply m1_) ?_|refine .rd (by repeat first|assumption|exact m0_|apply m1_) ?_|refine .pc (by repeat first|assumption|exact m0_|apply m1_) ?_|refine .rdpc (by repeat first|assumption|exact m0_|apply m1_) ?_) (fun _ => rfl) ?_
 intro b8
 refine SL.val (Val.assign rfl) rfl rfl ?_
 refine SL.nil (SE.seq ?_)
 refine SC.seq (SC.region ?_)
 refine SL.val (Val.move rfl) rfl rfl ?_
 refine SL.call (exdo_s (b := b8) (x := Ex.zero) (r := (.slice none 0 0)) (n := 4) (seq := 1) (es := []) (j := 0) he hr (fun e he => (by cases he)) (Nat.zero_le _) (by omega) Ex.zero_ok) (Casts.keep (Casts.keep (Casts.nils (s := 8) Casts.refl))) (by kernel_rfl) rfl rfl rfl ?_
 refine After.oneR (ys := (globs e1 e2)) rfl (by repeat first|assumption|exact m0_|apply m1_) (by intro y hy; simp only [globs, List.mem_cons, List.not_mem_nil, or_false] at hy; rcases hy with rfl | rfl | rfl <;> exact ⟨by repeat first|assumption|exact m0_|apply m1_, by intro h; cases h⟩) rfl (fun _ => rfl) ?_
 intro r1
 refine ⟨_, (by repeat first|assumption|exact Upd.here|apply Upd.there), ?_⟩
 rw [fx29a, fx29b]
 refine SL.val (Val.move rfl) rfl rfl ?_
 refine SL.val (Val.extract rfl rfl) rfl rfl ?_
 refine SL.val (Val.to (C := int 0) (Val.extract rfl rfl) rfl) rfl rfl ?_
 iterate 2 refine SL.val (Val.assign rfl) rfl rfl ?_
 refine SL.nil (SE.seq ?_)
 refine SC.seq (SC.region ?_)
 refine SL.val (Val.move rfl) rfl rfl ?_
 refine SL.call (exdo_s (b := b8) (x := XA1) (r := r1) (n := 4) (seq := 3) (es := []) (j := 1) he hr (fun e he => (by cases he)) (Nat.zero_le _) (by omega) XA1_ok) (Casts.keep (Casts.keep (Casts.nils (s := 8) Casts.refl))) (by kernel_rfl) rfl rfl rfl ?_
 refine After.oneR (ys := (globs e1 e2)) rfl (by repeat first|assumption|exact m0_|apply m1_) (by intro y hy; simp only [globs, List.mem_cons, List.not_mem_nil, or_false] at hy; rcases hy with rfl | rfl | rfl <;> exact ⟨by repeat first|assumption|exact m0_|apply m1_, by intro h; cases h⟩) rfl (fun _ => rfl) ?_
 intro r2
 refine ⟨_, (by repeat first|assumption|exact Upd.here|apply Upd.there), ?_⟩
 rw [fx29c, fx29d]
 refine SL.val (Val.move rfl) rfl rfl ?_
 refine SL.val (Val.extract rfl rfl) rfl rfl ?_
 refine SL.val (Val.to (C := int 14) (Val.extract rfl rfl) rfl) rfl rfl ?_
 iterate 2 refine SL.val (Val.assign rfl) rfl rfl ?_
 refine SL.nil (SE.seq ?_)
 refine SC.seq (SC.region ?_)
 refine SL.call (exnew_s (n := 4) (by omega)) Casts.refl (by kernel_rfl) rfl rfl rfl ?_
 refine After.make (by repeat first|exact .nil|refine .blk (by repeat first|assumption|exact m0_|apply m1_) ?_|refine .rd (by repeat first|assumption|exact m0_|apply m1_) ?_|refine .pc (by repeat first|assumption|exact m0_|apply m1_) ?_|refine .rdpc (by repeat first|assumption|exact m0_|apply m1_) ?_) (fun _ => rfl) ?_
 intro b19
 refine SL.val (Val.assign rfl) rfl rfl ?_
 refine SL.nil (SE.seq ?_)
 refine SC.seq (SC.region ?_)
 iterate 2 refine SL.val (Val.move rfl) rfl rfl ?_
 refine SL.call (exbytes_s (b := b8) (x := XA1) (r := r2) (n := 4) XA1_ok.ins.total) Casts.refl (by kernel_rfl) rfl rfl rfl ?_
 refine After.one rfl (by repeat first|assumption|exact m0_|apply m1_) (fun _ => rfl) ?_
 intro _
 refine ⟨_, (by repeat first|assumption|exact Upd.here|apply Upd.there), ?_⟩
 refine SL.call (exad_s (b := b19) (x := Ex.zero) (r := (.slice none 0 0)) (n := 4) (m := XA1.l.bytesR) (j := 0) fx29g (by omega) Ex.zero_ok) Casts.refl (by kernel_rfl) rfl rfl rfl ?_
 refine After.one rfl (by repeat first|assumption|exact m0_|apply m1_) (fun _ => rfl) ?_
 intro r3
 refine ⟨_, (by repeat first|assumption|exact Upd.here|apply Upd.there), ?_⟩
 rw [fx29e.1, fx29e.2]
 refine SL.val (Val.assign rfl) rfl rfl ?_
 refine SL.nil (SE.seq ?_)
 refine SC.seq (SC.region ?_)
 refine SL.val (Val.move rfl) rfl rfl ?_
 refine SL.val (Val.to (C := boo true) (Val.eqI rfl rfl) (congrArg (fun b => Abs.v (Value.bool b)) (decide_eq_true (rfl)))) rfl rfl ?_
 iterate 2 refine SL.val (Val.move rfl) rfl rfl ?_
 refine SL.val (Val.to (C := boo true) (Val.eqI rfl rfl) (congrArg (fun b => Abs.v (Value.bool b)) (decide_eq_true (rfl)))) rfl rfl ?_
 refine SL.val (Val.pickT rfl rfl) rfl rfl ?_
 iterate 2 refine SL.val (Val.move rfl) rfl rfl ?_
 refine SL.val (Val.to (C := boo true) (Val.eqI rfl rfl) (congrArg (fun b => Abs.v (Value.bool b)) (decide_eq_true (rfl)))) rfl rfl ?_
 refine SL.val (Val.pickT rfl rfl) rfl rfl ?_
 iterate 2 refine SL.val (Val.move rfl) rfl rfl ?_
 refine SL.call (excur_s (b := b8) (x := XA1) (r := r2) (n := 4)) Casts.refl (by kernel_rfl) rfl rfl rfl ?_
 refine After.one rfl (by repeat first|assumption|exact m0_|apply m1_) (fun _ => rfl) ?_
 intro _
 refine ⟨_, (by repeat first|assumption|exact Upd.here|apply Upd.there), ?_⟩
 refine SL.val (Val.to (C := boo true) (Val.eqI rfl rfl) (congrArg (fun b => Abs.v (Value.bool b)) (decide_eq_true (rfl)))) rfl rfl ?_
 refine SL.val (Val.pickT rfl rfl) rfl rfl ?_
 iterate 2 refine SL.val (Val.move rfl) rfl rfl ?_
 refine SL.call (excur_s (b := b19) (x := XA2) (r := r3) (n := 4)) Casts.refl (by kernel_rfl) rfl rfl rfl ?_
 refine After.one rfl (by repeat first|assumption|exact m0_|apply m1_) (fun _ => rfl) ?_
 intro _
 refine ⟨_, (by repeat first|assumption|exact Upd.here|apply Upd.there), ?_⟩
 refine SL.val (Val.to (C := boo true) (Val.eqI rfl rfl) (congrArg (fun b => Abs.v (Value.bool b)) (decide_eq_true (rfl)))) rfl rfl ?_
 refine SL.val (Val.pickT rfl rfl) rfl rfl ?_
 iterate 2 refine SL.val (Val.move rfl) rfl rfl ?_
 refine SL.call (exdeeds_s (b := b19) (x := XA2) (r := r3) (n := 4) (by show (1 : Nat) ≤ _; omega) (fun d hd => Nat.le_trans (XA2_ok.ds d hd).2.1 (by omega))) Casts.refl (by kernel_rfl) rfl rfl rfl ?_
 refine After.one rfl (by repeat first|assumption|exact m0_|apply m1_) (fun _ => rfl) ?_
 intro _
 refine ⟨_, (by repeat first|assumption|exact Upd.here|apply Upd.there), ?_⟩
 refine SL.val (Val.to (C := int ((1 : Nat) : Int)) (Val.lenSl (m := 1) rfl Tryz.underlying46 rfl) rfl) rfl rfl ?_
 refine SL.val (Val.to (C := boo true) (Val.eqI rfl rfl) (congrArg (fun b => Abs.v (Value.bool b)) (decide_eq_true (rfl)))) rfl rfl ?_
 refine SL.val (Val.pickT rfl rfl) rfl rfl ?_
 iterate 2 refine SL.val (Val.move rfl) rfl rfl ?_
 refine SL.call (exdeeds_s (b := b19) (x := XA2) (r := r3) (n := 4) (by show (1 : Nat) ≤ _; omega) (fun d hd => Nat.le_trans (XA2_ok.ds d hd).2.1 (by omega))) Casts.refl (by kernel_rfl) rfl rfl rfl ?_
 refine After.one rfl (by repeat first|assumption|exact m0_|apply m1_) (fun _ => rfl) ?_
 intro _
 refine ⟨_, (by repeat first|assumption|exact Upd.here|apply Upd.there), ?_⟩
 refine SL.val (Val.indexSl (q := 0) (cs := Dd.abs ⟨1, [], true⟩) tabOk Tryz.underlying46 rfl rfl rfl rfl rfl rfl rfl) rfl rfl ?_
 first
  | refine SL.val (Val.fieldAddr tabOk rfl rfl rfl rfl rfl) rfl rfl ?_
  | refine SL.val (Val.fieldAddrR tabOk rfl rfl rfl rfl rfl) rfl rfl ?_
 refine SL.val (Val.to (C := boo true) (Val.load1R tabOk rfl rfl rfl) rfl) rfl rfl ?_
 refine SL.val (Val.pickT rfl rfl) rfl rfl ?_
 iterate 3 refine SL.val (Val.move rfl) rfl rfl ?_
 refine SL.call (exbytes_s (b := b8) (x := XA1) (r := r2) (n := 4) XA1_ok.ins.total) Casts.refl (by kernel_rfl) rfl rfl rfl ?_
 refine After.one rfl (by repeat first|assumption|exact m0_|apply m1_) (fun _ => rfl) ?_
 intro _
 refine ⟨_, (by repeat first|assumption|exact Upd.here|apply Upd.there), ?_⟩
 refine SL.call (exad_s (b := b19) (x := XA2) (r := r3) (n := 4) (m := XA1.l.bytesR) (j := 1) fx29g (by omega) XA2_ok) Casts.refl (by kernel_rfl) rfl rfl rfl ?_
 refine After.one rfl (by repeat first|assumption|exact m0_|apply m1_) (fun _ => rfl) ?_
 intro r4
 refine ⟨_, (by repeat first|assumption|exact Upd.here|apply Upd.there), ?_⟩
 rw [fx29f]
 refine SL.val (Val.to (C := boo true) (Val.eqI rfl rfl) (congrArg (fun b => Abs.v (Value.bool b)) (decide_eq_true (rfl)))) rfl rfl ?_
 refine SL.val (Val.pickT rfl rfl) rfl rfl ?_
 refine SL.val (Val.assign rfl) rfl rfl ?_
 refine SL.nil (SE.seq ?_)
 refine SC.ret ?_
 refine SE.fin (rs := [.tmp 0]) rfl (RV.tmp rfl RV.nil) (()) (by repeat first|exact s0_ _|exact s1_ _|apply s2_|apply s3_) (by simp [It.rids]) ?_
 exact rfl
end
end Go.Proofs.YtickdhjljpnlpaaGreatDoor.A
/-
  ExecutorSame: the law.
-/
namespace Go.Proofs.YtickdhjljpnlpaaGreatDoor.A
open Go.RowKit

theorem nod_head {b : Nat} {t : TypeId} {cs : List Abs} {x : It} {σ : Blks} (h : (mids (It.blk b t cs :: σ)).Nodup) (hx : x ∈ σ) : b ∉ x.mids := fun hm => by
  rw [mids_cons, List.nodup_append] at h
  exact h.2.2 b (by simp [It.mids]) b (mids_mem.2 ⟨x, hx, hm⟩) rfl
theorem mids_one {x : It} : ∀ k ∈ mids [x], k ∈ x.mids := fun k hk => by
  obtain ⟨y, hy, hk⟩ := mids_mem.1 hk
  rw [List.mem_singleton.1 hy] at hk
  exact hk
theorem mids_oneG {x : It} {e1 e2 : Value} : ∀ k ∈ mids (x :: globs e1 e2), k ∈ x.mids := fun k hk => by
  obtain ⟨y, hy, h9⟩ := mids_mem.1 hk
  rcases List.mem_cons.1 hy with rfl | hy
  · exact h9
  · simp only [globs, List.mem_cons, List.not_mem_nil, or_false] at hy
    rcases hy with rfl | rfl | rfl <;> cases h9
theorem doF_e64 {l : Lg} {e : Ent} {n : Int} : i64ok (l.doF e n).2 := by
  unfold Lg.doF
  split
  · show i64ok 10; unfold i64ok; omega
  · split
    · show i64ok (e.core.check n)
      unfold Core.check
      repeat' split
      all_goals (unfold i64ok; omega)
    · exact small_i64 res_err
theorem goes_e64 (n : Int) : ∀ (l : Lg) (es : List Ent), ∀ r ∈ (Lg.goes n l es).2, i64ok r
  | l, [], r, h => by cases h
  | l, e :: es, r, h => by
    rcases List.mem_cons.1 h with rfl | h
    · exact doF_e64
    · exact goes_e64 n _ es r h
theorem doO_ins {x : Ex} {n seq : Int} {es : List Ent} (he : ∀ e ∈ es, EnIns e) : ∀ o ∈ x.doO n seq es, OcIns o := by
  unfold Ex.doO
  split
  · intro o ho; cases ho
  · exact outF_ins he (goes_e64 n x.l es)
section
variable {l : List XAct} {n : Int} {e1 e2 : Value}
set_option maxHeartbeats 4000000 in
theorem xsame_s (he : isIf e1) (hr : isIf e2) (hi9 : ∀ a ∈ l, a.Ins) : Spec Tryz.prog 3 [actsX l] (globs e1 e2) (fun _ : Unit => []) (fun _ => boo true) := by
 refine spec_of Tryz.func3 rfl Tryz.ntmps3 rfl fun G w => ?_
 refine SC.seq (SC.region ?_)
 refine SL.val (Val.assign rfl) rfl rfl ?_
 refine SL.nil (SE.seq ?_)
 refine SC.seq ?_
 refine SC.seq (SC.region ?_)
 refine SL.call (fixed29_s he hr) Casts.refl (by kernel_rfl) rfl rfl rfl ?_
 refine ap_ ?_
 intro _
 refine SL.val (Val.notT rfl) rfl rfl ?_
 refine SL.nil (SE.seq ?_)
 refine SC.condF rfl ?_
 refine SC.skip ?_
 refine SE.seq ?_
 refine SC.seq ?_
 refine SC.seq (SC.region ?_)
 refine SL.val (Val.move rfl) rfl rfl ?_
 first
  | refine SL.val (Val.lenSl rfl Tryz.underlying22 (List.length_map _)) rfl rfl ?_
  | refine SL.val (Val.lenOwn rfl (by repeat first|assumption|exact m0_|apply m1_) Tryz.underlying22 (List.length_map _)) rfl rfl ?_
  | refine SL.val (Val.lenNil rfl Tryz.underlying22) rfl rfl ?_
 refine SL.val (Val.gtI rfl rfl) rfl rfl ?_
 refine SL.nil (SE.seq ?_)
 refine SC.condP rfl ?_ ?_
 ·intro hc18
  refine SC.seq (SC.region ?_)
  refine SL.val (Val.assign rfl) rfl rfl ?_
  refine SL.nil (SE.seq ?_)
  refine SC.ret ?_
  refine SE.then_ nofun ?_
  refine SE.fin (rs := [.tmp 2]) rfl (RV.tmp rfl RV.nil) (()) (by repeat first|exact s0_ _|exact s1_ _|apply s2_|apply s3_) (by simp [It.rids]) ?_
  exact rfl
 intro hc18
 refine SC.skip ?_
 refine SE.seq ?_
 refine SC.seq (SC.region ?_)
 refine SL.call (exnew_s (n := 4) (by omega)) Casts.refl (by kernel_rfl) rfl rfl rfl ?_
 refine After.make (by repeat first|exact .nil|refine .blk (by repeat first|assumption|exact m0_|apply m1_) ?_|refine .rd (by repeat first|assumption|exact m0_|apply m1_) ?_|refine .pc (by repeat first|assumption|exact m0_|apply m1_) ?_|refine .rdpc (by repeat first|assumption|exact m0_|apply m1_) ?_) (fun _ => rfl) ?_
 intro b19
 refine SL.call (exnew_s (n := 4) (by omega)) Casts.refl (by kernel_rfl) rfl rfl rfl ?_
 refine After.make (by repeat first|exact .nil|refine .blk (by repeat first|assumption|exact m0_|apply m1_) ?_|refine .rd (by repeat first|assumption|exact m0_|apply m1_) ?_|refine .pc (by repeat first|assumption|exact m0_|apply m1_) ?_|refine .rdpc (by repeat first|assumption|exact m0_|apply m1_) ?_) (fun _ => rfl) ?_
 intro b20
 iterate 2 refine SL.val (Val.assign rfl) rfl rfl ?_
 refine SL.nil (SE.seq ?_)
 refine SC.seq ?_
 refine SC.seq (SC.region ?_)
 refine SL.val (Val.move rfl) rfl rfl ?_
 first
  | refine SL.val (Val.lenSl rfl Tryz.underlying22 (List.length_map _)) rfl rfl ?_
  | refine SL.val (Val.lenOwn rfl (by repeat first|assumption|exact m0_|apply m1_) Tryz.underlying22 (List.length_map _)) rfl rfl ?_
  | refine SL.val (Val.lenNil rfl Tryz.underlying22) rfl rfl ?_
 refine SL.val (Val.move rfl) rfl rfl ?_
 refine SL.nil (SE.seq ?_)
 refine SC.block ?_
 refine SC.loop (ι := Nat × Ex × Value × Value) (fun z => (.pc (exP b20 4 z.2.1 z.2.2.2) :: .pc (exP b19 4 z.2.1 z.2.2.1) :: (globs e1 e2))) (fun z => [(3, ptr b19), (4, ptr b20), (21, actsX l), (22, int (l.length : Nat)), (23, int (z.1 : Nat))]) (fun z => z.1 ≤ l.length ∧ z.2.1.Ok z.1 ∧ z.2.1.l.Keep) (fun z => l.length - z.1) (0, Ex.zero, (.slice none 0 0), (.slice none 0 0)) (⟨Nat.zero_le _, Ex.zero_ok, Lg.zero_keep⟩) (by exact ⟨rfl, rfl, rfl, rfl, rfl, trivial⟩) (by repeat first|exact s0_ _|exact s1_ _|apply s2_|apply s3_) ?_
 intro z hz
 refine SC.seq (SC.region ?_)
 refine SL.val (Val.ltI rfl rfl) rfl rfl ?_
 refine SL.nil (SE.seq ?_)
 refine SC.seq ?_
 refine SC.condP rfl ?_ ?_
 rotate_left
 ·intro hc24
  have hri : z.2.1.l.Right := keep_right hz.2.2 hz.2.1.seq
  have hbR := bytesR_ok hri
  have hza := zero_ad hri
  refine SC.exit ?_
  refine SE.then_ nofun ?_
  refine SE.then_ nofun ?_
  refine SE.exit ?_
  refine SE.seq ?_
  refine SC.seq (SC.region ?_)
  refine SL.call (exnew_s (n := 4) (by omega)) Casts.refl (by kernel_rfl) rfl rfl rfl ?_
  refine After.make (by repeat first|exact .nil|refine .blk (by repeat first|assumption|exact m0_|apply m1_) ?_|refine .rd (by repeat first|assumption|exact m0_|apply m1_) ?_|refine .pc (by repeat first|assumption|exact m0_|apply m1_) ?_|refine .rdpc (by repeat first|assumption|exact m0_|apply m1_) ?_) (fun _ => rfl) ?_
  intro b77
  refine SL.val (Val.assign rfl) rfl rfl ?_
  refine SL.nil (SE.seq ?_)
  refine SC.seq (SC.region ?_)
  iterate 2 refine SL.val (Val.move rfl) rfl rfl ?_
  refine SL.call (exbytes_s (b := b19) (x := z.2.1) (r := z.2.2.1) (n := 4) hz.2.1.ins.total) Casts.refl (by kernel_rfl) rfl rfl rfl ?_
  refine After.one rfl (by repeat first|assumption|exact m0_|apply m1_) (fun _ => rfl) ?_
  intro _
  refine ⟨_, (by repeat first|assumption|exact Upd.here|apply Upd.there), ?_⟩
  refine SL.call (exad_s (b := b77) (x := Ex.zero) (r := (.slice none 0 0)) (n := 4) (m := z.2.1.l.bytesR) (j := 0) (by rw [hbR]; have := hri.bytes; omega) (by omega) Ex.zero_ok) Casts.refl (by kernel_rfl) rfl rfl rfl ?_
  refine After.one rfl (by repeat first|assumption|exact m0_|apply m1_) (fun _ => rfl) ?_
  intro r81
  refine ⟨_, (by repeat first|assumption|exact Upd.here|apply Upd.there), ?_⟩
  refine SL.val (Val.assign rfl) rfl rfl ?_
  refine SL.nil (SE.seq ?_)
  refine SC.seq ?_
  refine SC.draw ((It.pc (exP b19 4 z.2.1 z.2.2.1)).mids ++ ((It.pc (exP b20 4 z.2.1 z.2.2.2)).mids ++ (It.pc (exP b77 4 (Ex.zero.adX z.2.1.l.bytesR) r81)).mids)) (.q 0 (.q 3 (.e 1 (.q 2 (.e 4 (.q 5 (.q 6 (.q 7 (.q 8 (.e 9 (.q 10 (.q 11 (.q 12 (.q 13 (.q 14 (.q 15 (.q 18 (.e 16 (.q 17 (.e 19 (.q 20 (.q 21 (.q 22 (.q 23 (.q 24 (.q 26 (.e 25 (.e 27 (.q 28 (.q 29 (.q 30 (.q 31 (.q 32 .nil))))))))))))))))))))))))))))))))) (by kernel_rfl) (by kernel_rfl) ?_
  refine SX.hx (fun k hk => by rcases List.mem_append.1 hk with hk | hk; exact mids_mem.2 ⟨_, (by repeat first|assumption|exact m0_|apply m1_), hk⟩; rcases List.mem_append.1 hk with hk | hk; exact mids_mem.2 ⟨_, (by repeat first|assumption|exact m0_|apply m1_), hk⟩; exact mids_mem.2 ⟨_, (by repeat first|assumption|exact m0_|apply m1_), hk⟩) fun hx9 => ?_
  refine SX.val rfl (Val.move rfl) hx9 rfl rfl ?_
  refine SX.val rfl (Val.move rfl) hx9 rfl rfl ?_
  refine SX.call rfl (exbytes_s (b := b19) (x := z.2.1) (r := z.2.2.1) (n := 4) hz.2.1.ins.total) (fun k hk => List.mem_append_left _ (mids_one k hk)) Casts.refl (by kernel_rfl) rfl rfl rfl ?_
  refine After.one rfl (by repeat first|assumption|exact m0_|apply m1_) (fun _ => rfl) ?_
  intro _
  refine ⟨_, (by repeat first|assumption|exact Upd.here|apply Upd.there), ?_⟩
  refine SX.hx (fun k hk => by rcases List.mem_append.1 hk with hk | hk; exact mids_mem.2 ⟨_, (by repeat first|assumption|exact m0_|apply m1_), hk⟩; rcases List.mem_append.1 hk with hk | hk; exact mids_mem.2 ⟨_, (by repeat first|assumption|exact m0_|apply m1_), hk⟩; exact mids_mem.2 ⟨_, (by repeat first|assumption|exact m0_|apply m1_), hk⟩) fun hx9 => ?_
  refine SX.val rfl (Val.strOf rfl) hx9 rfl rfl ?_
  refine SX.call rfl (exbytes_s (b := b20) (x := z.2.1) (r := z.2.2.2) (n := 4) hz.2.1.ins.total) (fun k hk => List.mem_append_right _ <| List.mem_append_left _ (mids_one k hk)) Casts.refl (by kernel_rfl) rfl rfl rfl ?_
  refine After.one rfl (by repeat first|assumption|exact m0_|apply m1_) (fun _ => rfl) ?_
  intro _
  refine ⟨_, (by repeat first|assumption|exact Upd.here|apply Upd.there), ?_⟩
  refine SX.hx (fun k hk => by rcases List.mem_append.1 hk with hk | hk; exact mids_mem.2 ⟨_, (by repeat first|assumption|exact m0_|apply m1_), hk⟩; rcases List.mem_append.1 hk with hk | hk; exact mids_mem.2 ⟨_, (by repeat first|assumption|exact m0_|apply m1_), hk⟩; exact mids_mem.2 ⟨_, (by repeat first|assumption|exact m0_|apply m1_), hk⟩) fun hx9 => ?_
  refine SX.val rfl (Val.strOf rfl) hx9 rfl rfl ?_
  refine SX.val rfl (Val.to (C := boo true) (Val.eqS rfl rfl) (congrArg (fun b => Abs.v (Value.bool b)) (decide_eq_true rfl))) hx9 rfl rfl ?_
  refine SX.val rfl (Val.move rfl) hx9 rfl rfl ?_
  refine SX.val rfl (Val.move rfl) hx9 rfl rfl ?_
  refine SX.call rfl (excur_s (b := b19) (x := z.2.1) (r := z.2.2.1) (n := 4)) (fun k hk => List.mem_append_left _ (mids_one k hk)) Casts.refl (by kernel_rfl) rfl rfl rfl ?_
  refine After.one rfl (by repeat first|assumption|exact m0_|apply m1_) (fun _ => rfl) ?_
  intro _
  refine ⟨_, (by repeat first|assumption|exact Upd.here|apply Upd.there), ?_⟩
  refine SX.hx (fun k hk => by rcases List.mem_append.1 hk with hk | hk; exact mids_mem.2 ⟨_, (by repeat first|assumption|exact m0_|apply m1_), hk⟩; rcases List.mem_append.1 hk with hk | hk; exact mids_mem.2 ⟨_, (by repeat first|assumption|exact m0_|apply m1_), hk⟩; exact mids_mem.2 ⟨_, (by repeat first|assumption|exact m0_|apply m1_), hk⟩) fun hx9 => ?_
  refine SX.val rfl (Val.eqI rfl rfl) hx9 rfl rfl ?_
  refine SX.val rfl (Val.move rfl) hx9 rfl rfl ?_
  refine SX.bothP (t := 93) rfl ?_ ?_
  ·intro hc93
   iterate 5 refine SX.skip rfl rfl rfl ?_
   refine SX.skip' rfl rfl rfl ?_
   refine SX.skip rfl rfl rfl ?_
   refine SX.skip' rfl rfl rfl ?_
   iterate 6 refine SX.skip rfl rfl rfl ?_
   refine SX.skip' rfl rfl rfl ?_
   refine SX.skip' rfl rfl rfl ?_
   iterate 2 refine SX.skip rfl rfl rfl ?_
   refine SX.val rfl (Val.pickT rfl rfl) hx9 rfl rfl ?_
   refine SX.val rfl (Val.pickT rfl rfl) hx9 rfl rfl ?_
   refine SX.val rfl (Val.assign rfl) hx9 rfl rfl ?_
   refine SX.nil (SE.seq ?_)
   refine SC.ret ?_
   refine SE.fin (rs := [.tmp 2]) rfl (RV.tmp rfl RV.nil) (()) (by repeat first|exact s0_ _|exact s1_ _|apply s2_|apply s3_) (by simp [It.rids]) ?_
   exact rfl
  intro hc93
  refine SX.val rfl (Val.move rfl) hx9 rfl rfl ?_
  refine SX.val rfl (Val.to (C := boo true) (Val.eqI rfl rfl) (congrArg (fun b => Abs.v (Value.bool b)) (decide_eq_true (by rw [hbR]; exact (hza.2 hc93).1)))) hx9 rfl rfl ?_
  refine SX.val rfl (Val.move rfl) hx9 rfl rfl ?_
  refine SX.val rfl (Val.move rfl) hx9 rfl rfl ?_
  refine SX.val rfl (Val.move rfl) hx9 rfl rfl ?_
  refine SX.call rfl (exbytes_s (b := b77) (x := (Ex.zero.adX z.2.1.l.bytesR)) (r := r81) (n := 4) (by rw [hbR, (hza.2 hc93).2]; exact hz.2.1.ins.total)) (fun k hk => List.mem_append_right _ <| List.mem_append_right _ (mids_one k hk)) Casts.refl (by kernel_rfl) rfl rfl rfl ?_
  refine After.one rfl (by repeat first|assumption|exact m0_|apply m1_) (fun _ => rfl) ?_
  intro _
  refine ⟨_, (by repeat first|assumption|exact Upd.here|apply Upd.there), ?_⟩
  refine SX.hx (fun k hk => by rcases List.mem_append.1 hk with hk | hk; exact mids_mem.2 ⟨_, (by repeat first|assumption|exact m0_|apply m1_), hk⟩; rcases List.mem_append.1 hk with hk | hk; exact mids_mem.2 ⟨_, (by repeat first|assumption|exact m0_|apply m1_), hk⟩; exact mids_mem.2 ⟨_, (by repeat first|assumption|exact m0_|apply m1_), hk⟩) fun hx9 => ?_
  refine SX.val rfl (Val.strOf rfl) hx9 rfl rfl ?_
  refine SX.call rfl (exbytes_s (b := b19) (x := z.2.1) (r := z.2.2.1) (n := 4) hz.2.1.ins.total) (fun k hk => List.mem_append_left _ (mids_one k hk)) Casts.refl (by kernel_rfl) rfl rfl rfl ?_
  refine After.one rfl (by repeat first|assumption|exact m0_|apply m1_) (fun _ => rfl) ?_
  intro _
  refine ⟨_, (by repeat first|assumption|exact Upd.here|apply Upd.there), ?_⟩
  refine SX.hx (fun k hk => by rcases List.mem_append.1 hk with hk | hk; exact mids_mem.2 ⟨_, (by repeat first|assumption|exact m0_|apply m1_), hk⟩; rcases List.mem_append.1 hk with hk | hk; exact mids_mem.2 ⟨_, (by repeat first|assumption|exact m0_|apply m1_), hk⟩; exact mids_mem.2 ⟨_, (by repeat first|assumption|exact m0_|apply m1_), hk⟩) fun hx9 => ?_
  refine SX.val rfl (Val.strOf rfl) hx9 rfl rfl ?_
  refine SX.val rfl (Val.to (C := boo true) (Val.eqS rfl rfl) (congrArg (fun b => Abs.v (Value.bool b)) (decide_eq_true (by rw [hbR, (hza.2 hc93).2, hbR])))) hx9 rfl rfl ?_
  refine SX.val rfl (Val.pickT rfl rfl) hx9 rfl rfl ?_
  refine SX.val rfl (Val.move rfl) hx9 rfl rfl ?_
  refine SX.val rfl (Val.move rfl) hx9 rfl rfl ?_
  refine SX.val rfl (Val.move rfl) hx9 rfl rfl ?_
  refine SX.call rfl (excur_s (b := b77) (x := (Ex.zero.adX z.2.1.l.bytesR)) (r := r81) (n := 4)) (fun k hk => List.mem_append_right _ <| List.mem_append_right _ (mids_one k hk)) Casts.refl (by kernel_rfl) rfl rfl rfl ?_
  refine After.one rfl (by repeat first|assumption|exact m0_|apply m1_) (fun _ => rfl) ?_
  intro _
  refine ⟨_, (by repeat first|assumption|exact Upd.here|apply Upd.there), ?_⟩
  refine SX.call rfl (excur_s (b := b19) (x := z.2.1) (r := z.2.2.1) (n := 4)) (fun k hk => List.mem_append_left _ (mids_one k hk)) Casts.refl (by kernel_rfl) rfl rfl rfl ?_
  refine After.one rfl (by repeat first|assumption|exact m0_|apply m1_) (fun _ => rfl) ?_
  intro _
  refine ⟨_, (by repeat first|assumption|exact Upd.here|apply Upd.there), ?_⟩
  refine SX.hx (fun k hk => by rcases List.mem_append.1 hk with hk | hk; exact mids_mem.2 ⟨_, (by repeat first|assumption|exact m0_|apply m1_), hk⟩; rcases List.mem_append.1 hk with hk | hk; exact mids_mem.2 ⟨_, (by repeat first|assumption|exact m0_|apply m1_), hk⟩; exact mids_mem.2 ⟨_, (by repeat first|assumption|exact m0_|apply m1_), hk⟩) fun hx9 => ?_
  refine SX.val rfl (Val.to (C := boo true) (Val.eqI rfl rfl) (congrArg (fun b => Abs.v (Value.bool b)) (decide_eq_true (by rw [hbR, (hza.2 hc93).2])))) hx9 rfl rfl ?_
  refine SX.val rfl (Val.pickT rfl rfl) hx9 rfl rfl ?_
  refine SX.val rfl (Val.pickF rfl rfl) hx9 rfl rfl ?_
  refine SX.val rfl (Val.pickT rfl rfl) hx9 rfl rfl ?_
  refine SX.val rfl (Val.assign rfl) hx9 rfl rfl ?_
  refine SX.nil (SE.seq ?_)
  refine SC.ret ?_
  refine SE.fin (rs := [.tmp 2]) rfl (RV.tmp rfl RV.nil) (()) (by repeat first|exact s0_ _|exact s1_ _|apply s2_|apply s3_) (by simp [It.rids]) ?_
  exact rfl
 intro hc24
 have hlt : z.1 < l.length := by omega
 have hae := hi9 _ (List.getElem_mem hlt)
 have hsq := hz.2.1.seq
 refine SC.skip ?_
 refine SE.seq ?_
 refine SC.seq ?_
 refine SC.block ?_
 refine SC.seq (SC.region ?_)
 refine SL.val (Val.indexSl tabOk Tryz.underlying22 rfl rfl rfl rfl (at_map (by omega)) rfl rfl) rfl rfl ?_
 refine SL.val (Val.loadAR tabOk rfl rfl rfl (by rfl)) rfl rfl ?_
 refine SL.eff (Eff.alloc tabOk rfl) rfl rfl ?_
 rintro _ _ ⟨b6, rfl, rfl⟩
 refine SL.eff (Eff.store (L' := XAct.abs (l[z.1]'hlt)) tabOk rfl rfl rfl (by repeat first|assumption|exact Upd.here|apply Upd.there) rfl (lb_ (by rfl)) rfl (by exact putL_whole rfl)) rfl rfl ?_
 rintro _ _ ⟨rfl, rfl⟩
 refine SL.nil (SE.seq ?_)
 refine SC.seq ?_
 refine SC.seq (SC.region ?_)
 refine SL.val (Val.fieldAddr tabOk rfl rfl rfl rfl rfl) rfl rfl ?_
 refine SL.val (Val.to (C := entsR (l[z.1]'hlt).batch) (Val.load1 tabOk rfl rfl (by repeat first|assumption|exact o0_|exact o1_|apply o2_) List.not_mem_nil (by rfl)) rfl) rfl rfl ?_
 refine SL.call (few29_s (es := (l[z.1]'hlt).batch)) Casts.refl (by kernel_rfl) rfl rfl rfl ?_
 refine ap_ ?_
 intro _
 refine SL.val (Val.notP rfl) rfl rfl ?_
 refine SL.nil (SE.seq ?_)
 refine SC.condP rfl ?_ ?_
 ·intro hc30
  refine SC.seq (SC.region ?_)
  refine SL.val (Val.assign rfl) rfl rfl ?_
  refine SL.nil (SE.seq ?_)
  refine SC.ret ?_
  refine SE.then_ nofun ?_
  refine SE.ret ?_
  refine SE.then_ nofun ?_
  refine SE.then_ nofun ?_
  refine SE.ret ?_
  refine SE.then_ nofun ?_
  refine SE.fin (rs := [.tmp 2]) rfl (RV.tmp rfl RV.nil) (()) (by repeat first|exact s0_ _|exact s1_ _|apply s2_|apply s3_) (by simp [It.rids]) ?_
  exact rfl
 intro hc30
 have hfw : FewX (l[z.1]'hlt).batch := Classical.byContradiction hc30
 refine SC.skip ?_
 refine SE.seq ?_
 refine SC.seq ?_
 refine SC.nod fun hnod => ?_
 have hb6 : b6 ∉ (It.pc (exP b19 4 z.2.1 z.2.2.1)).mids := nod_head hnod (by repeat first|assumption|exact m0_|apply m1_)
 refine SC.draw (It.pc (exP b19 4 z.2.1 z.2.2.1)).mids (.q 0 (.q 1 (.q 4 (.q 5 (.e 2 (.q 3 (.e 6 (.q 7 (.q 8 (.q 9 (.q 10 (.q 11 .nil)))))))))))) (by kernel_rfl) (by kernel_rfl) ?_
 refine SX.hx (fun k hk => mids_mem.2 ⟨_, (by repeat first|assumption|exact m0_|apply m1_), hk⟩) fun hx9 => ?_
 refine SX.val rfl (Val.move rfl) hx9 rfl rfl ?_
 refine SX.val rfl (Val.move rfl) hx9 rfl rfl ?_
 refine SX.val rfl (Val.fieldAddr tabOk rfl rfl rfl rfl rfl) hx9 rfl rfl ?_
 refine SX.val rfl (Val.to (C := entsR (l[z.1]'hlt).batch) (Val.load1 tabOk rfl rfl (by repeat first|assumption|exact o0_|exact o1_|apply o2_) hb6 (by rfl)) rfl) hx9 rfl rfl ?_
 refine SX.call rfl (excur_s (b := b19) (x := z.2.1) (r := z.2.2.1) (n := 4)) mids_one Casts.refl (by kernel_rfl) rfl rfl rfl ?_
 refine After.one rfl (by repeat first|assumption|exact m0_|apply m1_) (fun _ => rfl) ?_
 intro _
 refine ⟨_, (by repeat first|assumption|exact Upd.here|apply Upd.there), ?_⟩
 refine SX.hx (fun k hk => mids_mem.2 ⟨_, (by repeat first|assumption|exact m0_|apply m1_), hk⟩) fun hx9 => ?_
 refine SX.val rfl (Val.addI rfl rfl (by simp only [InR, lo, hi]; omega)) hx9 rfl rfl ?_
 refine SX.callX ([]) rfl (exdo_s (b := b19) (x := z.2.1) (r := z.2.2.1) (n := 4) (seq := z.2.1.l.seq + 1) (es := (l[z.1]'hlt).batch) (j := z.1) he hr hae.batch hfw.len (by omega) hz.2.1) mids_oneG (by simp) Casts.refl (by kernel_rfl) rfl rfl rfl ?_
 refine After.oneR (ys := (globs e1 e2)) rfl (by repeat first|assumption|exact m0_|apply m1_) (by intro y hy; simp only [globs, List.mem_cons, List.not_mem_nil, or_false] at hy; rcases hy with rfl | rfl | rfl <;> exact ⟨by repeat first|assumption|exact m0_|apply m1_, by intro h; cases h⟩) rfl (fun _ => rfl) ?_
 intro r19
 refine ⟨_, (by repeat first|assumption|exact Upd.here|apply Upd.there), ?_⟩
 refine SX.val rfl (Val.move rfl) (by simp) rfl rfl ?_
 refine SX.val rfl (Val.extract rfl rfl) (by simp) rfl rfl ?_
 refine SX.val rfl (Val.extract rfl rfl) (by simp) rfl rfl ?_
 refine SX.val rfl (Val.assign rfl) (by simp) rfl rfl ?_
 refine SX.val rfl (Val.assign rfl) (by simp) rfl rfl ?_
 refine SX.nil (SE.seq ?_)
 refine SC.seq ?_
 refine SC.nod fun hnod => ?_
 have hb6 : b6 ∉ (It.pc (exP b20 4 z.2.1 z.2.2.2)).mids := nod_head hnod (by repeat first|assumption|exact m0_|apply m1_)
 refine SC.draw (It.pc (exP b20 4 z.2.1 z.2.2.2)).mids (.q 0 (.q 1 (.q 4 (.q 5 (.e 2 (.q 3 (.e 6 (.q 7 (.q 8 (.q 9 (.q 10 (.q 11 .nil)))))))))))) (by kernel_rfl) (by kernel_rfl) ?_
 refine SX.hx (fun k hk => mids_mem.2 ⟨_, (by repeat first|assumption|exact m0_|apply m1_), hk⟩) fun hx9 => ?_
 refine SX.val rfl (Val.move rfl) hx9 rfl rfl ?_
 refine SX.val rfl (Val.move rfl) hx9 rfl rfl ?_
 refine SX.val rfl (Val.fieldAddr tabOk rfl rfl rfl rfl rfl) hx9 rfl rfl ?_
 refine SX.val rfl (Val.to (C := entsR (l[z.1]'hlt).batch) (Val.load1 tabOk rfl rfl (by repeat first|assumption|exact o0_|exact o1_|apply o2_) hb6 (by rfl)) rfl) hx9 rfl rfl ?_
 refine SX.call rfl (excur_s (b := b20) (x := z.2.1) (r := z.2.2.2) (n := 4)) mids_one Casts.refl (by kernel_rfl) rfl rfl rfl ?_
 refine After.one rfl (by repeat first|assumption|exact m0_|apply m1_) (fun _ => rfl) ?_
 intro _
 refine ⟨_, (by repeat first|assumption|exact Upd.here|apply Upd.there), ?_⟩
 refine SX.hx (fun k hk => mids_mem.2 ⟨_, (by repeat first|assumption|exact m0_|apply m1_), hk⟩) fun hx9 => ?_
 refine SX.val rfl (Val.addI rfl rfl (by simp only [InR, lo, hi]; omega)) hx9 rfl rfl ?_
 refine SX.callX ([]) rfl (exdo_s (b := b20) (x := z.2.1) (r := z.2.2.2) (n := 4) (seq := z.2.1.l.seq + 1) (es := (l[z.1]'hlt).batch) (j := z.1) he hr hae.batch hfw.len (by omega) hz.2.1) mids_oneG (by simp) Casts.refl (by kernel_rfl) rfl rfl rfl ?_
 refine After.oneR (ys := (globs e1 e2)) rfl (by repeat first|assumption|exact m0_|apply m1_) (by intro y hy; simp only [globs, List.mem_cons, List.not_mem_nil, or_false] at hy; rcases hy with rfl | rfl | rfl <;> exact ⟨by repeat first|assumption|exact m0_|apply m1_, by intro h; cases h⟩) rfl (fun _ => rfl) ?_
 intro r20
 refine ⟨_, (by repeat first|assumption|exact Upd.here|apply Upd.there), ?_⟩
 refine SX.val rfl (Val.move rfl) (by simp) rfl rfl ?_
 refine SX.val rfl (Val.extract rfl rfl) (by simp) rfl rfl ?_
 refine SX.val rfl (Val.extract rfl rfl) (by simp) rfl rfl ?_
 refine SX.val rfl (Val.assign rfl) (by simp) rfl rfl ?_
 refine SX.val rfl (Val.assign rfl) (by simp) rfl rfl ?_
 refine SX.nil (SE.seq ?_)
 refine SC.seq ?_
 refine SC.seq (SC.region ?_)
 iterate 2 refine SL.val (Val.move rfl) rfl rfl ?_
 refine SL.val (Val.to (C := boo false) (Val.neI rfl rfl) (congrArg (fun b => Abs.v (Value.bool b)) (by simp))) rfl rfl ?_
 iterate 2 refine SL.val (Val.move rfl) rfl rfl ?_
 refine SL.val (Val.to (C := int (((z.2.1.doO 4 (z.2.1.l.seq + 1) (l[z.1]'hlt).batch).length : Nat) : Int)) (Val.lenSl (m := (z.2.1.doO 4 (z.2.1.l.seq + 1) (l[z.1]'hlt).batch).length) rfl Tryz.underlying28 (List.length_map _)) rfl) rfl rfl ?_
 refine SL.val (Val.move rfl) rfl rfl ?_
 refine SL.val (Val.to (C := int (((z.2.1.doO 4 (z.2.1.l.seq + 1) (l[z.1]'hlt).batch).length : Nat) : Int)) (Val.lenSl (m := (z.2.1.doO 4 (z.2.1.l.seq + 1) (l[z.1]'hlt).batch).length) rfl Tryz.underlying28 (List.length_map _)) rfl) rfl rfl ?_
 refine SL.val (Val.to (C := boo false) (Val.neI rfl rfl) (congrArg (fun b => Abs.v (Value.bool b)) (by simp))) rfl rfl ?_
 refine SL.val (Val.pickF rfl rfl) rfl rfl ?_
 refine SL.nil (SE.seq ?_)
 refine SC.condF rfl ?_
 refine SC.skip ?_
 refine SE.seq ?_
 refine SC.seq (SC.region ?_)
 refine SL.val (Val.move rfl) rfl rfl ?_
 refine SL.val (Val.to (C := int (((z.2.1.doO 4 (z.2.1.l.seq + 1) (l[z.1]'hlt).batch).length : Nat) : Int)) (Val.lenSl (m := (z.2.1.doO 4 (z.2.1.l.seq + 1) (l[z.1]'hlt).batch).length) rfl Tryz.underlying28 (List.length_map _)) rfl) rfl rfl ?_
 refine SL.val (Val.move rfl) rfl rfl ?_
 refine SL.nil (SE.seq ?_)
 refine SC.block ?_
 refine SC.rowLe (i := 61) rfl fun hrow => ?_
 rw [List.length_map] at hrow
 unfold maxLen at hrow
 refine SC.loop (ι := Nat) (fun y => (.pc (exP b20 4 (z.2.1.doX 4 (z.2.1.l.seq + 1) (l[z.1]'hlt).batch) r20) :: .pc (exP b19 4 (z.2.1.doX 4 (z.2.1.l.seq + 1) (l[z.1]'hlt).batch) r19) :: (globs e1 e2))) (fun y => [(3, ptr b19), (4, ptr b20), (21, actsX l), (22, int (l.length : Nat)), (23, int (z.1 : Nat)), (7, outA (z.2.1.doO 4 (z.2.1.l.seq + 1) (l[z.1]'hlt).batch)), (9, outA (z.2.1.doO 4 (z.2.1.l.seq + 1) (l[z.1]'hlt).batch)), (62, int ((z.2.1.doO 4 (z.2.1.l.seq + 1) (l[z.1]'hlt).batch).length : Nat)), (63, int (y : Nat))]) (fun y => y ≤ (z.2.1.doO 4 (z.2.1.l.seq + 1) (l[z.1]'hlt).batch).length) (fun y => (z.2.1.doO 4 (z.2.1.l.seq + 1) (l[z.1]'hlt).batch).length - y) (0) (Nat.zero_le _) (by exact ⟨rfl, rfl, rfl, rfl, rfl, rfl, rfl, rfl, rfl, trivial⟩) (by repeat first|exact s0_ _|exact s1_ _|apply s2_|apply s3_) ?_
 intro y hy
 refine SC.seq (SC.region ?_)
 refine SL.val (Val.ltI rfl rfl) rfl rfl ?_
 refine SL.nil (SE.seq ?_)
 refine SC.seq ?_
 refine SC.condP rfl ?_ ?_
 rotate_left
 ·intro hc64
  refine SC.exit ?_
  refine SE.then_ nofun ?_
  refine SE.then_ nofun ?_
  refine SE.exit ?_
  refine SE.inBlock ?_
  refine SE.seq ?_
  refine SC.region ?_
  first
   | refine SL.val (Val.addI rfl rfl (by simp only [InR, lo, hi]; omega)) rfl rfl ?_
   | refine SL.val (Val.addW rfl rfl) rfl rfl ?_
  refine SL.val (Val.move rfl) rfl rfl ?_
  refine SL.nil ?_
  refine SE.round (z.1 + 1, (z.2.1.doX 4 (z.2.1.l.seq + 1) (l[z.1]'hlt).batch), r19, r20) (by first | omega | (dsimp only; omega)) (⟨by dsimp only; omega, hz.2.1.do_ hae.batch hfw.szs hfw.len, do_keep hz.2.2⟩) (by exact ⟨rfl, rfl, rfl, rfl, rfl, trivial⟩) (by repeat first|exact s0_ _|exact s1_ _|apply s2_|apply s3_)
 intro hc64
 have hyl : y < (z.2.1.doO 4 (z.2.1.l.seq + 1) (l[z.1]'hlt).batch).length := by omega
 have hoo : OcIns ((z.2.1.doO 4 (z.2.1.l.seq + 1) (l[z.1]'hlt).batch)[y]'hyl) := doO_ins hae.batch _ (List.getElem_mem hyl)
 refine SC.skip ?_
 refine SE.seq ?_
 refine SC.seq ?_
 refine SC.block ?_
 refine SC.seq (SC.region ?_)
 refine SL.val (Val.move rfl) rfl rfl ?_
 refine SL.val (Val.assign rfl) rfl rfl ?_
 refine SL.nil (SE.seq ?_)
 refine SC.seq ?_
 refine SC.draw [] (.q 0 (.q 1 (.q 2 (.q 3 (.q 4 (.q 5 (.q 6 (.q 7 (.q 8 .nil))))))))) (by kernel_rfl) (by kernel_rfl) ?_
 refine SX.val rfl (Val.move rfl) (by simp) rfl rfl ?_
 refine SX.val rfl (Val.move rfl) (by simp) rfl rfl ?_
 refine SX.hx (by first|(simp[mids,It.mids,ownPc];done)|(intro k hk;simp[mids,It.mids,ownPc] at hk ⊢;grind)) fun hx9 => ?_
 refine SX.val rfl (Val.indexSl (q := y) (cs := Oc.abs ((z.2.1.doO 4 (z.2.1.l.seq + 1) (l[z.1]'hlt).batch)[y]'hyl)) tabOk Tryz.underlying28 rfl rfl rfl rfl (by rw [List.getElem?_map, List.getElem?_eq_getElem hyl]; rfl) rfl rfl) hx9 rfl rfl ?_
 refine SX.val rfl (Val.loadAR tabOk rfl rfl rfl (by rfl)) hx9 rfl rfl ?_
 refine SX.val rfl (Val.move rfl) (by simp) rfl rfl ?_
 refine SX.val rfl (Val.move rfl) (by simp) rfl rfl ?_
 refine SX.val rfl (Val.indexSl (q := y) (cs := Oc.abs ((z.2.1.doO 4 (z.2.1.l.seq + 1) (l[z.1]'hlt).batch)[y]'hyl)) tabOk Tryz.underlying28 rfl rfl rfl rfl (by rw [List.getElem?_map, List.getElem?_eq_getElem hyl]; rfl) rfl rfl) hx9 rfl rfl ?_
 refine SX.val rfl (Val.loadAR tabOk rfl rfl rfl (by rfl)) hx9 rfl rfl ?_
 refine SX.val rfl (Val.to (C := boo false) (Val.neA rfl rfl (oc_plains _) (oc_plains _) (by kernel_rfl) (neqOc hoo hoo)) (congrArg (fun b => Abs.v (Value.bool b)) (by simp))) hx9 rfl rfl ?_
 refine SX.nil (SE.seq ?_)
 refine SC.condF rfl ?_
 refine SC.skip ?_
 refine SE.inBlock ?_
 refine SE.seq ?_
 refine SC.region ?_
 first
  | refine SL.val (Val.addI rfl rfl (by simp only [InR, lo, hi]; omega)) rfl rfl ?_
  | refine SL.val (Val.addW rfl rfl) rfl rfl ?_
 refine SL.val (Val.move rfl) rfl rfl ?_
 refine SL.nil ?_
 refine SE.round (y + 1) (by first | omega | (dsimp only; omega)) (by first | omega | (dsimp only; omega)) (by exact ⟨rfl, rfl, rfl, rfl, rfl, rfl, rfl, rfl, rfl, trivial⟩) (by repeat first|exact s0_ _|exact s1_ _|apply s2_|apply s3_)
end
end Go.Proofs.YtickdhjljpnlpaaGreatDoor.A
