/-
  Packed out of the texts: PT11, PT12, PT13, PT14.
-/
import Derived.Test.YtjbikemecdlolaaR07
/-
  Points: the document's rows.
-/
set_option maxRecDepth 100000
set_option linter.unusedSimpArgs false
set_option linter.unusedVariables false
namespace Go.Proofs.Ytjbikemecdlolaa.A
open Go.RowKit

theorem dthere_yes {l : List Pnt} {k : Int} {z : Nat} (hr : Rising l) (h : lbP l k = z) (hz : z < l.length) : thereP l k = decide (l[z].seq = k) := by
  subst h
  rw [Bool.eq_iff_iff, thereP_at hr, decide_eq_true_eq]
  exact ⟨fun ⟨_, h⟩ => h, fun h => ⟨hz, h⟩⟩
theorem dthere_no {l : List Pnt} {k : Int} {z : Nat} (hr : Rising l) (h : lbP l k = z) (hz : ¬ z < l.length) : thereP l k = false := by
  subst h
  rw [Bool.eq_false_iff]
  intro h2
  obtain ⟨h3, _⟩ := (thereP_at hr).1 h2
  exact hz h3
section
variable {n me : Nat} {om : List (Int × Ow)} {vs : List (List Pnt)} {bp bm : Nat} {vv : Value} {x y : Pnt} {who k low above at_ : Int} {o : Ow} {l m : List Pnt} {q : Nat} {ov rv : Value} {dvs : List (List Pnt)}
theorem dplace_s (hr : Rising l) (hn : l.length ≤ 1000000) : Spec Try.prog 42 [pntsA l, int k] [] (fun _ : Unit => []) (fun _ => .tup [int (lbP l k : Nat), boo (thereP l k)]) := by
 refine spec_of Try.func42 rfl Try.ntmps42 rfl fun G w => ?_
 refine SC.seq (SC.region ?_)
 iterate 2 refine SL.val (Val.assign rfl) rfl rfl ?_
 refine SL.nil (SE.seq ?_)
 refine SC.seq (SC.region ?_)
 refine SL.val (Val.assign rfl) rfl rfl ?_
 refine SL.nil (SE.seq ?_)
 refine SC.cutS (ι := Nat) (fun z => []) (fun z => [(0, pntsA l), (1, int k), (6, int (z : Nat))]) (fun z => z ≤ l.length ∧ lbP l k = z) ?_ ?_
 ·skip
  refine SC.block ?_
  refine SC.loop (ι := Nat) (fun z => []) (fun z => [(0, pntsA l), (1, int k), (6, int (z : Nat))]) (fun z => z ≤ l.length ∧ ∀ j (hj : j < l.length), j < z → l[j].seq < k) (fun z => l.length - z) (0) (⟨Nat.zero_le _, fun j hj h => by omega⟩) (by exact ⟨rfl, rfl, rfl, trivial⟩) (by repeat first|exact s0_ _|exact s1_ _|apply s2_|apply s3_) ?_
  intro z hz
  refine SC.seq ?_
  refine SC.seq (SC.region ?_)
  iterate 2 refine SL.val (Val.move rfl) rfl rfl ?_
  first
   | refine SL.val (Val.lenSl rfl Try.underlying40 (List.length_map _)) rfl rfl ?_
   | refine SL.val (Val.lenOwn rfl (by repeat first|assumption|exact m0_|apply m1_) Try.underlying40 (List.length_map _)) rfl rfl ?_
   | refine SL.val (Val.lenNil rfl Try.underlying40) rfl rfl ?_
  refine SL.val (Val.ltI rfl rfl) rfl rfl ?_
  refine SL.val (Val.move rfl) rfl rfl ?_
  refine SL.bothP (t := 11) rfl ?_ ?_
  rotate_left
  ·intro hc11
   iterate 7 refine SL.skip rfl rfl ?_
   refine SL.val (Val.pickF rfl rfl) rfl rfl ?_
   refine SL.nil (SE.seq ?_)
   refine SC.condF rfl ?_
   refine SC.exit ?_
   refine SE.then_ nofun ?_
   refine SE.then_ nofun ?_
   refine SE.exit ?_
   refine SE.meet (z) (⟨hz.1, lbP_eq hr hz.1 hz.2 fun j hj h => by
    rcases Nat.lt_or_ge z l.length with h1 | h1
    ·have h2 : ¬ (l[z]'h1).seq < k := by first | exact hc19 | omega
     rcases Nat.lt_or_ge z j with h3 | h3
     ·have := List.pairwise_iff_getElem.1 hr z j h1 hj h3; omega
     ·obtain rfl : j = z := (by omega)
      exact h2
    ·omega⟩) (by exact ⟨rfl, rfl, rfl, trivial⟩) (by repeat first|exact s0_ _|exact s1_ _|apply s2_|apply s3_)
  intro hc11
  have hlt : z < l.length := by omega
  iterate 2 refine SL.val (Val.move rfl) rfl rfl ?_
  refine SL.val (Val.indexSl (q := z) tabOk Try.underlying40 rfl rfl rfl rfl (at_map (by omega)) rfl rfl) rfl rfl ?_
  first
   | refine SL.val (Val.fieldAddr tabOk rfl rfl rfl rfl rfl) rfl rfl ?_
   | refine SL.val (Val.fieldAddrR tabOk rfl rfl rfl rfl rfl) rfl rfl ?_
  refine SL.val (Val.to (C := int ((l[z]'(by omega)).seq)) (Val.load1R tabOk rfl rfl rfl) rfl) rfl rfl ?_
  refine SL.val (Val.move rfl) rfl rfl ?_
  refine SL.val (Val.ltI rfl rfl) rfl rfl ?_
  refine SL.val (Val.pickT rfl rfl) rfl rfl ?_
  refine SL.nil (SE.seq ?_)
  refine SC.condP rfl ?_ ?_
  rotate_left
  ·intro hc19
   refine SC.exit ?_
   refine SE.then_ nofun ?_
   refine SE.then_ nofun ?_
   refine SE.exit ?_
   refine SE.meet (z) (⟨hz.1, lbP_eq hr hz.1 hz.2 fun j hj h => by
    rcases Nat.lt_or_ge z l.length with h1 | h1
    ·have h2 : ¬ (l[z]'h1).seq < k := by first | exact hc19 | omega
     rcases Nat.lt_or_ge z j with h3 | h3
     ·have := List.pairwise_iff_getElem.1 hr z j h1 hj h3; omega
     ·obtain rfl : j = z := (by omega)
      exact h2
    ·omega⟩) (by exact ⟨rfl, rfl, rfl, trivial⟩) (by repeat first|exact s0_ _|exact s1_ _|apply s2_|apply s3_)
  intro hc19
  refine SC.skip ?_
  refine SE.seq ?_
  refine SC.block ?_
  refine SC.region ?_
  refine SL.val (Val.move rfl) rfl rfl ?_
  first
   | refine SL.val (Val.addI rfl rfl (by simp only [InR, lo, hi]; omega)) rfl rfl ?_
   | refine SL.val (Val.addW rfl rfl) rfl rfl ?_
  refine SL.val (Val.assign rfl) rfl rfl ?_
  refine SL.nil ?_
  refine SE.inBlock ?_
  refine SE.round (z + 1) (by first | omega | (dsimp only; omega)) (⟨by omega, fun j hj h => by
   rcases Nat.lt_or_ge j z with h1 | h1
   ·exact hz.2 j hj h1
   ·obtain rfl : j = z := (by omega)
    exact hc19⟩) (by exact ⟨rfl, rfl, rfl, trivial⟩) (by repeat first|exact s0_ _|exact s1_ _|apply s2_|apply s3_)
 ·intro z hz
  refine SC.seq ?_
  refine SC.draw [] (.q 0 (.q 1 (.q 2 (.q 3 (.q 4 (.q 5 (.q 6 (.q 7 (.q 8 (.q 9 (.q 10 (.q 11 (.q 12 (.q 13 (.q 14 (.q 15 .nil)))))))))))))))) (by kernel_rfl) (by kernel_rfl) ?_
  refine SX.val rfl (Val.move rfl) (by simp) rfl rfl ?_
  refine SX.val rfl (Val.move rfl) (by simp) rfl rfl ?_
  refine SX.val rfl (Val.move rfl) (by simp) rfl rfl ?_
  first
   | refine SX.val rfl (Val.lenSl rfl Try.underlying40 (List.length_map _)) (by simp) rfl rfl ?_
   | refine SX.val rfl (Val.lenOwn rfl (by repeat first|assumption|exact m0_|apply m1_) Try.underlying40 (List.length_map _)) (by simp) rfl rfl ?_
   | refine SX.val rfl (Val.lenNil rfl Try.underlying40) (by simp) rfl rfl ?_
  refine SX.val rfl (Val.ltI rfl rfl) (by simp) rfl rfl ?_
  refine SX.val rfl (Val.move rfl) (by simp) rfl rfl ?_
  refine SX.bothP (t := 27) rfl ?_ ?_
  rotate_left
  ·intro hc27
   iterate 7 refine SX.skip rfl rfl rfl ?_
   refine SX.val rfl (Val.pickF rfl rfl) (by simp) rfl rfl ?_
   refine SX.val rfl (Val.assign rfl) (by simp) rfl rfl ?_
   refine SX.val rfl (Val.assign rfl) (by simp) rfl rfl ?_
   refine SX.nil (SE.seq ?_)
   refine SC.ret ?_
   refine SE.fin (rs := [.tmp 4, .tmp 5]) rfl (RV.tmp rfl (RV.tmp rfl RV.nil)) (()) (by repeat first|exact s0_ _|exact s1_ _|apply s2_|apply s3_) (by simp [It.rids]) ?_
   rw [hz.2, dthere_no hr hz.2 (by omega)]
   rfl
  intro hc27
  have hlt2 : z < l.length := by omega
  refine SX.val rfl (Val.move rfl) (by simp) rfl rfl ?_
  refine SX.val rfl (Val.move rfl) (by simp) rfl rfl ?_
  refine SX.hx (by first|(simp[mids,It.mids,ownPc];done)|(intro k hk;simp[mids,It.mids,ownPc] at hk ⊢;grind)) fun hx9 => ?_
  refine SX.val rfl (Val.indexSl (q := z) tabOk Try.underlying40 rfl rfl rfl rfl (at_map (by omega)) rfl rfl) hx9 rfl rfl ?_
  first
   | refine SX.val rfl (Val.fieldAddr tabOk rfl rfl rfl rfl rfl) (by simp) rfl rfl ?_
   | refine SX.val rfl (Val.fieldAddrR tabOk rfl rfl rfl rfl rfl) (by simp) rfl rfl ?_
  refine SX.val rfl (Val.to (C := int ((l[z]'(by omega)).seq)) (Val.load1R tabOk rfl rfl rfl) rfl) hx9 rfl rfl ?_
  refine SX.val rfl (Val.move rfl) (by simp) rfl rfl ?_
  refine SX.val rfl (Val.eqI rfl rfl) (by simp) rfl rfl ?_
  refine SX.val rfl (Val.pickT rfl rfl) (by simp) rfl rfl ?_
  refine SX.val rfl (Val.assign rfl) (by simp) rfl rfl ?_
  refine SX.val rfl (Val.assign rfl) (by simp) rfl rfl ?_
  refine SX.nil (SE.seq ?_)
  refine SC.ret ?_
  refine SE.fin (rs := [.tmp 4, .tmp 5]) rfl (RV.tmp rfl (RV.tmp rfl RV.nil)) (()) (by repeat first|exact s0_ _|exact s1_ _|apply s2_|apply s3_) (by simp [It.rids]) ?_
  rw [hz.2, dthere_yes hr hz.2 hlt2]
  rfl
theorem dinsert_s (hq : q ≤ l.length) (hn : l.length ≤ 100000) : Spec Try.prog 43 [pntsA l, int (q : Nat), .agg x.abs] [] (fun _ : Unit => []) (fun _ => pntsA (l.take q ++ x :: l.drop q)) := by
 refine spec_of Try.func43 rfl Try.ntmps43 rfl fun G w => ?_
 refine SC.seq (SC.region ?_)
 refine SL.eff (Eff.boxA (cs := x.abs) rfl) rfl rfl ?_
 rintro _ _ ⟨b5, rfl, rfl⟩
 refine SL.val (Val.assign rfl) rfl rfl ?_
 refine SL.nil (SE.seq ?_)
 refine SC.seq ?_
 refine SC.draw [] (.q 1 (.q 2 (.q 3 (.q 5 (.q 8 (.q 9 (.q 10 (.two 0 6 (.two 4 6 (.e 6 (.e 7 (.e 11 (.q 12 .nil)))) (.e 4 (.e 7 (.e 11 (.q 12 .nil))))) (.e 0 (.e 4 (.e 7 (.e 11 (.q 12 .nil))))))))))))) (by kernel_rfl) (by kernel_rfl) ?_
 refine SX.val rfl (Val.move rfl) (by simp) rfl rfl ?_
 refine SX.val rfl (Val.move rfl) (by simp) rfl rfl ?_
 refine SX.hx (by first|(simp[mids,It.mids,ownPc];done)|(intro k hk;simp[mids,It.mids,ownPc] at hk ⊢;grind)) fun hx9 => ?_
 refine SX.val rfl (Val.to (C := pntsA (l.take q)) (Val.sliceHi (q := q) tabOk Try.underlying40 rfl rfl rfl rfl rfl (by rw [List.length_map]; omega)) (congrArg (Abs.sl 33) List.map_take.symm)) hx9 rfl rfl ?_
 refine SX.val rfl (Val.to (C := .agg x.abs) (Val.loadA tabOk rfl rfl rfl (by repeat first|assumption|exact o0_|exact o1_|apply o2_) List.not_mem_nil (Pnt.size _)) rfl) hx9 rfl rfl ?_
 refine SX.val rfl (Val.move rfl) (by simp) rfl rfl ?_
 refine SX.val rfl (Val.move rfl) (by simp) rfl rfl ?_
 refine SX.val rfl (Val.to (C := pntsA (l.drop q)) (Val.sliceLo (q := q) tabOk Try.underlying40 rfl rfl rfl rfl rfl (by rw [List.length_map]; omega)) (congrArg (Abs.sl 33) List.map_drop.symm)) hx9 rfl rfl ?_
 refine SX.two ?_ ?_
 ·skip
  refine SX.effN [] [] rfl (Eff.buildOwn tabOk Try.underlying40 rfl rfl rfl rfl rfl rfl rfl) rfl (by first | exact own_mid List.mem_cons_self | (simp; done)) rfl rfl ?_
  rintro _ _ ⟨r7, rfl, rfl⟩
  refine ⟨[own 27 33 r7 []], rfl, ?_⟩
  refine SX.two ?_ ?_
  ·skip
   refine SX.effN [own 27 33 r7 []] [] rfl (Eff.appendE (zs := (l.take q).map Pnt.abs) tabOk [] rfl Try.underlying40 rfl rfl rfl rfl rfl rfl (pnts_ones _) (by unfold maxLen; simp only [List.length_nil, List.length_append, List.length_map, List.length_take, List.length_drop, List.length_cons]; omega) (by rw [show Try.prog.bytesOf 27 = 40 by kernel_rfl]; simp only [List.length_nil, List.length_append, List.length_map, List.length_take, List.length_drop, List.length_cons]; omega)) rfl (by first | exact own_mid List.mem_cons_self | (simp; done)) rfl rfl ?_
   rintro _ _ ⟨r11, rfl, rfl⟩
   refine ⟨[own 27 33 r11 ((l.take q).map Pnt.abs)], rfl, ?_⟩
   refine SX.eff rfl (Eff.buildSl tabOk Try.underlying40 rfl rfl rfl (elems_one x.size) rfl rfl rfl) (by simp) rfl rfl ?_
   rintro _ _ ⟨rfl, rfl⟩
   refine SX.effN [own 27 33 r11 ((l.take q).map Pnt.abs)] [] rfl (Eff.appendE (zs := (l.take q ++ [x]).map Pnt.abs) tabOk [] (by rw [List.map_append]; rfl) Try.underlying40 rfl rfl rfl rfl rfl rfl (by intro c hc; rw [List.mem_singleton] at hc; subst hc; exact Pnt.ones _) (by unfold maxLen; simp only [List.length_nil, List.length_append, List.length_map, List.length_take, List.length_drop, List.length_cons]; omega) (by rw [show Try.prog.bytesOf 27 = 40 by kernel_rfl]; simp only [List.length_nil, List.length_append, List.length_map, List.length_take, List.length_drop, List.length_cons]; omega)) rfl (by first | exact own_mid List.mem_cons_self | (simp; done)) rfl rfl ?_
   rintro _ _ ⟨r14, rfl, rfl⟩
   refine ⟨[own 27 33 r14 ((l.take q ++ [x]).map Pnt.abs)], rfl, ?_⟩
   refine SX.effN [own 27 33 r14 ((l.take q ++ [x]).map Pnt.abs)] [] rfl (Eff.frozen [] (Eff.appendE (zs := (l.take q ++ x :: l.drop q).map Pnt.abs) tabOk [] (by simp only [List.map_append, List.map_cons, List.map_nil, List.append_assoc, List.singleton_append]) Try.underlying40 rfl rfl rfl rfl rfl rfl (pnts_ones _) (by unfold maxLen; simp only [List.length_nil, List.length_append, List.length_map, List.length_take, List.length_drop, List.length_cons]; omega) (by rw [show Try.prog.bytesOf 27 = 40 by kernel_rfl]; simp only [List.length_nil, List.length_append, List.length_map, List.length_take, List.length_drop, List.length_cons]; omega))) rfl (by first | exact own_mid List.mem_cons_self | (simp; done)) rfl rfl ?_
   rintro _ _ ⟨rfl, rfl⟩
   refine ⟨[], rfl, ?_⟩
   refine SX.val rfl (Val.assign rfl) (by simp [mids]) rfl rfl ?_
   refine SX.nil (SE.seq ?_)
   refine SC.ret ?_
   refine SE.fin (rs := [.tmp 6]) rfl (RV.tmp rfl RV.nil) (()) (by repeat first|exact s0_ _|exact s1_ _|apply s2_|apply s3_) (by simp [It.rids]) ?_
   exact rfl
  ·skip
   refine SX.eff rfl (Eff.buildSl tabOk Try.underlying40 rfl rfl rfl (elems_one x.size) rfl rfl rfl) (by simp) rfl rfl ?_
   rintro _ _ ⟨rfl, rfl⟩
   refine SX.effN [own 27 33 r7 []] [] rfl (Eff.appendE (zs := (l.take q).map Pnt.abs) tabOk [] rfl Try.underlying40 rfl rfl rfl rfl rfl rfl (pnts_ones _) (by unfold maxLen; simp only [List.length_nil, List.length_append, List.length_map, List.length_take, List.length_drop, List.length_cons]; omega) (by rw [show Try.prog.bytesOf 27 = 40 by kernel_rfl]; simp only [List.length_nil, List.length_append, List.length_map, List.length_take, List.length_drop, List.length_cons]; omega)) rfl (by first | exact own_mid List.mem_cons_self | (simp; done)) rfl rfl ?_
   rintro _ _ ⟨r11, rfl, rfl⟩
   refine ⟨[own 27 33 r11 ((l.take q).map Pnt.abs)], rfl, ?_⟩
   refine SX.effN [own 27 33 r11 ((l.take q).map Pnt.abs)] [] rfl (Eff.appendE (zs := (l.take q ++ [x]).map Pnt.abs) tabOk [] (by rw [List.map_append]; rfl) Try.underlying40 rfl rfl rfl rfl rfl rfl (by intro c hc; rw [List.mem_singleton] at hc; subst hc; exact Pnt.ones _) (by unfold maxLen; simp only [List.length_nil, List.length_append, List.length_map, List.length_take, List.length_drop, List.length_cons]; omega) (by rw [show Try.prog.bytesOf 27 = 40 by kernel_rfl]; simp only [List.length_nil, List.length_append, List.length_map, List.length_take, List.length_drop, List.length_cons]; omega)) rfl (by first | exact own_mid List.mem_cons_self | (simp; done)) rfl rfl ?_
   rintro _ _ ⟨r14, rfl, rfl⟩
   refine ⟨[own 27 33 r14 ((l.take q ++ [x]).map Pnt.abs)], rfl, ?_⟩
   refine SX.effN [own 27 33 r14 ((l.take q ++ [x]).map Pnt.abs)] [] rfl (Eff.frozen [] (Eff.appendE (zs := (l.take q ++ x :: l.drop q).map Pnt.abs) tabOk [] (by simp only [List.map_append, List.map_cons, List.map_nil, List.append_assoc, List.singleton_append]) Try.underlying40 rfl rfl rfl rfl rfl rfl (pnts_ones _) (by unfold maxLen; simp only [List.length_nil, List.length_append, List.length_map, List.length_take, List.length_drop, List.length_cons]; omega) (by rw [show Try.prog.bytesOf 27 = 40 by kernel_rfl]; simp only [List.length_nil, List.length_append, List.length_map, List.length_take, List.length_drop, List.length_cons]; omega))) rfl (by first | exact own_mid List.mem_cons_self | (simp; done)) rfl rfl ?_
   rintro _ _ ⟨rfl, rfl⟩
   refine ⟨[], rfl, ?_⟩
   refine SX.val rfl (Val.assign rfl) (by simp [mids]) rfl rfl ?_
   refine SX.nil (SE.seq ?_)
   refine SC.ret ?_
   refine SE.fin (rs := [.tmp 6]) rfl (RV.tmp rfl RV.nil) (()) (by repeat first|exact s0_ _|exact s1_ _|apply s2_|apply s3_) (by simp [It.rids]) ?_
   exact rfl
 ·skip
  refine SX.eff rfl (Eff.buildSl tabOk Try.underlying40 rfl rfl rfl (elems_one x.size) rfl rfl rfl) (by simp) rfl rfl ?_
  rintro _ _ ⟨rfl, rfl⟩
  refine SX.effN [] [] rfl (Eff.buildOwn tabOk Try.underlying40 rfl rfl rfl rfl rfl rfl rfl) rfl (by first | exact own_mid List.mem_cons_self | (simp; done)) rfl rfl ?_
  rintro _ _ ⟨r7, rfl, rfl⟩
  refine ⟨[own 27 33 r7 []], rfl, ?_⟩
  refine SX.effN [own 27 33 r7 []] [] rfl (Eff.appendE (zs := (l.take q).map Pnt.abs) tabOk [] rfl Try.underlying40 rfl rfl rfl rfl rfl rfl (pnts_ones _) (by unfold maxLen; simp only [List.length_nil, List.length_append, List.length_map, List.length_take, List.length_drop, List.length_cons]; omega) (by rw [show Try.prog.bytesOf 27 = 40 by kernel_rfl]; simp only [List.length_nil, List.length_append, List.length_map, List.length_take, List.length_drop, List.length_cons]; omega)) rfl (by first | exact own_mid List.mem_cons_self | (simp; done)) rfl rfl ?_
  rintro _ _ ⟨r11, rfl, rfl⟩
  refine ⟨[own 27 33 r11 ((l.take q).map Pnt.abs)], rfl, ?_⟩
  refine SX.effN [own 27 33 r11 ((l.take q).map Pnt.abs)] [] rfl (Eff.appendE (zs := (l.take q ++ [x]).map Pnt.abs) tabOk [] (by rw [List.map_append]; rfl) Try.underlying40 rfl rfl rfl rfl rfl rfl (by intro c hc; rw [List.mem_singleton] at hc; subst hc; exact Pnt.ones _) (by unfold maxLen; simp only [List.length_nil, List.length_append, List.length_map, List.length_take, List.length_drop, List.length_cons]; omega) (by rw [show Try.prog.bytesOf 27 = 40 by kernel_rfl]; simp only [List.length_nil, List.length_append, List.length_map, List.length_take, List.length_drop, List.length_cons]; omega)) rfl (by first | exact own_mid List.mem_cons_self | (simp; done)) rfl rfl ?_
  rintro _ _ ⟨r14, rfl, rfl⟩
  refine ⟨[own 27 33 r14 ((l.take q ++ [x]).map Pnt.abs)], rfl, ?_⟩
  refine SX.effN [own 27 33 r14 ((l.take q ++ [x]).map Pnt.abs)] [] rfl (Eff.frozen [] (Eff.appendE (zs := (l.take q ++ x :: l.drop q).map Pnt.abs) tabOk [] (by simp only [List.map_append, List.map_cons, List.map_nil, List.append_assoc, List.singleton_append]) Try.underlying40 rfl rfl rfl rfl rfl rfl (pnts_ones _) (by unfold maxLen; simp only [List.length_nil, List.length_append, List.length_map, List.length_take, List.length_drop, List.length_cons]; omega) (by rw [show Try.prog.bytesOf 27 = 40 by kernel_rfl]; simp only [List.length_nil, List.length_append, List.length_map, List.length_take, List.length_drop, List.length_cons]; omega))) rfl (by first | exact own_mid List.mem_cons_self | (simp; done)) rfl rfl ?_
  rintro _ _ ⟨rfl, rfl⟩
  refine ⟨[], rfl, ?_⟩
  refine SX.val rfl (Val.assign rfl) (by simp [mids]) rfl rfl ?_
  refine SX.nil (SE.seq ?_)
  refine SC.ret ?_
  refine SE.fin (rs := [.tmp 6]) rfl (RV.tmp rfl RV.nil) (()) (by repeat first|exact s0_ _|exact s1_ _|apply s2_|apply s3_) (by simp [It.rids]) ?_
  exact rfl
theorem dsame_s (hl : ∀ p ∈ l, InR .i64 p.seq) (hm : ∀ p ∈ m, InR .i64 p.seq) (hn : l.length ≤ 1000000) : Spec Try.prog 25 [pntsA l, pntsA m] [] (fun _ : Unit => []) (fun _ => boo (decide (l = m))) := by
 refine spec_of Try.func25 rfl Try.ntmps25 rfl fun G w => ?_
 refine SC.seq (SC.region ?_)
 refine SL.val (Val.assign rfl) rfl rfl ?_
 refine SL.nil (SE.seq ?_)
 refine SC.seq ?_
 refine SC.seq (SC.region ?_)
 refine SL.val (Val.move rfl) rfl rfl ?_
 first
  | refine SL.val (Val.lenSl rfl Try.underlying40 (List.length_map _)) rfl rfl ?_
  | refine SL.val (Val.lenOwn rfl (by repeat first|assumption|exact m0_|apply m1_) Try.underlying40 (List.length_map _)) rfl rfl ?_
  | refine SL.val (Val.lenNil rfl Try.underlying40) rfl rfl ?_
 refine SL.val (Val.move rfl) rfl rfl ?_
 first
  | refine SL.val (Val.lenSl rfl Try.underlying40 (List.length_map _)) rfl rfl ?_
  | refine SL.val (Val.lenOwn rfl (by repeat first|assumption|exact m0_|apply m1_) Try.underlying40 (List.length_map _)) rfl rfl ?_
  | refine SL.val (Val.lenNil rfl Try.underlying40) rfl rfl ?_
 refine SL.val (Val.neI rfl rfl) rfl rfl ?_
 refine SL.nil (SE.seq ?_)
 refine SC.condP rfl ?_ ?_
 ·intro hc10
  refine SC.seq (SC.region ?_)
  refine SL.val (Val.assign rfl) rfl rfl ?_
  refine SL.nil (SE.seq ?_)
  refine SC.ret ?_
  refine SE.then_ nofun ?_
  refine SE.fin (rs := [.tmp 4]) rfl (RV.tmp rfl RV.nil) (()) (by repeat first|exact s0_ _|exact s1_ _|apply s2_|apply s3_) (by simp [It.rids]) ?_
  refine congrArg (fun b => Abs.v (Value.bool b)) (Eq.symm (decide_eq_false fun h => ?_))
  subst h
  omega
 intro hc10
 have hlen : l.length = m.length := by omega
 refine SC.skip ?_
 refine SE.seq ?_
 refine SC.seq ?_
 refine SC.seq (SC.region ?_)
 refine SL.val (Val.move rfl) rfl rfl ?_
 first
  | refine SL.val (Val.lenSl rfl Try.underlying40 (List.length_map _)) rfl rfl ?_
  | refine SL.val (Val.lenOwn rfl (by repeat first|assumption|exact m0_|apply m1_) Try.underlying40 (List.length_map _)) rfl rfl ?_
  | refine SL.val (Val.lenNil rfl Try.underlying40) rfl rfl ?_
 refine SL.val (Val.move rfl) rfl rfl ?_
 refine SL.nil (SE.seq ?_)
 refine SC.block ?_
 refine SC.loop (ι := Nat) (fun z => []) (fun z => [(0, pntsA l), (1, pntsA m), (12, int (l.length : Nat)), (13, int (z : Nat))]) (fun z => z ≤ l.length ∧ ∀ j (h1 : j < l.length) (h2 : j < m.length), j < z → l[j] = m[j]) (fun z => l.length - z) (0) (⟨Nat.zero_le _, fun j h1 h2 h => by omega⟩) (by exact ⟨rfl, rfl, rfl, rfl, trivial⟩) (by repeat first|exact s0_ _|exact s1_ _|apply s2_|apply s3_) ?_
 intro z hz
 refine SC.seq (SC.region ?_)
 refine SL.val (Val.ltI rfl rfl) rfl rfl ?_
 refine SL.nil (SE.seq ?_)
 refine SC.seq ?_
 refine SC.condP rfl ?_ ?_
 rotate_left
 ·intro hc14
  refine SC.exit ?_
  refine SE.then_ nofun ?_
  refine SE.then_ nofun ?_
  refine SE.exit ?_
  refine SE.seq ?_
  refine SC.seq (SC.region ?_)
  refine SL.val (Val.assign rfl) rfl rfl ?_
  refine SL.nil (SE.seq ?_)
  refine SC.ret ?_
  refine SE.fin (rs := [.tmp 4]) rfl (RV.tmp rfl RV.nil) (()) (by repeat first|exact s0_ _|exact s1_ _|apply s2_|apply s3_) (by simp [It.rids]) ?_
  refine congrArg (fun b => Abs.v (Value.bool b)) (Eq.symm (decide_eq_true ?_))
  exact List.ext_getElem hlen fun j h1 h2 => hz.2 j h1 h2 (by omega)
 intro hc14
 have hza : z < l.length := by omega
 have hzb : z < m.length := by omega
 refine SC.skip ?_
 refine SE.seq ?_
 refine SC.seq ?_
 refine SC.block ?_
 refine SC.seq (SC.region ?_)
 refine SL.val (Val.move rfl) rfl rfl ?_
 refine SL.val (Val.assign rfl) rfl rfl ?_
 refine SL.nil (SE.seq ?_)
 refine SC.seq ?_
 refine SC.draw [] (.q 0 (.q 1 (.q 2 (.q 3 (.q 4 (.q 5 (.q 6 (.q 7 (.q 8 .nil))))))))) (by kernel_rfl) (by kernel_rfl) ?_
 refine SX.val rfl (Val.move rfl) (by simp) rfl rfl ?_
 refine SX.val rfl (Val.move rfl) (by simp) rfl rfl ?_
 refine SX.val rfl (Val.indexSl tabOk Try.underlying40 rfl rfl rfl rfl (at_map (by omega)) rfl rfl) (by simp) rfl rfl ?_
 refine SX.hx (by first|(simp[mids,It.mids,ownPc];done)|(intro k hk;simp[mids,It.mids,ownPc] at hk ⊢;grind)) fun hx9 => ?_
 refine SX.val rfl (Val.loadAR tabOk rfl rfl rfl (Pnt.size _)) hx9 rfl rfl ?_
 refine SX.val rfl (Val.move rfl) (by simp) rfl rfl ?_
 refine SX.val rfl (Val.move rfl) (by simp) rfl rfl ?_
 refine SX.val rfl (Val.indexSl tabOk Try.underlying40 rfl rfl rfl rfl (at_map (by omega)) rfl rfl) (by simp) rfl rfl ?_
 refine SX.val rfl (Val.loadAR tabOk rfl rfl rfl (Pnt.size _)) hx9 rfl rfl ?_
 refine SX.val rfl (Val.neA rfl rfl (pnt_plains _) (pnt_plains _) (by kernel_rfl) (neqP (hl _ (List.getElem_mem hza)) (hm _ (List.getElem_mem hzb)))) hx9 rfl rfl ?_
 refine SX.nil (SE.seq ?_)
 refine SC.condP rfl ?_ ?_
 rotate_left
 ·intro hc24
  refine SC.skip ?_
  refine SE.inBlock ?_
  refine SE.seq ?_
  refine SC.region ?_
  first
   | refine SL.val (Val.addI rfl rfl (by simp only [InR, lo, hi]; omega)) rfl rfl ?_
   | refine SL.val (Val.addW rfl rfl) rfl rfl ?_
  refine SL.val (Val.move rfl) rfl rfl ?_
  refine SL.nil ?_
  refine SE.round (z + 1) (by first | omega | (dsimp only; omega)) (⟨by omega, fun j h1 h2 h3 => by
   rcases Nat.lt_or_ge j z with h4 | h4
   ·exact hz.2 j h1 h2 h4
   ·obtain rfl : j = z := (by omega)
    exact Classical.not_not.1 hc24⟩) (by exact ⟨rfl, rfl, rfl, rfl, trivial⟩) (by repeat first|exact s0_ _|exact s1_ _|apply s2_|apply s3_)
 intro hc24
 refine SC.seq (SC.region ?_)
 refine SL.val (Val.assign rfl) rfl rfl ?_
 refine SL.nil (SE.seq ?_)
 refine SC.ret ?_
 refine SE.ret ?_
 refine SE.then_ nofun ?_
 refine SE.then_ nofun ?_
 refine SE.ret ?_
 refine SE.then_ nofun ?_
 refine SE.fin (rs := [.tmp 4]) rfl (RV.tmp rfl RV.nil) (()) (by repeat first|exact s0_ _|exact s1_ _|apply s2_|apply s3_) (by simp [It.rids]) ?_
 refine congrArg (fun b => Abs.v (Value.bool b)) (Eq.symm (decide_eq_false fun h => ?_))
 subst h
 exact hc24 rfl
set_option maxHeartbeats 2000000 in
theorem dsup_s (hin : ∀ l ∈ dvs, (∀ p ∈ l, InR .i64 p.seq) ∧ l.length ≤ 100000) (hn7 : dvs.length ≤ 7) (hx : InR .i64 x.seq) : Spec Try.prog 24 [ptr bp, .agg x.abs] [.rd bp 53 [int (n : Nat), int (me : Nat), .v ov, .v rv], .rdpc (ownPc 40 1 ov (dvs.map fun l => [pntsA l]))] (fun _ : Unit => []) (fun _ => int (supD dvs x : Nat)) := by
 refine spec_of Try.func24 rfl Try.ntmps24 rfl fun G w => ?_
 refine SC.seq (SC.region ?_)
 refine SL.eff (Eff.boxA (cs := x.abs) rfl) rfl rfl ?_
 rintro _ _ ⟨b3, rfl, rfl⟩
 refine SL.val (Val.assign rfl) rfl rfl ?_
 refine SL.nil (SE.seq ?_)
 refine SC.seq (SC.region ?_)
 refine SL.val (Val.assign rfl) rfl rfl ?_
 refine SL.nil (SE.seq ?_)
 refine SC.seq ?_
 refine SC.seq (SC.region ?_)
 refine SL.val (Val.move rfl) rfl rfl ?_
 refine SL.val (Val.nilCheck rfl) rfl rfl ?_
 refine SL.val (Val.fieldAddr tabOk rfl rfl rfl rfl rfl) rfl rfl ?_
 refine SL.val (Val.load1 tabOk rfl rfl (by repeat first|assumption|exact o0_|exact o1_|apply o2_) List.not_mem_nil (by rfl)) rfl rfl ?_
 refine SL.val (Val.lenOwnR (m := dvs.length) rfl (by repeat first|assumption|exact o0_|exact o1_|apply o2_) Try.underlying50 (List.length_map _)) rfl rfl ?_
 refine SL.val (Val.move rfl) rfl rfl ?_
 refine SL.nil (SE.seq ?_)
 refine SC.block ?_
 refine SC.loop (ι := Nat × Unit) (fun z => [.blk b3 27 x.abs, .rd bp 53 [int (n : Nat), int (me : Nat), .v ov, .v rv], .rdpc (ownPc 40 1 ov (dvs.map fun l => [pntsA l]))]) (fun z => [(0, ptr bp), (3, ptr b3), (5, int ((supD (dvs.take z.1) x : Nat) : Int)), (13, .v ov), (14, int (dvs.length : Nat)), (15, int (z.1 : Nat))]) (fun z => z.1 ≤ dvs.length ∧ supD (dvs.take z.1) x ≤ z.1 * 100000) (fun z => dvs.length - z.1) (0, ()) (⟨Nat.zero_le _, Nat.le_refl _⟩) (by exact ⟨rfl, rfl, rfl, rfl, rfl, rfl, trivial⟩) (by repeat first|exact s0_ _|exact s1_ _|apply s2_|apply s3_) ?_
 intro z hz
 refine SC.seq (SC.region ?_)
 refine SL.val (Val.ltI rfl rfl) rfl rfl ?_
 refine SL.nil (SE.seq ?_)
 refine SC.seq ?_
 refine SC.condP rfl ?_ ?_
 rotate_left
 ·intro hc16
  have hta : dvs.take z.1 = dvs := List.take_of_length_le (by omega)
  refine SC.exit ?_
  refine SE.then_ nofun ?_
  refine SE.then_ nofun ?_
  refine SE.exit ?_
  refine SE.seq ?_
  refine SC.seq (SC.region ?_)
  refine SL.val (Val.move rfl) rfl rfl ?_
  refine SL.val (Val.assign rfl) rfl rfl ?_
  refine SL.nil (SE.seq ?_)
  refine SC.ret ?_
  refine SE.fin (rs := [.tmp 4]) rfl (RV.tmp rfl RV.nil) (()) (by repeat first|exact s0_ _|exact s1_ _|apply s2_|apply s3_) (by simp [It.rids]) ?_
  rw [hta]
  rfl
 intro hc16
 have hlt : z.1 < dvs.length := by omega
 obtain ⟨l, hl⟩ : ∃ l, dvs[z.1]'hlt = l := ⟨_, rfl⟩
 have hvl : dvs[z.1]? = some l := by rw [List.getElem?_eq_getElem hlt, hl]
 have hli := hin l (List.mem_of_getElem? hvl)
 refine SC.skip ?_
 refine SE.seq ?_
 refine SC.seq ?_
 refine SC.block ?_
 refine SC.seq (SC.region ?_)
 refine SL.val (Val.indexOwn (q := z.1) tabOk Try.underlying50 rfl rfl (by repeat first|assumption|exact o0_|exact o1_|apply o2_) rfl rfl (by rw [List.length_map]; exact hlt) rfl rfl) rfl rfl ?_
 refine SL.val (Val.to (C := pntsA l) (Val.loadOwn1 (q := z.1) (s := 1) (cs := [pntsA l]) tabOk rfl rfl (by repeat first|assumption|exact o0_|exact o1_|apply o2_) rfl (by rw [List.getElem?_map, hvl]; rfl) rfl) rfl) rfl rfl ?_
 refine SL.val (Val.assign rfl) rfl rfl ?_
 refine SL.nil (SE.seq ?_)
 refine SC.seq (SC.region ?_)
 refine SL.val (Val.move rfl) rfl rfl ?_
 first
  | refine SL.val (Val.lenSl rfl Try.underlying40 (List.length_map _)) rfl rfl ?_
  | refine SL.val (Val.lenOwn rfl (by repeat first|assumption|exact m0_|apply m1_) Try.underlying40 (List.length_map _)) rfl rfl ?_
  | refine SL.val (Val.lenNil rfl Try.underlying40) rfl rfl ?_
 refine SL.val (Val.move rfl) rfl rfl ?_
 refine SL.nil (SE.seq ?_)
 refine SC.block ?_
 have hcl := List.countP_le_length (p := fun y => decide (y = x)) (l := l)
 refine SC.loop (ι := Nat × Unit) (fun q => [.blk b3 27 x.abs, .rd bp 53 [int (n : Nat), int (me : Nat), .v ov, .v rv], .rdpc (ownPc 40 1 ov (dvs.map fun l => [pntsA l]))]) (fun q => [(0, ptr bp), (3, ptr b3), (5, int ((supD (dvs.take z.1) x + (l.take q.1).countP (fun y => decide (y = x)) : Nat) : Int)), (13, .v ov), (14, int (dvs.length : Nat)), (15, int (z.1 : Nat)), (19, pntsA l), (20, int (l.length : Nat)), (21, int (q.1 : Nat))]) (fun q => q.1 ≤ l.length ∧ (l.take q.1).countP (fun y => decide (y = x)) ≤ q.1) (fun q => l.length - q.1) (0, ()) (⟨Nat.zero_le _, Nat.le_refl _⟩) (by exact ⟨rfl, rfl, rfl, rfl, rfl, rfl, rfl, rfl, rfl, trivial⟩) (by repeat first|exact s0_ _|exact s1_ _|apply s2_|apply s3_) ?_
 intro q hq
 refine SC.seq (SC.region ?_)
 refine SL.val (Val.ltI rfl rfl) rfl rfl ?_
 refine SL.nil (SE.seq ?_)
 refine SC.seq ?_
 refine SC.condP rfl ?_ ?_
 rotate_left
 ·intro hc22
  have hql : l.take q.1 = l := List.take_of_length_le (by omega)
  refine SC.exit ?_
  refine SE.then_ nofun ?_
  refine SE.then_ nofun ?_
  refine SE.exit ?_
  refine SE.inBlock ?_
  refine SE.seq ?_
  refine SC.region ?_
  first
   | refine SL.val (Val.addI rfl rfl (by simp only [InR, lo, hi]; omega)) rfl rfl ?_
   | refine SL.val (Val.addW rfl rfl) rfl rfl ?_
  refine SL.val (Val.move rfl) rfl rfl ?_
  refine SL.nil ?_
  have hcl := List.countP_le_length (p := fun y => decide (y = x)) (l := l)
  have hst := supD_step (x := x) hlt
  rw [hl] at hst
  rw [hql] at *
  refine SE.round (z.1 + 1, ()) (by first | omega | (dsimp only; omega)) (⟨by dsimp only; omega, by have h := hz.2; dsimp only; rw [hst]; omega⟩) (by refine ⟨rfl, rfl, ?_, rfl, rfl, rfl, trivial⟩; dsimp only; rw [hst]; rfl) (by repeat first|exact s0_ _|exact s1_ _|apply s2_|apply s3_)
 intro hc22
 have hql : q.1 < l.length := by omega
 refine SC.skip ?_
 refine SE.seq ?_
 refine SC.seq ?_
 refine SC.block ?_
 refine SC.seq (SC.region ?_)
 refine SL.val (Val.indexSl tabOk Try.underlying40 rfl rfl rfl rfl (at_map (by omega)) rfl rfl) rfl rfl ?_
 refine SL.val (Val.loadAR tabOk rfl rfl rfl (Pnt.size _)) rfl rfl ?_
 refine SL.eff (Eff.alloc tabOk rfl) rfl rfl ?_
 rintro _ _ ⟨b9, rfl, rfl⟩
 refine SL.eff (Eff.store (L' := (l[q.1]'hql).abs) tabOk rfl rfl rfl (by repeat first|assumption|exact Upd.here|apply Upd.there) (Pnt.size _) (lb_ (by rfl)) (Pnt.ones _) (by exact putL_whole (Pnt.size _))) rfl rfl ?_
 rintro _ _ ⟨rfl, rfl⟩
 refine SL.nil (SE.seq ?_)
 refine SC.seq (SC.region ?_)
 refine SL.val (Val.to (C := .agg (l[q.1]'hql).abs) (Val.loadA tabOk rfl rfl rfl (by repeat first|assumption|exact o0_|exact o1_|apply o2_) List.not_mem_nil (Pnt.size _)) rfl) rfl rfl ?_
 refine SL.val (Val.to (C := .agg x.abs) (Val.loadA tabOk rfl rfl rfl (by repeat first|assumption|exact o0_|exact o1_|apply o2_) List.not_mem_nil (Pnt.size _)) rfl) rfl rfl ?_
 refine SL.val (Val.eqA rfl rfl (pnt_plains _) (pnt_plains _) (by kernel_rfl) (eqP (hli.1 _ (List.getElem_mem hql)) hx)) rfl rfl ?_
 refine SL.nil (SE.seq ?_)
 refine SC.condP rfl ?_ ?_
 rotate_left
 ·intro hc27
  refine SC.skip ?_
  refine SE.inBlock ?_
  refine SE.seq ?_
  refine SC.region ?_
  first
   | refine SL.val (Val.addI rfl rfl (by simp only [InR, lo, hi]; omega)) rfl rfl ?_
   | refine SL.val (Val.addW rfl rfl) rfl rfl ?_
  refine SL.val (Val.move rfl) rfl rfl ?_
  refine SL.nil ?_
  refine SE.round (q.1 + 1, ()) (by first | omega | (dsimp only; omega)) (⟨by dsimp only; omega, by have h := hq.2; dsimp only; rw [countP_take hql, if_neg hc27]; omega⟩) (by refine ⟨rfl, rfl, ?_, rfl, rfl, rfl, rfl, rfl, rfl, trivial⟩; dsimp only; rw [countP_take hql, if_neg hc27]; rfl) (by repeat first|exact s0_ _|exact s1_ _|apply s2_|apply s3_)
 intro hc27
 refine SC.region ?_
 refine SL.val (Val.move rfl) rfl rfl ?_
 refine SL.val (Val.to (C := int ((supD (dvs.take z.1) x + (l.take (q.1 + 1)).countP (fun y => decide (y = x)) : Nat) : Int)) (Val.addI rfl rfl (by simp only [InR, lo, hi]; omega)) (congrArg int (by rw [countP_take hql, if_pos hc27]; omega))) rfl rfl ?_
 refine SL.val (Val.assign rfl) rfl rfl ?_
 refine SL.nil ?_
 refine SE.inBlock ?_
 refine SE.seq ?_
 refine SC.region ?_
 first
  | refine SL.val (Val.addI rfl rfl (by simp only [InR, lo, hi]; omega)) rfl rfl ?_
  | refine SL.val (Val.addW rfl rfl) rfl rfl ?_
 refine SL.val (Val.move rfl) rfl rfl ?_
 refine SL.nil ?_
 refine SE.round (q.1 + 1, ()) (by first | omega | (dsimp only; omega)) (⟨by dsimp only; omega, by have h := hq.2; dsimp only; rw [countP_take hql, if_pos hc27]; omega⟩) (by exact ⟨rfl, rfl, rfl, rfl, rfl, rfl, rfl, rfl, rfl, trivial⟩) (by repeat first|exact s0_ _|exact s1_ _|apply s2_|apply s3_)
end
end Go.Proofs.Ytjbikemecdlolaa.A
/-
  Points: the document's stable and weak.
-/
namespace Go.Proofs.Ytjbikemecdlolaa.A
open Go.RowKit

theorem dV_in {n me : Nat} {om : List (Int × Ow)} {vs : List (List Pnt)} (h : PtsOk n me om vs) : (∀ l ∈ dV me om vs, (∀ p ∈ l, InR .i64 p.seq) ∧ l.length ≤ 100000) ∧ (dV me om vs).length = n := by
  refine ⟨fun l hl => ?_, by unfold dV; rw [List.length_set]; exact h.len⟩
  rcases List.mem_or_eq_of_mem_set hl with h2 | h2
  · exact ⟨h.ins l h2, by have := h.few l h2; omega⟩
  · rw [h2]; exact ⟨ownP_in h.keys, by rw [ownP_length]; exact h.om⟩
theorem dV_me {n me : Nat} {om : List (Int × Ow)} {vs : List (List Pnt)} (h : PtsOk n me om vs) : (dV me om vs)[me]? = some (ownP om) := by
  have h2 := dV_get h h.slf
  unfold votesF at h2
  rw [if_pos rfl] at h2
  exact h2
section
variable {n me : Nat} {om : List (Int × Ow)} {vs : List (List Pnt)} {bp bm : Nat} {vv : Value} {x y : Pnt} {who k low above at_ : Int} {o : Ow} {l m : List Pnt} {q : Nat} {ov rv : Value} {dvs : List (List Pnt)} {rows : List (List UInt8)}
theorem dnew_s (h7 : n ≤ 7) : Spec Try.prog 17 [int (n : Nat), int (me : Nat)] [] (fun z : Nat × Value => [.blk z.1 53 [int (n : Nat), int (me : Nat), .v z.2, .v (.slice none 0 0)], own 40 1 z.2 ((List.replicate n []).map fun l => [pntsA l]), off_ 23 (.slice none 0 0) ((([] : List (List UInt8))).map fun b => [byt b])]) (fun z => ptr z.1) := by
 refine spec_of Try.func17 rfl Try.ntmps17 rfl fun G w => ?_
 refine SC.seq ?_
 refine SC.own0 23 1 ?_
 refine SC.region ?_
 refine SL.val (Val.assign rfl) rfl rfl ?_
 refine SL.nil (SE.seq ?_)
 refine SC.seq (SC.region ?_)
 iterate 3 refine SL.val (Val.move rfl) rfl rfl ?_
 refine SL.eff (Eff.makeOwn (m := n) tabOk Try.underlying50 rfl rfl rfl rfl rfl rfl (by unfold maxLen; omega) (by rw [show Try.prog.bytesOf 40 = 24 by kernel_rfl]; omega)) rfl rfl ?_
 rintro _ _ ⟨v8, rfl, rfl⟩
 refine SL.ownShape (v := v8) (e := 40) (s := 1) (xs := List.replicate n [Abs.v (Value.slice none 0 0)]) (by repeat first|assumption|exact m0_|apply m1_) ?_
 rintro A8 m8 c8 rfl
 refine SL.val (Val.buildS tabOk rfl rfl rfl rfl) rfl rfl ?_
 refine SL.eff (Eff.boxA (cs := [int (n : Nat), int (me : Nat), .v (.slice A8 m8 c8), .v (.slice none 0 0)]) rfl) rfl rfl ?_
 rintro _ _ ⟨b10, rfl, rfl⟩
 refine SL.val (Val.assign rfl) rfl rfl ?_
 refine SL.nil (SE.seq ?_)
 refine SC.ret ?_
 refine SE.re [_] (votes_nil n) rfl ?_
 refine SE.re [_, _] Re.offOf rfl ?_
 refine SE.fin (rs := [.tmp 4]) rfl (RV.tmp rfl RV.nil) ((b10, .slice A8 m8 c8)) (by repeat first|exact s0_ _|exact s1_ _|apply s2_|apply s3_) (by simp [It.rids]) ?_
 exact rfl
set_option maxHeartbeats 2000000 in
theorem dbest_s (hin : ∀ l ∈ dvs, (∀ p ∈ l, InR .i64 p.seq) ∧ l.length ≤ 100000) (hn7 : dvs.length ≤ 7) (hw : 0 ≤ who) (hl : dvs[who.toNat]? = some l) : Spec Try.prog 44 [ptr bp, int who, int above, int at_] [.rd bp 53 [int (n : Nat), int (me : Nat), .v ov, .v rv], .rdpc (ownPc 40 1 ov (dvs.map fun l => [pntsA l]))] (fun _ : Unit => []) (fun _ => .tup [.agg (ptO (bestD dvs l above at_)).abs, boo (bestD dvs l above at_).isSome]) := by
 refine spec_of Try.func44 rfl Try.ntmps44 rfl fun G w => ?_
 refine SC.seq ?_
 have hli := hin l (List.mem_of_getElem? hl)
 refine SC.region ?_
 refine SL.eff (Eff.alloc tabOk rfl) rfl rfl ?_
 rintro _ _ ⟨b8, rfl, rfl⟩
 refine SL.val (Val.assign rfl) rfl rfl ?_
 refine SL.nil (SE.seq ?_)
 refine SC.seq (SC.region ?_)
 refine SL.eff (Eff.alloc tabOk rfl) rfl rfl ?_
 rintro _ _ ⟨b10, rfl, rfl⟩
 refine SL.nil (SE.seq ?_)
 refine SC.seq (SC.region ?_)
 refine SL.val (Val.assign rfl) rfl rfl ?_
 refine SL.nil (SE.seq ?_)
 refine SC.seq ?_
 refine SC.seq (SC.region ?_)
 refine SL.val (Val.move rfl) rfl rfl ?_
 refine SL.val (Val.nilCheck rfl) rfl rfl ?_
 refine SL.val (Val.fieldAddr tabOk rfl rfl rfl rfl rfl) rfl rfl ?_
 refine SL.val (Val.load1 tabOk rfl rfl (by repeat first|assumption|exact o0_|exact o1_|apply o2_) List.not_mem_nil (by rfl)) rfl rfl ?_
 refine SL.val (Val.move rfl) rfl rfl ?_
 refine SL.val (Val.indexOwn (q := who.toNat) tabOk Try.underlying50 rfl rfl (by repeat first|assumption|exact o0_|exact o1_|apply o2_) rfl (by omega) (by rw [List.length_map]; exact (List.getElem?_eq_some_iff.1 hl).1) rfl rfl) rfl rfl ?_
 refine SL.val (Val.to (C := pntsA l) (Val.loadOwn1 (q := who.toNat) (s := 1) (cs := [pntsA l]) tabOk rfl rfl (by repeat first|assumption|exact o0_|exact o1_|apply o2_) rfl (by rw [List.getElem?_map, hl]; rfl) rfl) rfl) rfl rfl ?_
 first
  | refine SL.val (Val.lenSl rfl Try.underlying40 (List.length_map _)) rfl rfl ?_
  | refine SL.val (Val.lenOwn rfl (by repeat first|assumption|exact m0_|apply m1_) Try.underlying40 (List.length_map _)) rfl rfl ?_
  | refine SL.val (Val.lenNil rfl Try.underlying40) rfl rfl ?_
 refine SL.val (Val.move rfl) rfl rfl ?_
 refine SL.nil (SE.seq ?_)
 refine SC.block ?_
 refine SC.loop (ι := Nat × Unit) (fun z => [.blk b10 27 (ptO (bestD dvs (l.take z.1) above at_)).abs, .blk b8 27 Pnt.zero.abs, .rd bp 53 [int (n : Nat), int (me : Nat), .v ov, .v rv], .rdpc (ownPc 40 1 ov (dvs.map fun l => [pntsA l]))]) (fun z => [(0, ptr bp), (2, int above), (3, int at_), (8, ptr b8), (10, ptr b10), (11, boo (bestD dvs (l.take z.1) above at_).isSome), (20, pntsA l), (21, int (l.length : Nat)), (22, int (z.1 : Nat))]) (fun z => z.1 ≤ l.length) (fun z => l.length - z.1) (0, ()) (Nat.zero_le _) (by exact ⟨rfl, rfl, rfl, rfl, rfl, rfl, rfl, rfl, rfl, trivial⟩) (by repeat first|exact s0_ _|exact s1_ _|apply s2_|apply s3_) ?_
 intro z hz
 refine SC.seq (SC.region ?_)
 refine SL.val (Val.ltI rfl rfl) rfl rfl ?_
 refine SL.nil (SE.seq ?_)
 refine SC.seq ?_
 refine SC.condP rfl ?_ ?_
 rotate_left
 ·intro hc23
  have hta : l.take z.1 = l := List.take_of_length_le (by omega)
  refine SC.exit ?_
  refine SE.then_ nofun ?_
  refine SE.then_ nofun ?_
  refine SE.exit ?_
  refine SE.seq ?_
  refine SC.seq (SC.region ?_)
  refine SL.val (Val.to (C := .agg (ptO (bestD dvs (l.take z.1) above at_)).abs) (Val.loadA tabOk rfl rfl rfl (by repeat first|assumption|exact o0_|exact o1_|apply o2_) List.not_mem_nil (Pnt.size _)) rfl) rfl rfl ?_
  refine SL.val (Val.move rfl) rfl rfl ?_
  refine SL.eff (Eff.store (L' := (ptO (bestD dvs (l.take z.1) above at_)).abs) tabOk rfl rfl rfl (by repeat first|assumption|exact Upd.here|apply Upd.there) (Pnt.size _) (pnt_le _) (Pnt.ones _) (by exact putL_whole ((Pnt.size _).trans (Pnt.size _).symm))) rfl rfl ?_
  rintro _ _ ⟨rfl, rfl⟩
  refine SL.val (Val.assign rfl) rfl rfl ?_
  refine SL.nil (SE.seq ?_)
  refine SC.ret ?_
  refine SE.fin (rs := [.cell 8 27, .tmp 9]) rfl (RV.cell rfl (RV.cellA tabOk rfl rfl (by repeat first|assumption|exact o0_|exact o1_|apply o2_) (Pnt.size _)) (RV.tmp rfl RV.nil)) (()) (by repeat first|exact s0_ _|exact s1_ _|apply s2_|apply s3_) (by simp [It.rids]) ?_
  rw [hta]
  rfl
 intro hc23
 have hlt : z.1 < l.length := by omega
 refine SC.skip ?_
 refine SE.seq ?_
 refine SC.seq ?_
 refine SC.block ?_
 refine SC.seq (SC.region ?_)
 refine SL.val (Val.indexSl tabOk Try.underlying40 rfl rfl rfl rfl (at_map (by omega)) rfl rfl) rfl rfl ?_
 refine SL.val (Val.loadAR tabOk rfl rfl rfl (Pnt.size _)) rfl rfl ?_
 refine SL.eff (Eff.alloc tabOk rfl) rfl rfl ?_
 rintro _ _ ⟨b13, rfl, rfl⟩
 refine SL.eff (Eff.store (L' := (l[z.1]'hlt).abs) tabOk rfl rfl rfl (by repeat first|assumption|exact Upd.here|apply Upd.there) (Pnt.size _) (lb_ (by rfl)) (Pnt.ones _) (by exact putL_whole (Pnt.size _))) rfl rfl ?_
 rintro _ _ ⟨rfl, rfl⟩
 refine SL.nil (SE.seq ?_)
 refine SC.seq (SC.region ?_)
 refine SL.val (Val.fieldAddr tabOk rfl rfl rfl rfl rfl) rfl rfl ?_
 refine SL.val (Val.to (C := int (l[z.1]'hlt).seq) (Val.load1 tabOk rfl rfl (by repeat first|assumption|exact o0_|exact o1_|apply o2_) List.not_mem_nil (by rfl)) rfl) rfl rfl ?_
 refine SL.val (Val.move rfl) rfl rfl ?_
 refine SL.val (Val.gtI rfl rfl) rfl rfl ?_
 refine SL.val (Val.move rfl) rfl rfl ?_
 refine SL.bothP (t := 30) rfl ?_ ?_
 rotate_left
 ·intro hc30
  have e8 : (bestD dvs (l.take (z.1 + 1)) above at_) = (bestD dvs (l.take z.1) above at_) := (best_step hlt).trans (if_neg (by unfold goodD; rw [decide_eq_false (show ¬ above < _ from hc30), Bool.false_and]; decide))
  iterate 5 refine SL.skip rfl rfl ?_
  refine SL.val (Val.pickF rfl rfl) rfl rfl ?_
  refine SL.nil (SE.seq ?_)
  refine SC.condF rfl ?_
  refine SC.skip ?_
  refine SE.inBlock ?_
  refine SE.seq ?_
  refine SC.region ?_
  first
   | refine SL.val (Val.addI rfl rfl (by simp only [InR, lo, hi]; omega)) rfl rfl ?_
   | refine SL.val (Val.addW rfl rfl) rfl rfl ?_
  refine SL.val (Val.move rfl) rfl rfl ?_
  refine SL.nil ?_
  refine SE.round (z.1 + 1, ()) (by first | omega | (dsimp only; omega)) ((by dsimp only; omega)) (by refine ⟨rfl, rfl, rfl, rfl, rfl, ?_, rfl, rfl, rfl, trivial⟩; dsimp only; rw [e8]; rfl) (by dsimp only; rw [e8]; repeat (first | exact List.nil_sublist _ | exact List.Sublist.refl _ | apply List.Sublist.cons_cons | apply List.Sublist.cons))
 intro hc30
 refine SL.val (Val.move rfl) rfl rfl ?_
 refine SL.val (Val.to (C := .agg (l[z.1]'hlt).abs) (Val.loadA tabOk rfl rfl rfl (by repeat first|assumption|exact o0_|exact o1_|apply o2_) List.not_mem_nil (Pnt.size _)) rfl) rfl rfl ?_
 refine SL.call (dsup_s (n := n) (me := me) (ov := ov) (rv := rv) (x := (l[z.1]'hlt)) hin hn7 (hli.1 _ (List.getElem_mem hlt))) Casts.refl (by kernel_rfl) rfl rfl rfl ?_
 refine ap_ ?_
 intro _
 refine SL.val (Val.move rfl) rfl rfl ?_
 refine SL.val (Val.geI rfl rfl) rfl rfl ?_
 refine SL.val (Val.pickT rfl rfl) rfl rfl ?_
 refine SL.nil (SE.seq ?_)
 refine SC.condP rfl ?_ ?_
 rotate_left
 ·intro hc36
  have e8 : (bestD dvs (l.take (z.1 + 1)) above at_) = (bestD dvs (l.take z.1) above at_) := (best_step hlt).trans (if_neg (by unfold goodD; rw [decide_eq_true (show above < _ from hc30), Bool.true_and, decide_eq_false (show ¬ at_ ≤ _ from hc36)]; decide))
  refine SC.skip ?_
  refine SE.inBlock ?_
  refine SE.seq ?_
  refine SC.region ?_
  first
   | refine SL.val (Val.addI rfl rfl (by simp only [InR, lo, hi]; omega)) rfl rfl ?_
   | refine SL.val (Val.addW rfl rfl) rfl rfl ?_
  refine SL.val (Val.move rfl) rfl rfl ?_
  refine SL.nil ?_
  refine SE.round (z.1 + 1, ()) (by first | omega | (dsimp only; omega)) ((by dsimp only; omega)) (by refine ⟨rfl, rfl, rfl, rfl, rfl, ?_, rfl, rfl, rfl, trivial⟩; dsimp only; rw [e8]; rfl) (by dsimp only; rw [e8]; repeat (first | exact List.nil_sublist _ | exact List.Sublist.refl _ | apply List.Sublist.cons_cons | apply List.Sublist.cons))
 intro hc36
 have e8 : (bestD dvs (l.take (z.1 + 1)) above at_) = some (l[z.1]'hlt) := (best_step hlt).trans (if_pos (by unfold goodD; rw [decide_eq_true (show above < _ from hc30), Bool.true_and]; exact decide_eq_true hc36))
 refine SC.region ?_
 refine SL.val (Val.to (C := .agg (l[z.1]'hlt).abs) (Val.loadA tabOk rfl rfl rfl (by repeat first|assumption|exact o0_|exact o1_|apply o2_) List.not_mem_nil (Pnt.size _)) rfl) rfl rfl ?_
 refine SL.eff (Eff.store (L' := (l[z.1]'hlt).abs) tabOk rfl rfl rfl (by repeat first|assumption|exact Upd.here|apply Upd.there) (Pnt.size _) (pnt_le _) (Pnt.ones _) (by exact putL_whole ((Pnt.size _).trans (Pnt.size _).symm))) rfl rfl ?_
 rintro _ _ ⟨rfl, rfl⟩
 refine SL.val (Val.assign rfl) rfl rfl ?_
 refine SL.nil ?_
 refine SE.inBlock ?_
 refine SE.seq ?_
 refine SC.region ?_
 first
  | refine SL.val (Val.addI rfl rfl (by simp only [InR, lo, hi]; omega)) rfl rfl ?_
  | refine SL.val (Val.addW rfl rfl) rfl rfl ?_
 refine SL.val (Val.move rfl) rfl rfl ?_
 refine SL.nil ?_
 refine SE.round (z.1 + 1, ()) (by first | omega | (dsimp only; omega)) ((by dsimp only; omega)) (by refine ⟨rfl, rfl, rfl, rfl, rfl, ?_, rfl, rfl, rfl, trivial⟩; dsimp only; rw [e8]; rfl) (by dsimp only; rw [e8]; repeat (first | exact List.nil_sublist _ | exact List.Sublist.refl _ | apply List.Sublist.cons_cons | apply List.Sublist.cons))
theorem dstable_s (hok : PtsOk n me om vs) (hme : vs[me]? = some []) : Spec Try.prog 21 [ptr bp, int above] [.rd bp 53 [int (n : Nat), int (me : Nat), .v ov, .v rv], .rdpc (ownPc 40 1 ov ((dV me om vs).map fun l => [pntsA l])), .rdpc (offPc 23 rv ((rowsP om).map fun b => [byt b]))] (fun _ : Unit => []) (fun _ => .tup [.agg (ptO (bestF om vs (votesI n me om vs ((me : Nat) : Int)) above (2 * ((max (n : Int) 1 - 1) / 3) + 1))).abs, boo (bestF om vs (votesI n me om vs ((me : Nat) : Int)) above (2 * ((max (n : Int) 1 - 1) / 3) + 1)).isSome]) := by
 refine spec_of Try.func21 rfl Try.ntmps21 rfl fun G w => ?_
 refine SC.seq (SC.region ?_)
 refine SL.eff (Eff.alloc tabOk rfl) rfl rfl ?_
 rintro _ _ ⟨b4, rfl, rfl⟩
 refine SL.val (Val.assign rfl) rfl rfl ?_
 refine SL.nil (SE.seq ?_)
 refine SC.seq ?_
 refine SC.drawS 16 [] (.q 0 (.q 1 (.q 2 (.q 3 (.q 4 (.q 5 (.q 6 (.q 7 (.q 8 (.q 9 (.e 10 (.q 11 (.q 12 (.e 13 (.q 14 (.q 15 .nil)))))))))))))))) (.e 16 (.q 17 .nil)) (by kernel_rfl) (by kernel_rfl) ?_
 refine SX.val rfl (Val.move rfl) (by simp) rfl rfl ?_
 refine SX.val rfl (Val.move rfl) (by simp) rfl rfl ?_
 refine SX.val rfl (Val.nilCheck rfl) (by simp) rfl rfl ?_
 refine SX.val rfl (Val.fieldAddr tabOk rfl rfl rfl rfl rfl) (by simp) rfl rfl ?_
 refine SX.val rfl (Val.load1 tabOk rfl rfl (by repeat first|assumption|exact o0_|exact o1_|apply o2_) List.not_mem_nil (by rfl)) (by simp) rfl rfl ?_
 refine SX.val rfl (Val.move rfl) (by simp) rfl rfl ?_
 refine SX.val rfl (Val.move rfl) (by simp) rfl rfl ?_
 refine SX.val rfl (Val.nilCheck rfl) (by simp) rfl rfl ?_
 refine SX.val rfl (Val.fieldAddr tabOk rfl rfl rfl rfl rfl) (by simp) rfl rfl ?_
 refine SX.val rfl (Val.load1 tabOk rfl rfl (by repeat first|assumption|exact o0_|exact o1_|apply o2_) List.not_mem_nil (by rfl)) (by simp) rfl rfl ?_
 refine SX.call rfl (rfaults_s (n := (n : Int)) (by have := hok.n7; omega)) (by simp [mids, It.mids]) Casts.refl (by kernel_rfl) rfl rfl rfl ?_
 refine ap_ ?_
 intro _
 refine SX.hx (by first|(simp[mids,It.mids,ownPc];done)|(intro k hk;simp[mids,It.mids,ownPc] at hk ⊢;grind)) fun hx9 => ?_
 refine SX.val rfl (Val.mulI rfl rfl (by have := hok.n7; simp only [InR, lo, hi]; omega)) hx9 rfl rfl ?_
 refine SX.val rfl (Val.addI rfl rfl (by have := hok.n7; simp only [InR, lo, hi]; omega)) hx9 rfl rfl ?_
 refine SX.call rfl (dbest_s (n := n) (me := me) (bp := bp) (ov := ov) (rv := rv) (who := (me : Int)) (above := above) (at_ := 2 * ((max (n : Int) 1 - 1) / 3) + 1) (l := votesF me om vs me) (dvs := dV me om vs) (dV_in hok).1 (by have h1 := (dV_in hok).2; have h2 := hok.n7; omega) (by omega) (dV_get hok hok.slf)) (by simp [mids, It.mids]) Casts.refl (by kernel_rfl) rfl rfl rfl ?_
 refine ap_ ?_
 intro _
 rw [bestD_eq hok hme hok.slf]
 refine SX.val rfl (Val.extract rfl rfl) (by simp) rfl rfl ?_
 refine SX.val rfl (Val.extract rfl rfl) (by simp) rfl rfl ?_
 refine SX.nil ?_
 refine SE.rest [b4] ?_
 refine SX.eff rfl (Eff.store (L' := (ptO (bestF om vs (votesI n me om vs ((me : Nat) : Int)) above (2 * ((max (n : Int) 1 - 1) / 3) + 1))).abs) tabOk rfl rfl rfl (by repeat first|assumption|exact Upd.here|apply Upd.there) (Pnt.size _) (lb_ (by rfl)) (Pnt.ones _) (by exact putL_whole (Pnt.size _))) (by simp) rfl rfl ?_
 rintro _ _ ⟨rfl, rfl⟩
 refine SX.hx (by first|(simp[mids,It.mids,ownPc];done)|(intro k hk;simp[mids,It.mids,ownPc] at hk ⊢;grind)) fun hx9 => ?_
 refine SX.val rfl (Val.assign rfl) hx9 rfl rfl ?_
 refine SX.nil (SE.seq ?_)
 refine SC.ret ?_
 refine SE.fin (rs := [.cell 4 27, .tmp 5]) rfl (RV.cell rfl (RV.cellA tabOk rfl rfl (by repeat first|assumption|exact o0_|exact o1_|apply o2_) (Pnt.size _)) (RV.tmp rfl RV.nil)) (()) (by repeat first|exact s0_ _|exact s1_ _|apply s2_|apply s3_) (by simp [It.rids]) ?_
 exact rfl
set_option maxHeartbeats 2000000 in
theorem dweak_s (hok : PtsOk n me om vs) (hme : vs[me]? = some []) : Spec Try.prog 22 [ptr bp, int above] [.rd bp 53 [int (n : Nat), int (me : Nat), .v ov, .v rv], .rdpc (ownPc 40 1 ov ((dV me om vs).map fun l => [pntsA l])), .rdpc (offPc 23 rv ((rowsP om).map fun b => [byt b]))] (fun _ : Unit => []) (fun _ => .tup [.agg (ptO (weakTo n me om vs above ((max (n : Int) 1 - 1) / 3 + 1) n)).abs, boo (weakTo n me om vs above ((max (n : Int) 1 - 1) / 3 + 1) n).isSome]) := by
 refine spec_of Try.func22 rfl Try.ntmps22 rfl fun G w => ?_
 refine SC.seq (SC.region ?_)
 refine SL.eff (Eff.alloc tabOk rfl) rfl rfl ?_
 rintro _ _ ⟨b4, rfl, rfl⟩
 refine SL.val (Val.assign rfl) rfl rfl ?_
 refine SL.nil (SE.seq ?_)
 refine SC.seq (SC.region ?_)
 refine SL.eff (Eff.alloc tabOk rfl) rfl rfl ?_
 rintro _ _ ⟨b6, rfl, rfl⟩
 refine SL.nil (SE.seq ?_)
 refine SC.seq (SC.region ?_)
 refine SL.val (Val.assign rfl) rfl rfl ?_
 refine SL.nil (SE.seq ?_)
 refine SC.seq ?_
 refine SC.seq (SC.region ?_)
 refine SL.val (Val.assign rfl) rfl rfl ?_
 refine SL.nil (SE.seq ?_)
 refine SC.block ?_
 have hn7 := hok.n7
 refine SC.loop (ι := Nat × Unit) (fun z => [.blk b6 27 (ptO (weakTo n me om vs above ((max (n : Int) 1 - 1) / 3 + 1) z.1)).abs, .blk b4 27 Pnt.zero.abs, .rd bp 53 [int (n : Nat), int (me : Nat), .v ov, .v rv], .rdpc (ownPc 40 1 ov ((dV me om vs).map fun l => [pntsA l])), .rdpc (offPc 23 rv ((rowsP om).map fun b => [byt b]))]) (fun z => [(0, ptr bp), (1, int above), (4, ptr b4), (6, ptr b6), (7, boo (weakTo n me om vs above ((max (n : Int) 1 - 1) / 3 + 1) z.1).isSome), (8, int (z.1 : Nat))]) (fun z => z.1 ≤ n) (fun z => n - z.1) (0, ()) (Nat.zero_le _) (by exact ⟨rfl, rfl, rfl, rfl, rfl, rfl, trivial⟩) (by repeat first|exact s0_ _|exact s1_ _|apply s2_|apply s3_) ?_
 intro z hz
 refine SC.seq ?_
 refine SC.seq (SC.region ?_)
 iterate 2 refine SL.val (Val.move rfl) rfl rfl ?_
 refine SL.val (Val.nilCheck rfl) rfl rfl ?_
 refine SL.val (Val.fieldAddr tabOk rfl rfl rfl rfl rfl) rfl rfl ?_
 refine SL.val (Val.load1 tabOk rfl rfl (by repeat first|assumption|exact o0_|exact o1_|apply o2_) List.not_mem_nil (by rfl)) rfl rfl ?_
 refine SL.val (Val.ltI rfl rfl) rfl rfl ?_
 refine SL.nil (SE.seq ?_)
 refine SC.condP rfl ?_ ?_
 rotate_left
 ·intro hc16
  have hze : z.1 = n := by omega
  refine SC.exit ?_
  refine SE.then_ nofun ?_
  refine SE.then_ nofun ?_
  refine SE.exit ?_
  refine SE.seq ?_
  refine SC.seq (SC.region ?_)
  refine SL.val (Val.to (C := .agg (ptO (weakTo n me om vs above ((max (n : Int) 1 - 1) / 3 + 1) z.1)).abs) (Val.loadA tabOk rfl rfl rfl (by repeat first|assumption|exact o0_|exact o1_|apply o2_) List.not_mem_nil (Pnt.size _)) rfl) rfl rfl ?_
  refine SL.val (Val.move rfl) rfl rfl ?_
  refine SL.eff (Eff.store (L' := (ptO (weakTo n me om vs above ((max (n : Int) 1 - 1) / 3 + 1) z.1)).abs) tabOk rfl rfl rfl (by repeat first|assumption|exact Upd.here|apply Upd.there) (Pnt.size _) (pnt_le _) (Pnt.ones _) (by exact putL_whole ((Pnt.size _).trans (Pnt.size _).symm))) rfl rfl ?_
  rintro _ _ ⟨rfl, rfl⟩
  refine SL.val (Val.assign rfl) rfl rfl ?_
  refine SL.nil (SE.seq ?_)
  refine SC.ret ?_
  refine SE.fin (rs := [.cell 4 27, .tmp 5]) rfl (RV.cell rfl (RV.cellA tabOk rfl rfl (by repeat first|assumption|exact o0_|exact o1_|apply o2_) (Pnt.size _)) (RV.tmp rfl RV.nil)) (()) (by repeat first|exact s0_ _|exact s1_ _|apply s2_|apply s3_) (by simp [It.rids]) ?_
  rw [hze]
  rfl
 intro hc16
 have hlt : z.1 < n := by omega
 refine SC.skip ?_
 refine SE.seq ?_
 refine SC.seq ?_
 refine SC.block ?_
 refine SC.seq (SC.region ?_)
 iterate 4 refine SL.val (Val.move rfl) rfl rfl ?_
 refine SL.val (Val.nilCheck rfl) rfl rfl ?_
 refine SL.val (Val.fieldAddr tabOk rfl rfl rfl rfl rfl) rfl rfl ?_
 refine SL.val (Val.load1 tabOk rfl rfl (by repeat first|assumption|exact o0_|exact o1_|apply o2_) List.not_mem_nil (by rfl)) rfl rfl ?_
 refine SL.call (rfaults_s (n := (n : Int)) (by have := hok.n7; omega)) Casts.refl (by kernel_rfl) rfl rfl rfl ?_
 refine ap_ ?_
 intro _
 refine SL.val (Val.addI rfl rfl (by have := hok.n7; simp only [InR, lo, hi]; omega)) rfl rfl ?_
 refine SL.call (dbest_s (n := n) (me := me) (bp := bp) (ov := ov) (rv := rv) (who := (z.1 : Int)) (above := above) (at_ := (max (n : Int) 1 - 1) / 3 + 1) (l := votesF me om vs z.1) (dvs := dV me om vs) (dV_in hok).1 (by have h1 := (dV_in hok).2; have h2 := hok.n7; omega) (by omega) (dV_get hok hlt)) Casts.refl (by kernel_rfl) rfl rfl rfl ?_
 refine ap_ ?_
 intro _
 rw [bestD_eq hok hme hlt]
 refine SL.val (Val.move rfl) rfl rfl ?_
 refine SL.val (Val.extract rfl rfl) rfl rfl ?_
 refine SL.val (Val.extract rfl rfl) rfl rfl ?_
 refine SL.eff (Eff.alloc tabOk rfl) rfl rfl ?_
 rintro _ _ ⟨b9, rfl, rfl⟩
 refine SL.eff (Eff.store (L' := (ptO (bestF om vs (votesI n me om vs (z.1 : Int)) above ((max (n : Int) 1 - 1) / 3 + 1))).abs) tabOk rfl rfl rfl (by repeat first|assumption|exact Upd.here|apply Upd.there) (Pnt.size _) (lb_ (by rfl)) (Pnt.ones _) (by exact putL_whole (Pnt.size _))) rfl rfl ?_
 rintro _ _ ⟨rfl, rfl⟩
 refine SL.val (Val.assign rfl) rfl rfl ?_
 refine SL.nil (SE.seq ?_)
 refine SC.seq (SC.region ?_)
 iterate 2 refine SL.val (Val.move rfl) rfl rfl ?_
 refine SL.both (t := 33) rfl ?_ ?_
 rotate_left
 ·intro hc33
  have e8 : (weakTo n me om vs above ((max (n : Int) 1 - 1) / 3 + 1) (z.1 + 1)) = (weakTo n me om vs above ((max (n : Int) 1 - 1) / 3 + 1) z.1) := weakTo_succ.trans (maxO_no hc33)
  iterate 9 refine SL.skip rfl rfl ?_
  refine SL.val (Val.pickF rfl rfl) rfl rfl ?_
  refine SL.nil (SE.seq ?_)
  refine SC.condF rfl ?_
  refine SC.skip ?_
  refine SE.inBlock ?_
  refine SE.seq ?_
  refine SC.region ?_
  refine SL.val (Val.move rfl) rfl rfl ?_
  first
   | refine SL.val (Val.addI rfl rfl (by simp only [InR, lo, hi]; omega)) rfl rfl ?_
   | refine SL.val (Val.addW rfl rfl) rfl rfl ?_
  refine SL.val (Val.assign rfl) rfl rfl ?_
  refine SL.nil ?_
  refine SE.round (z.1 + 1, ()) (by first | omega | (dsimp only; omega)) ((by dsimp only; omega)) (by refine ⟨rfl, rfl, rfl, rfl, ?_, rfl, trivial⟩; dsimp only; rw [e8]; rfl) (by dsimp only; rw [e8]; repeat (first | exact List.nil_sublist _ | exact List.Sublist.refl _ | apply List.Sublist.cons_cons | apply List.Sublist.cons))
 intro hc33
 refine SL.val (Val.move rfl) rfl rfl ?_
 refine SL.val (Val.notB rfl) rfl rfl ?_
 refine SL.val (Val.move rfl) rfl rfl ?_
 refine SL.both (t := 36) rfl ?_ ?_
 ·intro hc36
  have e8 : (weakTo n me om vs above ((max (n : Int) 1 - 1) / 3 + 1) (z.1 + 1)) = some (ptO (bestF om vs (votesI n me om vs (z.1 : Int)) above ((max (n : Int) 1 - 1) / 3 + 1))) := weakTo_succ.trans (maxO_yes hc33 (.inl (by simpa using hc36)))
  iterate 5 refine SL.skip rfl rfl ?_
  refine SL.val (Val.pickT rfl rfl) rfl rfl ?_
  refine SL.val (Val.pickT rfl rfl) rfl rfl ?_
  refine SL.nil (SE.seq ?_)
  refine SC.condT rfl ?_
  refine SC.region ?_
  refine SL.val (Val.to (C := .agg (ptO (bestF om vs (votesI n me om vs (z.1 : Int)) above ((max (n : Int) 1 - 1) / 3 + 1))).abs) (Val.loadA tabOk rfl rfl rfl (by repeat first|assumption|exact o0_|exact o1_|apply o2_) List.not_mem_nil (Pnt.size _)) rfl) rfl rfl ?_
  refine SL.eff (Eff.store (L' := (ptO (bestF om vs (votesI n me om vs (z.1 : Int)) above ((max (n : Int) 1 - 1) / 3 + 1))).abs) tabOk rfl rfl rfl (by repeat first|assumption|exact Upd.here|apply Upd.there) (Pnt.size _) (pnt_le _) (Pnt.ones _) (by exact putL_whole ((Pnt.size _).trans (Pnt.size _).symm))) rfl rfl ?_
  rintro _ _ ⟨rfl, rfl⟩
  refine SL.val (Val.assign rfl) rfl rfl ?_
  refine SL.nil ?_
  refine SE.inBlock ?_
  refine SE.seq ?_
  refine SC.region ?_
  refine SL.val (Val.move rfl) rfl rfl ?_
  first
   | refine SL.val (Val.addI rfl rfl (by simp only [InR, lo, hi]; omega)) rfl rfl ?_
   | refine SL.val (Val.addW rfl rfl) rfl rfl ?_
  refine SL.val (Val.assign rfl) rfl rfl ?_
  refine SL.nil ?_
  refine SE.round (z.1 + 1, ()) (by first | omega | (dsimp only; omega)) ((by dsimp only; omega)) (by refine ⟨rfl, rfl, rfl, rfl, ?_, rfl, trivial⟩; dsimp only; rw [e8]; rfl) (by dsimp only; rw [e8]; repeat (first | exact List.nil_sublist _ | exact List.Sublist.refl _ | apply List.Sublist.cons_cons | apply List.Sublist.cons))
 intro hc36
 refine SL.val (Val.fieldAddr tabOk rfl rfl rfl rfl rfl) rfl rfl ?_
 refine SL.val (Val.to (C := int (ptO (bestF om vs (votesI n me om vs (z.1 : Int)) above ((max (n : Int) 1 - 1) / 3 + 1))).seq) (Val.load1 tabOk rfl rfl (by repeat first|assumption|exact o0_|exact o1_|apply o2_) List.not_mem_nil (by rfl)) rfl) rfl rfl ?_
 refine SL.val (Val.fieldAddr tabOk rfl rfl rfl rfl rfl) rfl rfl ?_
 refine SL.val (Val.to (C := int (ptO (weakTo n me om vs above ((max (n : Int) 1 - 1) / 3 + 1) z.1)).seq) (Val.load1 tabOk rfl rfl (by repeat first|assumption|exact o0_|exact o1_|apply o2_) List.not_mem_nil (by rfl)) rfl) rfl rfl ?_
 refine SL.val (Val.gtI rfl rfl) rfl rfl ?_
 refine SL.val (Val.pickF rfl rfl) rfl rfl ?_
 refine SL.val (Val.pickT rfl rfl) rfl rfl ?_
 refine SL.nil (SE.seq ?_)
 refine SC.condP rfl ?_ ?_
 rotate_left
 ·intro hc43
  have e8 : (weakTo n me om vs above ((max (n : Int) 1 - 1) / 3 + 1) (z.1 + 1)) = (weakTo n me om vs above ((max (n : Int) 1 - 1) / 3 + 1) z.1) := weakTo_succ.trans (maxO_less (by simpa using hc36) hc43)
  refine SC.skip ?_
  refine SE.inBlock ?_
  refine SE.seq ?_
  refine SC.region ?_
  refine SL.val (Val.move rfl) rfl rfl ?_
  first
   | refine SL.val (Val.addI rfl rfl (by simp only [InR, lo, hi]; omega)) rfl rfl ?_
   | refine SL.val (Val.addW rfl rfl) rfl rfl ?_
  refine SL.val (Val.assign rfl) rfl rfl ?_
  refine SL.nil ?_
  refine SE.round (z.1 + 1, ()) (by first | omega | (dsimp only; omega)) ((by dsimp only; omega)) (by refine ⟨rfl, rfl, rfl, rfl, ?_, rfl, trivial⟩; dsimp only; rw [e8]; rfl) (by dsimp only; rw [e8]; repeat (first | exact List.nil_sublist _ | exact List.Sublist.refl _ | apply List.Sublist.cons_cons | apply List.Sublist.cons))
 intro hc43
 have e8 : (weakTo n me om vs above ((max (n : Int) 1 - 1) / 3 + 1) (z.1 + 1)) = some (ptO (bestF om vs (votesI n me om vs (z.1 : Int)) above ((max (n : Int) 1 - 1) / 3 + 1))) := weakTo_succ.trans (maxO_yes hc33 (.inr hc43))
 refine SC.region ?_
 refine SL.val (Val.to (C := .agg (ptO (bestF om vs (votesI n me om vs (z.1 : Int)) above ((max (n : Int) 1 - 1) / 3 + 1))).abs) (Val.loadA tabOk rfl rfl rfl (by repeat first|assumption|exact o0_|exact o1_|apply o2_) List.not_mem_nil (Pnt.size _)) rfl) rfl rfl ?_
 refine SL.eff (Eff.store (L' := (ptO (bestF om vs (votesI n me om vs (z.1 : Int)) above ((max (n : Int) 1 - 1) / 3 + 1))).abs) tabOk rfl rfl rfl (by repeat first|assumption|exact Upd.here|apply Upd.there) (Pnt.size _) (pnt_le _) (Pnt.ones _) (by exact putL_whole ((Pnt.size _).trans (Pnt.size _).symm))) rfl rfl ?_
 rintro _ _ ⟨rfl, rfl⟩
 refine SL.val (Val.assign rfl) rfl rfl ?_
 refine SL.nil ?_
 refine SE.inBlock ?_
 refine SE.seq ?_
 refine SC.region ?_
 refine SL.val (Val.move rfl) rfl rfl ?_
 first
  | refine SL.val (Val.addI rfl rfl (by simp only [InR, lo, hi]; omega)) rfl rfl ?_
  | refine SL.val (Val.addW rfl rfl) rfl rfl ?_
 refine SL.val (Val.assign rfl) rfl rfl ?_
 refine SL.nil ?_
 refine SE.round (z.1 + 1, ()) (by first | omega | (dsimp only; omega)) ((by dsimp only; omega)) (by refine ⟨rfl, rfl, rfl, rfl, ?_, rfl, trivial⟩; dsimp only; rw [e8]; rfl) (by dsimp only; rw [e8]; repeat (first | exact List.nil_sublist _ | exact List.Sublist.refl _ | apply List.Sublist.cons_cons | apply List.Sublist.cons))
end
end Go.Proofs.Ytjbikemecdlolaa.A
/-
  Points: the document's Vote, Own.
-/
namespace Go.Proofs.Ytjbikemecdlolaa.A
open Go.RowKit

section
variable {n me : Nat} {om : List (Int × Ow)} {vs : List (List Pnt)} {bp bm : Nat} {vv : Value} {x y : Pnt} {who k low above at_ : Int} {o : Ow} {l m : List Pnt} {q : Nat} {ov rv : Value} {rows : List (List UInt8)}
set_option maxHeartbeats 2000000 in
theorem dvote_s (hok : PtsOk n me om vs) (hme : vs[me]? = some []) (hx : InR .i64 x.seq) : Spec Try.prog 19 [ptr bp, int who, .agg x.abs] [.blk bp 53 [int (n : Nat), int (me : Nat), .v ov, .v rv], own 40 1 ov ((dV me om vs).map fun l => [pntsA l]), off_ 23 rv ((rowsP om).map fun b => [byt b])] (fun _ : Unit => [.blk bp 53 [int (n : Nat), int (me : Nat), .v ov, .v rv], own 40 1 ov ((dV me om (voteP n me vs who x).2).map fun l => [pntsA l]), off_ 23 rv ((rowsP om).map fun b => [byt b])]) (fun _ => boo (voteP n me vs who x).1) := by
 refine spec_of Try.func19 rfl Try.ntmps19 rfl fun G w => ?_
 refine SC.seq (SC.region ?_)
 refine SL.eff (Eff.boxA (cs := x.abs) rfl) rfl rfl ?_
 rintro _ _ ⟨b5, rfl, rfl⟩
 refine SL.val (Val.assign rfl) rfl rfl ?_
 refine SL.nil (SE.seq ?_)
 refine SC.seq ?_
 refine SC.seq (SC.region ?_)
 iterate 2 refine SL.val (Val.move rfl) rfl rfl ?_
 refine SL.val (Val.nilCheck rfl) rfl rfl ?_
 refine SL.val (Val.fieldAddr tabOk rfl rfl rfl rfl rfl) rfl rfl ?_
 refine SL.val (Val.load1 tabOk rfl rfl (by repeat first|assumption|exact o0_|exact o1_|apply o2_) List.not_mem_nil (by rfl)) rfl rfl ?_
 refine SL.val (Val.eqI rfl rfl) rfl rfl ?_
 refine SL.val (Val.move rfl) rfl rfl ?_
 refine SL.bothP (t := 16) rfl ?_ ?_
 ·intro hc16
  iterate 2 refine SL.skip rfl rfl ?_
  refine SL.val (Val.pickT rfl rfl) rfl rfl ?_
  refine SL.val (Val.move rfl) rfl rfl ?_
  iterate 6 refine SL.skip rfl rfl ?_
  refine SL.val (Val.pickT rfl rfl) rfl rfl ?_
  refine SL.nil (SE.seq ?_)
  refine SC.condT rfl ?_
  refine SC.seq (SC.region ?_)
  refine SL.val (Val.assign rfl) rfl rfl ?_
  refine SL.nil (SE.seq ?_)
  refine SC.ret ?_
  refine SE.then_ nofun ?_
  have e9 : voteP n me vs who x = (false, vs) := voteP_out (by omega)
  refine SE.fin (rs := [.tmp 6]) rfl (RV.tmp rfl RV.nil) (()) (by rw [e9]; repeat (first | exact List.nil_sublist _ | exact List.Sublist.refl _ | apply List.Sublist.cons_cons | apply List.Sublist.cons)) (by simp [It.rids]) ?_
  rw [e9]
  rfl
 intro hc16
 refine SL.val (Val.move rfl) rfl rfl ?_
 refine SL.val (Val.ltI rfl rfl) rfl rfl ?_
 refine SL.val (Val.pickF rfl rfl) rfl rfl ?_
 refine SL.val (Val.move rfl) rfl rfl ?_
 refine SL.bothP (t := 20) rfl ?_ ?_
 ·intro hc20
  iterate 6 refine SL.skip rfl rfl ?_
  refine SL.val (Val.pickT rfl rfl) rfl rfl ?_
  refine SL.nil (SE.seq ?_)
  refine SC.condT rfl ?_
  refine SC.seq (SC.region ?_)
  refine SL.val (Val.assign rfl) rfl rfl ?_
  refine SL.nil (SE.seq ?_)
  refine SC.ret ?_
  refine SE.then_ nofun ?_
  have e9 : voteP n me vs who x = (false, vs) := voteP_out (by omega)
  refine SE.fin (rs := [.tmp 6]) rfl (RV.tmp rfl RV.nil) (()) (by rw [e9]; repeat (first | exact List.nil_sublist _ | exact List.Sublist.refl _ | apply List.Sublist.cons_cons | apply List.Sublist.cons)) (by simp [It.rids]) ?_
  rw [e9]
  rfl
 intro hc20
 iterate 2 refine SL.val (Val.move rfl) rfl rfl ?_
 refine SL.val (Val.nilCheck rfl) rfl rfl ?_
 refine SL.val (Val.fieldAddr tabOk rfl rfl rfl rfl rfl) rfl rfl ?_
 refine SL.val (Val.load1 tabOk rfl rfl (by repeat first|assumption|exact o0_|exact o1_|apply o2_) List.not_mem_nil (by rfl)) rfl rfl ?_
 refine SL.val (Val.geI rfl rfl) rfl rfl ?_
 refine SL.val (Val.pickF rfl rfl) rfl rfl ?_
 refine SL.nil (SE.seq ?_)
 refine SC.condP rfl ?_ ?_
 ·intro hc27
  refine SC.seq (SC.region ?_)
  refine SL.val (Val.assign rfl) rfl rfl ?_
  refine SL.nil (SE.seq ?_)
  refine SC.ret ?_
  refine SE.then_ nofun ?_
  have e9 : voteP n me vs who x = (false, vs) := voteP_out (by omega)
  refine SE.fin (rs := [.tmp 6]) rfl (RV.tmp rfl RV.nil) (()) (by rw [e9]; repeat (first | exact List.nil_sublist _ | exact List.Sublist.refl _ | apply List.Sublist.cons_cons | apply List.Sublist.cons)) (by simp [It.rids]) ?_
  rw [e9]
  rfl
 intro hc27
 obtain ⟨l, hvl⟩ : ∃ l, vs[who.toNat]? = some l := ⟨_, List.getElem?_eq_getElem (by rw [hok.len]; omega)⟩
 have hlm := List.mem_of_getElem? hvl
 have hl3 := hok.few l hlm
 have hdl := dV_get (who := who.toNat) hok (by omega)
 rw [show votesF me om vs who.toNat = l by unfold votesF; rw [if_neg (by omega), hvl]; rfl] at hdl
 have hdn := (dV_in hok).2
 refine SC.skip ?_
 refine SE.seq ?_
 refine SC.seq (SC.region ?_)
 refine SL.val (Val.move rfl) rfl rfl ?_
 refine SL.val (Val.nilCheck rfl) rfl rfl ?_
 refine SL.val (Val.fieldAddr tabOk rfl rfl rfl rfl rfl) rfl rfl ?_
 refine SL.val (Val.load1 tabOk rfl rfl (by repeat first|assumption|exact o0_|exact o1_|apply o2_) List.not_mem_nil (by rfl)) rfl rfl ?_
 refine SL.val (Val.move rfl) rfl rfl ?_
 refine SL.val (Val.indexOwn (q := who.toNat) tabOk Try.underlying50 rfl rfl (by repeat first|assumption|exact o0_|exact o1_|apply o2_) rfl (by omega) (by rw [List.length_map]; omega) rfl rfl) rfl rfl ?_
 refine SL.val (Val.to (C := pntsA l) (Val.loadOwn1 (q := who.toNat) (s := 1) (cs := [pntsA l]) tabOk rfl rfl (by repeat first|assumption|exact o0_|exact o1_|apply o2_) rfl (by rw [List.getElem?_map, hdl]; rfl) rfl) rfl) rfl rfl ?_
 refine SL.val (Val.assign rfl) rfl rfl ?_
 refine SL.nil (SE.seq ?_)
 refine SC.seq (SC.region ?_)
 refine SL.val (Val.move rfl) rfl rfl ?_
 refine SL.val (Val.fieldAddr tabOk rfl rfl rfl rfl rfl) rfl rfl ?_
 refine SL.val (Val.to (C := int x.seq) (Val.load1 tabOk rfl rfl (by repeat first|assumption|exact o0_|exact o1_|apply o2_) List.not_mem_nil (by rfl)) rfl) rfl rfl ?_
 refine SL.call (dplace_s (l := l) (k := x.seq) (hok.rise l hlm) (by omega)) Casts.refl (by kernel_rfl) rfl rfl rfl ?_
 refine ap_ ?_
 intro _
 refine SL.val (Val.move rfl) rfl rfl ?_
 refine SL.val (Val.extract rfl rfl) rfl rfl ?_
 refine SL.val (Val.extract rfl rfl) rfl rfl ?_
 iterate 2 refine SL.val (Val.assign rfl) rfl rfl ?_
 refine SL.nil (SE.seq ?_)
 refine SC.cutS (ι := Unit) (fun z => [.blk b5 27 x.abs, .blk bp 53 [int (n : Nat), int (me : Nat), .v ov, .v rv], own 40 1 ov ((dV me om vs).map fun l => [pntsA l]), off_ 23 rv ((rowsP om).map fun b => [byt b])]) (fun z => [(0, ptr bp), (1, int who), (5, ptr b5), (7, pntsA l), (8, int (lbP l x.seq : Nat))]) (fun z => voteOk l x = true) ?_ ?_
 ·skip
  refine SC.seq (SC.region ?_)
  iterate 2 refine SL.val (Val.move rfl) rfl rfl ?_
  refine SL.both (t := 43) rfl ?_ ?_
  ·intro hc43
   iterate 7 refine SL.skip rfl rfl ?_
   refine SL.val (Val.pickT rfl rfl) rfl rfl ?_
   refine SL.nil (SE.seq ?_)
   refine SC.condT rfl ?_
   refine SC.seq (SC.region ?_)
   refine SL.val (Val.assign rfl) rfl rfl ?_
   refine SL.nil (SE.seq ?_)
   refine SC.ret ?_
   refine SE.then_ nofun ?_
   have e9 : voteP n me vs who x = (false, vs) := voteP_no (by omega) hvl (by unfold voteOk; simp_all <;> omega)
   refine SE.fin (rs := [.tmp 6]) rfl (RV.tmp rfl RV.nil) (()) (by rw [e9]; repeat (first | exact List.nil_sublist _ | exact List.Sublist.refl _ | apply List.Sublist.cons_cons | apply List.Sublist.cons)) (by simp [It.rids]) ?_
   rw [e9]
   rfl
  intro hc43
  refine SL.val (Val.move rfl) rfl rfl ?_
  refine SL.val (Val.eqI rfl rfl) rfl rfl ?_
  refine SL.val (Val.move rfl) rfl rfl ?_
  refine SL.bothP (t := 46) rfl ?_ ?_
  rotate_left
  ·intro hc46
   iterate 3 refine SL.skip rfl rfl ?_
   refine SL.val (Val.pickF rfl rfl) rfl rfl ?_
   refine SL.val (Val.pickF rfl rfl) rfl rfl ?_
   refine SL.nil (SE.seq ?_)
   refine SC.condF rfl ?_
   refine SC.skip ?_
   refine SE.meet (()) (by unfold voteOk; simp_all <;> omega) (by exact ⟨rfl, rfl, rfl, rfl, rfl, trivial⟩) (by repeat first|exact s0_ _|exact s1_ _|apply s2_|apply s3_)
  intro hc46
  refine SL.val (Val.move rfl) rfl rfl ?_
  first
   | refine SL.val (Val.lenSl rfl Try.underlying40 (List.length_map _)) rfl rfl ?_
   | refine SL.val (Val.lenOwn rfl (by repeat first|assumption|exact m0_|apply m1_) Try.underlying40 (List.length_map _)) rfl rfl ?_
   | refine SL.val (Val.lenNil rfl Try.underlying40) rfl rfl ?_
  refine SL.val (Val.eqI rfl rfl) rfl rfl ?_
  refine SL.val (Val.pickT rfl rfl) rfl rfl ?_
  refine SL.val (Val.pickF rfl rfl) rfl rfl ?_
  refine SL.nil (SE.seq ?_)
  refine SC.condP rfl ?_ ?_
  rotate_left
  ·intro hc51
   refine SC.skip ?_
   refine SE.meet (()) (by unfold voteOk; simp_all <;> omega) (by exact ⟨rfl, rfl, rfl, rfl, rfl, trivial⟩) (by repeat first|exact s0_ _|exact s1_ _|apply s2_|apply s3_)
  intro hc51
  refine SC.seq (SC.region ?_)
  refine SL.val (Val.assign rfl) rfl rfl ?_
  refine SL.nil (SE.seq ?_)
  refine SC.ret ?_
  refine SE.then_ nofun ?_
  have e9 : voteP n me vs who x = (false, vs) := voteP_no (by omega) hvl (by unfold voteOk; simp_all <;> omega)
  refine SE.fin (rs := [.tmp 6]) rfl (RV.tmp rfl RV.nil) (()) (by rw [e9]; repeat (first | exact List.nil_sublist _ | exact List.Sublist.refl _ | apply List.Sublist.cons_cons | apply List.Sublist.cons)) (by simp [It.rids]) ?_
  rw [e9]
  rfl
 ·intro z9 hvo
  refine SC.seq (SC.region ?_)
  iterate 2 refine SL.val (Val.move rfl) rfl rfl ?_
  refine SL.val (Val.to (C := .agg x.abs) (Val.loadA tabOk rfl rfl rfl (by repeat first|assumption|exact o0_|exact o1_|apply o2_) List.not_mem_nil (Pnt.size _)) rfl) rfl rfl ?_
  refine SL.call (dinsert_s (x := x) (l := l) (q := lbP l x.seq) lbP_le (by omega)) Casts.refl (by kernel_rfl) rfl rfl rfl ?_
  refine ap_ ?_
  intro _
  refine SL.val (Val.assign rfl) rfl rfl ?_
  refine SL.nil (SE.seq ?_)
  refine SC.seq ?_
  refine SC.seq (SC.region ?_)
  refine SL.val (Val.move rfl) rfl rfl ?_
  refine SL.val (Val.lenSl (m := (insP l x).length) rfl Try.underlying40 (List.length_map _)) rfl rfl ?_
  refine SL.val (Val.gtI rfl rfl) rfl rfl ?_
  refine SL.nil (SE.seq ?_)
  refine SC.condP rfl ?_ ?_
  rotate_left
  ·intro hc58
   have hil := insP_length (l := l) (x := x)
   have e7 : voteL l x = insP l x := if_neg (by omega)
   refine SC.skip ?_
   refine SE.seq ?_
   refine SC.seq (SC.region ?_)
   refine SL.val (Val.move rfl) rfl rfl ?_
   refine SL.val (Val.nilCheck rfl) rfl rfl ?_
   refine SL.val (Val.fieldAddr tabOk rfl rfl rfl rfl rfl) rfl rfl ?_
   refine SL.val (Val.load1 tabOk rfl rfl (by repeat first|assumption|exact o0_|exact o1_|apply o2_) List.not_mem_nil (by rfl)) rfl rfl ?_
   iterate 2 refine SL.val (Val.move rfl) rfl rfl ?_
   refine SL.val (Val.indexOwn (q := who.toNat) tabOk Try.underlying50 rfl rfl (by repeat first|assumption|exact o0_|exact o1_|apply o2_) rfl (by omega) (by rw [List.length_map]; omega) rfl rfl) rfl rfl ?_
   refine SL.eff (Eff.setOwn (q := who.toNat) (ys := [pntsA (voteL l x)]) tabOk rfl rfl rfl (by repeat first|assumption|exact Upd.here|apply Upd.there) (by rw [e7]; rfl) rfl rfl (by rw [List.length_map]; omega) rfl) rfl rfl ?_
   rintro _ _ ⟨rfl, rfl⟩
   rw [show List.set (List.map (fun l => [pntsA l]) (dV me om vs)) who.toNat [pntsA (voteL l x)] = (dV me om (vs.set who.toNat (voteL l x))).map (fun l => [pntsA l]) by rw [dV_set (by omega)]; exact (List.map_set ..).symm]
   refine SL.nil (SE.seq ?_)
   refine SC.seq (SC.region ?_)
   refine SL.val (Val.assign rfl) rfl rfl ?_
   refine SL.nil (SE.seq ?_)
   refine SC.ret ?_
   have e9 : voteP n me vs who x = (true, vs.set who.toNat (voteL l x)) := voteP_yes (by omega) hvl hvo
   refine SE.fin (rs := [.tmp 6]) rfl (RV.tmp rfl RV.nil) (()) (by rw [e9]; repeat (first | exact List.nil_sublist _ | exact List.Sublist.refl _ | apply List.Sublist.cons_cons | apply List.Sublist.cons)) (by simp [It.rids]) ?_
   rw [e9]
   rfl
  intro hc58
  have hil := insP_length (l := l) (x := x)
  have e7 : voteL l x = (insP l x).drop 1 := if_pos (by omega)
  refine SC.region ?_
  refine SL.val (Val.move rfl) rfl rfl ?_
  refine SL.val (Val.to (C := pntsA ((insP l x).drop 1)) (Val.sliceLo (q := 1) tabOk Try.underlying40 rfl rfl rfl rfl rfl (by show 1 ≤ ((insP l x).map Pnt.abs).length; rw [List.length_map, insP_length]; omega)) (congrArg (Abs.sl 33) List.map_drop.symm)) rfl rfl ?_
  refine SL.val (Val.assign rfl) rfl rfl ?_
  refine SL.nil (SE.seq ?_)
  refine SC.seq (SC.region ?_)
  refine SL.val (Val.move rfl) rfl rfl ?_
  refine SL.val (Val.nilCheck rfl) rfl rfl ?_
  refine SL.val (Val.fieldAddr tabOk rfl rfl rfl rfl rfl) rfl rfl ?_
  refine SL.val (Val.load1 tabOk rfl rfl (by repeat first|assumption|exact o0_|exact o1_|apply o2_) List.not_mem_nil (by rfl)) rfl rfl ?_
  iterate 2 refine SL.val (Val.move rfl) rfl rfl ?_
  refine SL.val (Val.indexOwn (q := who.toNat) tabOk Try.underlying50 rfl rfl (by repeat first|assumption|exact o0_|exact o1_|apply o2_) rfl (by omega) (by rw [List.length_map]; omega) rfl rfl) rfl rfl ?_
  refine SL.eff (Eff.setOwn (q := who.toNat) (ys := [pntsA (voteL l x)]) tabOk rfl rfl rfl (by repeat first|assumption|exact Upd.here|apply Upd.there) (by rw [e7]; rfl) rfl rfl (by rw [List.length_map]; omega) rfl) rfl rfl ?_
  rintro _ _ ⟨rfl, rfl⟩
  rw [show List.set (List.map (fun l => [pntsA l]) (dV me om vs)) who.toNat [pntsA (voteL l x)] = (dV me om (vs.set who.toNat (voteL l x))).map (fun l => [pntsA l]) by rw [dV_set (by omega)]; exact (List.map_set ..).symm]
  refine SL.nil (SE.seq ?_)
  refine SC.seq (SC.region ?_)
  refine SL.val (Val.assign rfl) rfl rfl ?_
  refine SL.nil (SE.seq ?_)
  refine SC.ret ?_
  have e9 : voteP n me vs who x = (true, vs.set who.toNat (voteL l x)) := voteP_yes (by omega) hvl hvo
  refine SE.fin (rs := [.tmp 6]) rfl (RV.tmp rfl RV.nil) (()) (by rw [e9]; repeat (first | exact List.nil_sublist _ | exact List.Sublist.refl _ | apply List.Sublist.cons_cons | apply List.Sublist.cons)) (by simp [It.rids]) ?_
  rw [e9]
  rfl
set_option maxHeartbeats 4000000 in
theorem down_s (hok : PtsOk n me om vs) (hme : vs[me]? = some []) (hk : InR .i64 k) (hb : o.b.length ≤ 100000) : Spec Try.prog 18 [ptr bp, int k, .agg (digA o.dig), byt o.b] [.blk bp 53 [int (n : Nat), int (me : Nat), .v ov, .v rv], own 40 1 ov ((dV me om vs).map fun l => [pntsA l]), off_ 23 rv ((rowsP om).map fun b => [byt b])] (fun rv2 : Value => [.blk bp 53 [int (n : Nat), int (me : Nat), .v ov, .v rv2], own 40 1 ov ((dV me (aput om k o) vs).map fun l => [pntsA l]), off_ 23 rv2 ((rowsP (aput om k o)).map fun b => [byt b])]) (fun _ => .tup []) := by
 refine spec_of Try.func18 rfl Try.ntmps18 rfl fun G w => ?_
 refine SC.seq ?_
 have hol := ownP_length om
 have hom := hok.om
 have hrl := rowsP_length (om := om)
 have hle := lbP_le (l := ownP om) (s := k)
 refine SC.region ?_
 refine SL.eff (Eff.boxA (cs := digA o.dig) rfl) rfl rfl ?_
 rintro _ _ ⟨b6, rfl, rfl⟩
 refine SL.nil (SE.seq ?_)
 refine SC.seq ?_
 refine SC.draw [] (.q 0 (.q 1 (.q 2 (.q 3 (.q 4 (.q 5 (.q 6 (.q 7 (.q 8 (.q 9 (.q 10 .nil))))))))))) (by kernel_rfl) (by kernel_rfl) ?_
 refine SX.val rfl (Val.move rfl) (by simp) rfl rfl ?_
 refine SX.val rfl (Val.nilCheck rfl) (by simp) rfl rfl ?_
 refine SX.val rfl (Val.fieldAddr tabOk rfl rfl rfl rfl rfl) (by simp) rfl rfl ?_
 refine SX.val rfl (Val.load1 tabOk rfl rfl (by repeat first|assumption|exact o0_|exact o1_|apply o2_) List.not_mem_nil (by rfl)) (by simp) rfl rfl ?_
 refine SX.val rfl (Val.move rfl) (by simp) rfl rfl ?_
 refine SX.val rfl (Val.nilCheck rfl) (by simp) rfl rfl ?_
 refine SX.val rfl (Val.fieldAddr tabOk rfl rfl rfl rfl rfl) (by simp) rfl rfl ?_
 refine SX.val rfl (Val.load1 tabOk rfl rfl (by repeat first|assumption|exact o0_|exact o1_|apply o2_) List.not_mem_nil (by rfl)) (by simp) rfl rfl ?_
 refine SX.hx (by first|(simp[mids,It.mids,ownPc];done)|(intro k hk;simp[mids,It.mids,ownPc] at hk ⊢;grind)) fun hx9 => ?_
 refine SX.val rfl (Val.indexOwn (q := me) tabOk Try.underlying50 rfl rfl (by repeat first|assumption|exact o0_|exact o1_|apply o2_) rfl rfl (by rw [List.length_map, (dV_in hok).2]; exact hok.slf) rfl rfl) hx9 rfl rfl ?_
 refine SX.val rfl (Val.to (C := pntsA (ownP om)) (Val.loadOwn1 (q := me) (s := 1) (cs := [pntsA (ownP om)]) tabOk rfl rfl (by repeat first|assumption|exact o0_|exact o1_|apply o2_) rfl (by rw [List.getElem?_map, dV_me hok]; rfl) rfl) rfl) hx9 rfl rfl ?_
 refine SX.val rfl (Val.assign rfl) (by simp) rfl rfl ?_
 refine SX.nil (SE.seq ?_)
 refine SC.seq (SC.region ?_)
 iterate 2 refine SL.val (Val.move rfl) rfl rfl ?_
 refine SL.call (dplace_s (l := ownP om) (k := k) (ownP_rising hok.nd) (by omega)) Casts.refl (by kernel_rfl) rfl rfl rfl ?_
 refine ap_ ?_
 intro _
 refine SL.val (Val.move rfl) rfl rfl ?_
 refine SL.val (Val.extract rfl rfl) rfl rfl ?_
 refine SL.val (Val.extract rfl rfl) rfl rfl ?_
 iterate 2 refine SL.val (Val.assign rfl) rfl rfl ?_
 refine SL.nil (SE.seq ?_)
 refine SC.seq ?_
 refine SC.seq (SC.region ?_)
 refine SL.val (Val.move rfl) rfl rfl ?_
 refine SL.val (Val.notB rfl) rfl rfl ?_
 refine SL.nil (SE.seq ?_)
 refine SC.cond rfl ?_ ?_
 rotate_left
 ·intro hc29
  have hold := own_old (o := o) hok.nd (k := k) (by rw [← there_own]; simpa using hc29)
  refine SC.skip ?_
  refine SE.seq ?_
  refine SC.seq (SC.region ?_)
  refine SL.eff (Eff.buildOwn tabOk Try.underlying40 rfl rfl rfl rfl rfl rfl rfl) rfl rfl ?_
  rintro _ _ ⟨r68, rfl, rfl⟩
  refine SL.val (Val.move rfl) rfl rfl ?_
  refine SL.eff (Eff.appendE (zs := (ownP om).map Pnt.abs) tabOk [] rfl Try.underlying40 rfl rfl rfl rfl rfl rfl (pnts_ones _) (by unfold maxLen; simp only [List.length_nil, List.length_append, List.length_map, List.length_take, List.length_drop, List.length_cons]; omega) (by rw [show Try.prog.bytesOf 27 = 40 by kernel_rfl]; simp only [List.length_nil, List.length_append, List.length_map, List.length_take, List.length_drop, List.length_cons]; omega)) rfl rfl ?_
  rintro _ _ ⟨r70, rfl, rfl⟩
  refine SL.val (Val.assign rfl) rfl rfl ?_
  refine SL.nil (SE.seq ?_)
  refine SC.seq (SC.region ?_)
  iterate 3 refine SL.val (Val.move rfl) rfl rfl ?_
  refine SL.val (Val.loadA tabOk rfl rfl rfl (by repeat first|assumption|exact o0_|exact o1_|apply o2_) List.not_mem_nil (digA_len o.len)) rfl rfl ?_
  refine SL.val (Val.to (C := .agg (⟨k, o.dig, o.len⟩ : Pnt).abs) (Val.buildS tabOk rfl rfl rfl (pnt_fill rfl rfl rfl)) rfl) rfl rfl ?_
  refine SL.val (Val.indexOwn (q := (lbP (ownP om) k)) tabOk Try.underlying40 rfl rfl (by repeat first|assumption|exact o0_|exact o1_|apply o2_) rfl rfl (by rw [List.length_map]; exact hold.1) rfl rfl) rfl rfl ?_
  refine SL.eff (Eff.setOwn (q := (lbP (ownP om) k)) (ys := (⟨k, o.dig, o.len⟩ : Pnt).abs) tabOk rfl rfl rfl (by repeat first|assumption|exact Upd.here|apply Upd.there) rfl rfl (by rw [Pnt.size]; rfl) (by rw [List.length_map]; exact hold.1) (Pnt.ones _)) rfl rfl ?_
  rintro _ _ ⟨rfl, rfl⟩
  rw [show List.set ((ownP om).map Pnt.abs) (lbP (ownP om) k) (⟨k, o.dig, o.len⟩ : Pnt).abs = (ownP (aput om k o)).map Pnt.abs by rw [hold.2.1]; exact (List.map_set ..).symm]
  refine SL.nil (SE.seq ?_)
  refine SC.seq ?_
  refine SC.freeze [] (t := 11) rfl rfl ?_
  refine SC.drawZ [] (.q 0 (.q 1 (.q 2 (.q 3 (.q 4 (.q 5 (.q 6 (.q 7 (.q 8 (.q 9 .nil)))))))))) (by kernel_rfl) (by kernel_rfl) ?_
  refine SX.val rfl (Val.move rfl) (by simp) rfl rfl ?_
  refine SX.val rfl (Val.nilCheck rfl) (by simp) rfl rfl ?_
  refine SX.val rfl (Val.fieldAddr tabOk rfl rfl rfl rfl rfl) (by simp) rfl rfl ?_
  refine SX.val rfl (Val.load1 tabOk rfl rfl (by repeat first|assumption|exact o0_|exact o1_|apply o2_) List.not_mem_nil (by rfl)) (by simp) rfl rfl ?_
  refine SX.val rfl (Val.move rfl) (by simp) rfl rfl ?_
  refine SX.val rfl (Val.nilCheck rfl) (by simp) rfl rfl ?_
  refine SX.val rfl (Val.fieldAddr tabOk rfl rfl rfl rfl rfl) (by simp) rfl rfl ?_
  refine SX.val rfl (Val.load1 tabOk rfl rfl (by repeat first|assumption|exact o0_|exact o1_|apply o2_) List.not_mem_nil (by rfl)) (by simp) rfl rfl ?_
  refine SX.val rfl (Val.move rfl) (by simp) rfl rfl ?_
  refine SX.hx (by first|(simp[mids,It.mids,ownPc];done)|(intro k hk;simp[mids,It.mids,ownPc] at hk ⊢;grind)) fun hx9 => ?_
  refine SX.val rfl (Val.indexOwn (q := me) tabOk Try.underlying50 rfl rfl (by repeat first|assumption|exact o0_|exact o1_|apply o2_) rfl rfl (by rw [List.length_map, (dV_in hok).2]; exact hok.slf) rfl rfl) hx9 rfl rfl ?_
  refine SX.nil ?_
  refine SE.effZ rfl (Eff.setOwn (q := me) (ys := [pntsA (ownP (aput om k o))]) tabOk rfl rfl rfl (by repeat first|assumption|exact Upd.here|apply Upd.there) rfl rfl rfl (by rw [List.length_map, (dV_in hok).2]; exact hok.slf) rfl) rfl rfl ?_
  rintro _ _ ⟨rfl, rfl⟩
  rw [show List.set (List.map (fun l => [pntsA l]) (dV me om vs)) me [pntsA (ownP (aput om k o))] = (dV me (aput om k o) vs).map (fun l => [pntsA l]) by rw [dV_own (om := om) (om2 := aput om k o)]; exact (List.map_set ..).symm]
  refine SE.seq ?_
  refine SC.drawZ [] (.q 0 (.q 1 (.q 2 (.q 3 (.q 4 (.q 6 (.e 5 (.e 7 (.q 8 .nil))))))))) (by kernel_rfl) (by kernel_rfl) ?_
  refine SX.val rfl (Val.move rfl) (by simp) rfl rfl ?_
  refine SX.val rfl (Val.nilCheck rfl) (by simp) rfl rfl ?_
  refine SX.val rfl (Val.fieldAddr tabOk rfl rfl rfl rfl rfl) (by simp) rfl rfl ?_
  refine SX.val rfl (Val.load1 tabOk rfl rfl (by repeat first|assumption|exact o0_|exact o1_|apply o2_) List.not_mem_nil (by rfl)) (by simp) rfl rfl ?_
  refine SX.val rfl (Val.move rfl) (by simp) rfl rfl ?_
  refine SX.val rfl (Val.move rfl) (by simp) rfl rfl ?_
  refine SX.effN [] [] rfl (Eff.buildOwn tabOk Try.underlying23 rfl rfl rfl rfl rfl rfl rfl) rfl (by first | exact own_mid List.mem_cons_self | (simp; done)) rfl rfl ?_
  rintro _ _ ⟨r92, rfl, rfl⟩
  refine ⟨[own 5 1 r92 ((([] : List UInt8)).map fun b => [Abs.v (bc b)])], rfl, ?_⟩
  refine SX.effN [own 5 1 r92 ((([] : List UInt8)).map fun b => [Abs.v (bc b)])] [] rfl (Eff.frozen [] (Eff.appendE (zs := o.b.map fun b => [Abs.v (bc b)]) tabOk [] rfl Try.underlying23 rfl rfl rfl rfl rfl rfl (by intro c hc; obtain ⟨b, _, rfl⟩ := List.mem_map.1 hc; rfl) (by unfold maxLen; simp only [List.length_nil, List.length_append, List.length_map, List.length_take, List.length_drop, List.length_cons]; omega) (by rw [show Try.prog.bytesOf 5 = 1 by kernel_rfl]; simp only [List.length_nil, List.length_append, List.length_map, List.length_take, List.length_drop, List.length_cons]; omega))) rfl (by first | exact own_mid List.mem_cons_self | (simp; done)) rfl rfl ?_
  rintro _ _ ⟨rfl, rfl⟩
  refine ⟨[], rfl, ?_⟩
  refine SX.val rfl (Val.indexOff (q := (lbP (ownP om) k)) tabOk Try.underlying51 rfl rfl (by repeat first|assumption|exact o0_|exact o1_|apply o2_) rfl rfl (by rw [List.length_map, rowsP_length]; exact hold.1) rfl) (by simp [mids]) rfl rfl ?_
  refine SX.nil ?_
  refine SE.effZ rfl (Eff.setOff (q := (lbP (ownP om) k)) tabOk rfl rfl rfl rfl rfl (by repeat first|assumption|exact Upd.here|apply Upd.there) (by rw [List.length_map, rowsP_length]; exact hold.1)) rfl rfl ?_
  rintro _ _ ⟨rfl, rfl⟩
  rw [show List.set ((rowsP om).map fun b => [byt b]) (lbP (ownP om) k) [.sl 1 (o.b.map fun b => [Abs.v (bc b)])] = (rowsP (aput om k o)).map (fun b => [byt b]) by rw [hold.2.2]; exact (List.map_set ..).symm]
  refine SE.finN (rs := []) rfl RV.nil (rv) (by repeat first|exact s0_ _|exact s1_ _|apply s2_|apply s3_) (by simp [It.rids]) ?_
  exact rfl
 intro hc29
 have hc28 : (aget om k).isSome = false := by rw [← there_own]; simpa using hc29
 refine SC.seq ?_
 refine SC.drawZ [] (.q 0 (.q 1 (.q 2 (.q 3 (.q 4 (.q 5 (.q 6 (.q 7 (.q 8 (.q 9 (.q 10 (.q 11 (.q 12 (.e 13 (.q 14 .nil))))))))))))))) (by kernel_rfl) (by kernel_rfl) ?_
 refine SX.val rfl (Val.move rfl) (by simp) rfl rfl ?_
 refine SX.val rfl (Val.nilCheck rfl) (by simp) rfl rfl ?_
 refine SX.val rfl (Val.fieldAddr tabOk rfl rfl rfl rfl rfl) (by simp) rfl rfl ?_
 refine SX.val rfl (Val.load1 tabOk rfl rfl (by repeat first|assumption|exact o0_|exact o1_|apply o2_) List.not_mem_nil (by rfl)) (by simp) rfl rfl ?_
 refine SX.val rfl (Val.move rfl) (by simp) rfl rfl ?_
 refine SX.val rfl (Val.nilCheck rfl) (by simp) rfl rfl ?_
 refine SX.val rfl (Val.fieldAddr tabOk rfl rfl rfl rfl rfl) (by simp) rfl rfl ?_
 refine SX.val rfl (Val.load1 tabOk rfl rfl (by repeat first|assumption|exact o0_|exact o1_|apply o2_) List.not_mem_nil (by rfl)) (by simp) rfl rfl ?_
 refine SX.val rfl (Val.move rfl) (by simp) rfl rfl ?_
 refine SX.val rfl (Val.move rfl) (by simp) rfl rfl ?_
 refine SX.val rfl (Val.move rfl) (by simp) rfl rfl ?_
 refine SX.hx (by first|(simp[mids,It.mids,ownPc];done)|(intro k hk;simp[mids,It.mids,ownPc] at hk ⊢;grind)) fun hx9 => ?_
 refine SX.val rfl (Val.loadA tabOk rfl rfl rfl (by repeat first|assumption|exact o0_|exact o1_|apply o2_) List.not_mem_nil (digA_len o.len)) hx9 rfl rfl ?_
 refine SX.val rfl (Val.to (C := .agg (⟨k, o.dig, o.len⟩ : Pnt).abs) (Val.buildS tabOk rfl rfl rfl (pnt_fill rfl rfl rfl)) rfl) hx9 rfl rfl ?_
 refine SX.call rfl (dinsert_s (x := (⟨k, o.dig, o.len⟩ : Pnt)) (l := ownP om) (q := (lbP (ownP om) k)) lbP_le (by omega)) (by simp [mids, It.mids]) Casts.refl (by kernel_rfl) rfl rfl rfl ?_
 refine ap_ ?_
 intro _
 refine SX.hx (by first|(simp[mids,It.mids,ownPc];done)|(intro k hk;simp[mids,It.mids,ownPc] at hk ⊢;grind)) fun hx9 => ?_
 refine SX.val rfl (Val.indexOwn (q := me) tabOk Try.underlying50 rfl rfl (by repeat first|assumption|exact o0_|exact o1_|apply o2_) rfl rfl (by rw [List.length_map, (dV_in hok).2]; exact hok.slf) rfl rfl) hx9 rfl rfl ?_
 refine SX.nil ?_
 refine SE.effZ rfl (Eff.setOwn (q := me) (ys := [pntsA (ownP (aput om k o))]) tabOk rfl rfl rfl (by repeat first|assumption|exact Upd.here|apply Upd.there) (by rw [(own_new hc28).1]; rfl) rfl rfl (by rw [List.length_map, (dV_in hok).2]; exact hok.slf) rfl) rfl rfl ?_
 rintro _ _ ⟨rfl, rfl⟩
 rw [show List.set (List.map (fun l => [pntsA l]) (dV me om vs)) me [pntsA (ownP (aput om k o))] = (dV me (aput om k o) vs).map (fun l => [pntsA l]) by rw [dV_own (om := om) (om2 := aput om k o)]; exact (List.map_set ..).symm]
 refine SE.seq ?_
 refine SC.seq ?_
 refine SC.freezeOffC (b := bp) [_, _, _] 3 rfl (by repeat first|assumption|exact Upd.here|apply Upd.there) rfl ?_
 refine SC.drawZ [] (.q 0 (.q 2 (.q 3 (.q 4 (.q 5 (.q 6 (.q 7 (.q 10 (.q 14 (.q 15 (.q 16 (.q 17 (.q 18 (.q 19 (.two 1 9 (.two 8 9 (.e 9 (.e 11 (.e 12 (.e 13 (.e 20 (.q 21 (.q 22 .nil))))))) (.e 8 (.e 11 (.e 12 (.e 13 (.e 20 (.q 21 (.q 22 .nil)))))))) (.e 1 (.e 8 (.e 11 (.e 12 (.e 13 (.e 20 (.q 21 (.q 22 .nil))))))))))))))))))))))) (by kernel_rfl) (by kernel_rfl) ?_
 refine SX.val rfl (Val.move rfl) (by simp) rfl rfl ?_
 refine SX.val rfl (Val.move rfl) (by simp) rfl rfl ?_
 refine SX.val rfl (Val.nilCheck rfl) (by simp) rfl rfl ?_
 refine SX.val rfl (Val.fieldAddr tabOk rfl rfl rfl rfl rfl) (by simp) rfl rfl ?_
 refine SX.hx (by first|(simp[mids,It.mids,ownPc];done)|(intro k hk;simp[mids,It.mids,ownPc] at hk ⊢;grind)) fun hx9 => ?_
 refine SX.val rfl (Val.to (C := .sl 1 ((rowsP om).map fun b => [byt b])) (Val.load1 tabOk rfl rfl (by repeat first|assumption|exact o0_|exact o1_|apply o2_) List.not_mem_nil (by rfl)) rfl) hx9 rfl rfl ?_
 refine SX.val rfl (Val.move rfl) (by simp) rfl rfl ?_
 refine SX.val rfl (Val.to (C := .sl 1 (((rowsP om).take (lbP (ownP om) k)).map fun b => [byt b])) (Val.sliceHi (q := (lbP (ownP om) k)) tabOk Try.underlying51 rfl rfl rfl rfl rfl (by rw [List.length_map]; omega)) (congrArg (Abs.sl 1) List.map_take.symm)) hx9 rfl rfl ?_
 refine SX.val rfl (Val.move rfl) (by simp) rfl rfl ?_
 refine SX.val rfl (Val.move rfl) (by simp) rfl rfl ?_
 refine SX.val rfl (Val.nilCheck rfl) (by simp) rfl rfl ?_
 refine SX.val rfl (Val.fieldAddr tabOk rfl rfl rfl rfl rfl) (by simp) rfl rfl ?_
 refine SX.val rfl (Val.to (C := .sl 1 ((rowsP om).map fun b => [byt b])) (Val.load1 tabOk rfl rfl (by repeat first|assumption|exact o0_|exact o1_|apply o2_) List.not_mem_nil (by rfl)) rfl) hx9 rfl rfl ?_
 refine SX.val rfl (Val.move rfl) (by simp) rfl rfl ?_
 refine SX.val rfl (Val.to (C := .sl 1 (((rowsP om).drop (lbP (ownP om) k)).map fun b => [byt b])) (Val.sliceLo (q := (lbP (ownP om) k)) tabOk Try.underlying51 rfl rfl rfl rfl rfl (by rw [List.length_map]; omega)) (congrArg (Abs.sl 1) List.map_drop.symm)) hx9 rfl rfl ?_
 refine SX.two ?_ ?_
 ·skip
  refine SX.effN [] [] rfl (Eff.buildOwn tabOk Try.underlying51 rfl rfl rfl rfl rfl rfl rfl) rfl (by first | exact own_mid List.mem_cons_self | (simp; done)) rfl rfl ?_
  rintro _ _ ⟨r46, rfl, rfl⟩
  refine ⟨[own 23 1 r46 ((([] : List (List UInt8))).map fun b => [byt b])], rfl, ?_⟩
  refine SX.two ?_ ?_
  ·skip
   refine SX.effN [own 23 1 r46 ((([] : List (List UInt8))).map fun b => [byt b])] [] rfl (Eff.appendE (zs := ((rowsP om).take (lbP (ownP om) k)).map fun b => [byt b]) tabOk [] rfl Try.underlying51 rfl rfl rfl rfl rfl rfl (by intro c hc; obtain ⟨b, _, rfl⟩ := List.mem_map.1 hc; rfl) (by unfold maxLen; simp only [List.length_nil, List.length_append, List.length_map, List.length_take, List.length_drop, List.length_cons]; omega) (by rw [show Try.prog.bytesOf 23 = 24 by kernel_rfl]; simp only [List.length_nil, List.length_append, List.length_map, List.length_take, List.length_drop, List.length_cons]; omega)) rfl (by intro k hk; simp [mids, It.mids, ownPc] at hk ⊢; simp [hk]) rfl rfl ?_
   rintro _ _ ⟨r53, rfl, rfl⟩
   refine ⟨[own 23 1 r53 (((rowsP om).take (lbP (ownP om) k)).map fun b => [byt b])], rfl, ?_⟩
   refine SX.effN [own 23 1 r53 (((rowsP om).take (lbP (ownP om) k)).map fun b => [byt b])] [] rfl (Eff.buildOwn tabOk Try.underlying23 rfl rfl rfl rfl rfl rfl rfl) rfl (by first | exact own_mid List.mem_cons_self | (simp; done)) rfl rfl ?_
   rintro _ _ ⟨r54, rfl, rfl⟩
   refine ⟨[own 5 1 r54 ((([] : List UInt8)).map fun b => [Abs.v (bc b)]), own 23 1 r53 (((rowsP om).take (lbP (ownP om) k)).map fun b => [byt b])], rfl, ?_⟩
   refine SX.effN [own 5 1 r54 ((([] : List UInt8)).map fun b => [Abs.v (bc b)]), own 23 1 r53 (((rowsP om).take (lbP (ownP om) k)).map fun b => [byt b])] [] rfl (Eff.frozen [] (Eff.appendE (zs := o.b.map fun b => [Abs.v (bc b)]) tabOk [] rfl Try.underlying23 rfl rfl rfl rfl rfl rfl (by intro c hc; obtain ⟨b, _, rfl⟩ := List.mem_map.1 hc; rfl) (by unfold maxLen; simp only [List.length_nil, List.length_append, List.length_map, List.length_take, List.length_drop, List.length_cons]; omega) (by rw [show Try.prog.bytesOf 5 = 1 by kernel_rfl]; simp only [List.length_nil, List.length_append, List.length_map, List.length_take, List.length_drop, List.length_cons]; omega))) rfl (by intro k hk; simp [mids, It.mids, ownPc] at hk ⊢; simp [hk]) rfl rfl ?_
   rintro _ _ ⟨rfl, rfl⟩
   refine ⟨[own 23 1 r53 (((rowsP om).take (lbP (ownP om) k)).map fun b => [byt b])], rfl, ?_⟩
   refine SX.eff rfl (Eff.buildSl tabOk Try.underlying51 rfl rfl rfl rfl rfl rfl rfl) (by simp) rfl rfl ?_
   rintro _ _ ⟨rfl, rfl⟩
   refine SX.effN [own 23 1 r53 (((rowsP om).take (lbP (ownP om) k)).map fun b => [byt b])] [] rfl (Eff.appendE (zs := ((rowsP om).take (lbP (ownP om) k) ++ [o.b]).map fun b => [byt b]) tabOk [] (by rw [List.map_append]; rfl) Try.underlying51 rfl rfl rfl rfl rfl rfl (by intro c hc; rw [List.mem_singleton] at hc; subst hc; rfl) (by unfold maxLen; simp only [List.length_nil, List.length_append, List.length_map, List.length_take, List.length_drop, List.length_cons]; omega) (by rw [show Try.prog.bytesOf 23 = 24 by kernel_rfl]; simp only [List.length_nil, List.length_append, List.length_map, List.length_take, List.length_drop, List.length_cons]; omega)) rfl (by first | exact own_mid List.mem_cons_self | (simp; done)) rfl rfl ?_
   rintro _ _ ⟨r58, rfl, rfl⟩
   refine ⟨[own 23 1 r58 (((rowsP om).take (lbP (ownP om) k) ++ [o.b]).map fun b => [byt b])], rfl, ?_⟩
   refine SX.effN [own 23 1 r58 (((rowsP om).take (lbP (ownP om) k) ++ [o.b]).map fun b => [byt b])] [] rfl (Eff.appendE (zs := (rowsP (aput om k o)).map fun b => [byt b]) tabOk [] (by rw [(own_new hc28).2]; simp only [List.map_append, List.map_cons, List.map_nil, List.append_assoc, List.singleton_append]) Try.underlying51 rfl rfl rfl rfl rfl rfl (by intro c hc; obtain ⟨b, _, rfl⟩ := List.mem_map.1 hc; rfl) (by unfold maxLen; simp only [List.length_nil, List.length_append, List.length_map, List.length_take, List.length_drop, List.length_cons]; omega) (by rw [show Try.prog.bytesOf 23 = 24 by kernel_rfl]; simp only [List.length_nil, List.length_append, List.length_map, List.length_take, List.length_drop, List.length_cons]; omega)) rfl (by first | exact own_mid List.mem_cons_self | (simp; done)) rfl rfl ?_
   rintro _ _ ⟨r65, rfl, rfl⟩
   refine ⟨[own 23 1 r65 ((rowsP (aput om k o)).map fun b => [byt b])], rfl, ?_⟩
   refine SX.val rfl (Val.nilCheck rfl) (by intro k hk; simp [mids, It.mids, ownPc] at hk ⊢; simp [hk]) rfl rfl ?_
   refine SX.val rfl (Val.fieldAddr tabOk rfl rfl rfl rfl rfl) (by intro k hk; simp [mids, It.mids, ownPc] at hk ⊢; simp [hk]) rfl rfl ?_
   refine SX.nil ?_
   refine SE.effZ rfl (Eff.storeOwn (L' := [int (n : Nat), int (me : Nat), .v ov, .v r65]) tabOk rfl rfl rfl rfl (by repeat first|assumption|exact m0_|apply m1_) (by repeat first|assumption|exact Upd.here|apply Upd.there) rfl (by rfl)) rfl rfl ?_
   rintro _ _ ⟨rfl, rfl⟩
   refine SE.seq ?_
   refine SC.ret ?_
   refine SE.then_ nofun ?_
   refine SE.re [] (Re.offOf (v := r65)) rfl ?_
   refine SE.perm (List.perm_append_singleton _ _) ?_
   refine SE.fin (rs := []) rfl RV.nil (r65) (by repeat first|exact s0_ _|exact s1_ _|apply s2_|apply s3_) (by simp [It.rids]) ?_
   exact rfl
  ·skip
   refine SX.effN [own 23 1 r46 ((([] : List (List UInt8))).map fun b => [byt b])] [] rfl (Eff.buildOwn tabOk Try.underlying23 rfl rfl rfl rfl rfl rfl rfl) rfl (by first | exact own_mid List.mem_cons_self | (simp; done)) rfl rfl ?_
   rintro _ _ ⟨r54, rfl, rfl⟩
   refine ⟨[own 5 1 r54 ((([] : List UInt8)).map fun b => [Abs.v (bc b)]), own 23 1 r46 ((([] : List (List UInt8))).map fun b => [byt b])], rfl, ?_⟩
   refine SX.effN [own 5 1 r54 ((([] : List UInt8)).map fun b => [Abs.v (bc b)]), own 23 1 r46 ((([] : List (List UInt8))).map fun b => [byt b])] [] rfl (Eff.appendE (zs := ((rowsP om).take (lbP (ownP om) k)).map fun b => [byt b]) tabOk [own 5 1 r54 ((([] : List UInt8)).map fun b => [Abs.v (bc b)])] rfl Try.underlying51 rfl rfl rfl rfl rfl rfl (by intro c hc; obtain ⟨b, _, rfl⟩ := List.mem_map.1 hc; rfl) (by unfold maxLen; simp only [List.length_nil, List.length_append, List.length_map, List.length_take, List.length_drop, List.length_cons]; omega) (by rw [show Try.prog.bytesOf 23 = 24 by kernel_rfl]; simp only [List.length_nil, List.length_append, List.length_map, List.length_take, List.length_drop, List.length_cons]; omega)) rfl (by intro k hk; simp [mids, It.mids, ownPc] at hk ⊢; simp [hk]) rfl rfl ?_
   rintro _ _ ⟨r53, rfl, rfl⟩
   refine ⟨[own 5 1 r54 ((([] : List UInt8)).map fun b => [Abs.v (bc b)]), own 23 1 r53 (((rowsP om).take (lbP (ownP om) k)).map fun b => [byt b])], rfl, ?_⟩
   refine SX.effN [own 5 1 r54 ((([] : List UInt8)).map fun b => [Abs.v (bc b)]), own 23 1 r53 (((rowsP om).take (lbP (ownP om) k)).map fun b => [byt b])] [] rfl (Eff.frozen [] (Eff.appendE (zs := o.b.map fun b => [Abs.v (bc b)]) tabOk [] rfl Try.underlying23 rfl rfl rfl rfl rfl rfl (by intro c hc; obtain ⟨b, _, rfl⟩ := List.mem_map.1 hc; rfl) (by unfold maxLen; simp only [List.length_nil, List.length_append, List.length_map, List.length_take, List.length_drop, List.length_cons]; omega) (by rw [show Try.prog.bytesOf 5 = 1 by kernel_rfl]; simp only [List.length_nil, List.length_append, List.length_map, List.length_take, List.length_drop, List.length_cons]; omega))) rfl (by intro k hk; simp [mids, It.mids, ownPc] at hk ⊢; simp [hk]) rfl rfl ?_
   rintro _ _ ⟨rfl, rfl⟩
   refine ⟨[own 23 1 r53 (((rowsP om).take (lbP (ownP om) k)).map fun b => [byt b])], rfl, ?_⟩
   refine SX.eff rfl (Eff.buildSl tabOk Try.underlying51 rfl rfl rfl rfl rfl rfl rfl) (by simp) rfl rfl ?_
   rintro _ _ ⟨rfl, rfl⟩
   refine SX.effN [own 23 1 r53 (((rowsP om).take (lbP (ownP om) k)).map fun b => [byt b])] [] rfl (Eff.appendE (zs := ((rowsP om).take (lbP (ownP om) k) ++ [o.b]).map fun b => [byt b]) tabOk [] (by rw [List.map_append]; rfl) Try.underlying51 rfl rfl rfl rfl rfl rfl (by intro c hc; rw [List.mem_singleton] at hc; subst hc; rfl) (by unfold maxLen; simp only [List.length_nil, List.length_append, List.length_map, List.length_take, List.length_drop, List.length_cons]; omega) (by rw [show Try.prog.bytesOf 23 = 24 by kernel_rfl]; simp only [List.length_nil, List.length_append, List.length_map, List.length_take, List.length_drop, List.length_cons]; omega)) rfl (by first | exact own_mid List.mem_cons_self | (simp; done)) rfl rfl ?_
   rintro _ _ ⟨r58, rfl, rfl⟩
   refine ⟨[own 23 1 r58 (((rowsP om).take (lbP (ownP om) k) ++ [o.b]).map fun b => [byt b])], rfl, ?_⟩
   refine SX.effN [own 23 1 r58 (((rowsP om).take (lbP (ownP om) k) ++ [o.b]).map fun b => [byt b])] [] rfl (Eff.appendE (zs := (rowsP (aput om k o)).map fun b => [byt b]) tabOk [] (by rw [(own_new hc28).2]; simp only [List.map_append, List.map_cons, List.map_nil, List.append_assoc, List.singleton_append]) Try.underlying51 rfl rfl rfl rfl rfl rfl (by intro c hc; obtain ⟨b, _, rfl⟩ := List.mem_map.1 hc; rfl) (by unfold maxLen; simp only [List.length_nil, List.length_append, List.length_map, List.length_take, List.length_drop, List.length_cons]; omega) (by rw [show Try.prog.bytesOf 23 = 24 by kernel_rfl]; simp only [List.length_nil, List.length_append, List.length_map, List.length_take, List.length_drop, List.length_cons]; omega)) rfl (by first | exact own_mid List.mem_cons_self | (simp; done)) rfl rfl ?_
   rintro _ _ ⟨r65, rfl, rfl⟩
   refine ⟨[own 23 1 r65 ((rowsP (aput om k o)).map fun b => [byt b])], rfl, ?_⟩
   refine SX.val rfl (Val.nilCheck rfl) (by intro k hk; simp [mids, It.mids, ownPc] at hk ⊢; simp [hk]) rfl rfl ?_
   refine SX.val rfl (Val.fieldAddr tabOk rfl rfl rfl rfl rfl) (by intro k hk; simp [mids, It.mids, ownPc] at hk ⊢; simp [hk]) rfl rfl ?_
   refine SX.nil ?_
   refine SE.effZ rfl (Eff.storeOwn (L' := [int (n : Nat), int (me : Nat), .v ov, .v r65]) tabOk rfl rfl rfl rfl (by repeat first|assumption|exact m0_|apply m1_) (by repeat first|assumption|exact Upd.here|apply Upd.there) rfl (by rfl)) rfl rfl ?_
   rintro _ _ ⟨rfl, rfl⟩
   refine SE.seq ?_
   refine SC.ret ?_
   refine SE.then_ nofun ?_
   refine SE.re [] (Re.offOf (v := r65)) rfl ?_
   refine SE.perm (List.perm_append_singleton _ _) ?_
   refine SE.fin (rs := []) rfl RV.nil (r65) (by repeat first|exact s0_ _|exact s1_ _|apply s2_|apply s3_) (by simp [It.rids]) ?_
   exact rfl
 ·skip
  refine SX.effN [] [] rfl (Eff.buildOwn tabOk Try.underlying23 rfl rfl rfl rfl rfl rfl rfl) rfl (by first | exact own_mid List.mem_cons_self | (simp; done)) rfl rfl ?_
  rintro _ _ ⟨r54, rfl, rfl⟩
  refine ⟨[own 5 1 r54 ((([] : List UInt8)).map fun b => [Abs.v (bc b)])], rfl, ?_⟩
  refine SX.effN [own 5 1 r54 ((([] : List UInt8)).map fun b => [Abs.v (bc b)])] [] rfl (Eff.buildOwn tabOk Try.underlying51 rfl rfl rfl rfl rfl rfl rfl) rfl (by first | exact own_mid List.mem_cons_self | (simp; done)) rfl rfl ?_
  rintro _ _ ⟨r46, rfl, rfl⟩
  refine ⟨[own 23 1 r46 ((([] : List (List UInt8))).map fun b => [byt b]), own 5 1 r54 ((([] : List UInt8)).map fun b => [Abs.v (bc b)])], rfl, ?_⟩
  refine SX.effN [own 23 1 r46 ((([] : List (List UInt8))).map fun b => [byt b]), own 5 1 r54 ((([] : List UInt8)).map fun b => [Abs.v (bc b)])] [] rfl (Eff.appendE (zs := ((rowsP om).take (lbP (ownP om) k)).map fun b => [byt b]) tabOk [] rfl Try.underlying51 rfl rfl rfl rfl rfl rfl (by intro c hc; obtain ⟨b, _, rfl⟩ := List.mem_map.1 hc; rfl) (by unfold maxLen; simp only [List.length_nil, List.length_append, List.length_map, List.length_take, List.length_drop, List.length_cons]; omega) (by rw [show Try.prog.bytesOf 23 = 24 by kernel_rfl]; simp only [List.length_nil, List.length_append, List.length_map, List.length_take, List.length_drop, List.length_cons]; omega)) rfl (by intro k hk; simp [mids, It.mids, ownPc] at hk ⊢; simp [hk]) rfl rfl ?_
  rintro _ _ ⟨r53, rfl, rfl⟩
  refine ⟨[own 23 1 r53 (((rowsP om).take (lbP (ownP om) k)).map fun b => [byt b]), own 5 1 r54 ((([] : List UInt8)).map fun b => [Abs.v (bc b)])], rfl, ?_⟩
  refine SX.effN [own 23 1 r53 (((rowsP om).take (lbP (ownP om) k)).map fun b => [byt b]), own 5 1 r54 ((([] : List UInt8)).map fun b => [Abs.v (bc b)])] [] rfl (Eff.frozen [own 23 1 r53 (((rowsP om).take (lbP (ownP om) k)).map fun b => [byt b])] (Eff.appendE (zs := o.b.map fun b => [Abs.v (bc b)]) tabOk [own 23 1 r53 (((rowsP om).take (lbP (ownP om) k)).map fun b => [byt b])] rfl Try.underlying23 rfl rfl rfl rfl rfl rfl (by intro c hc; obtain ⟨b, _, rfl⟩ := List.mem_map.1 hc; rfl) (by unfold maxLen; simp only [List.length_nil, List.length_append, List.length_map, List.length_take, List.length_drop, List.length_cons]; omega) (by rw [show Try.prog.bytesOf 5 = 1 by kernel_rfl]; simp only [List.length_nil, List.length_append, List.length_map, List.length_take, List.length_drop, List.length_cons]; omega))) rfl (by intro k hk; simp [mids, It.mids, ownPc] at hk ⊢; simp [hk]) rfl rfl ?_
  rintro _ _ ⟨rfl, rfl⟩
  refine ⟨[own 23 1 r53 (((rowsP om).take (lbP (ownP om) k)).map fun b => [byt b])], rfl, ?_⟩
  refine SX.eff rfl (Eff.buildSl tabOk Try.underlying51 rfl rfl rfl rfl rfl rfl rfl) (by simp) rfl rfl ?_
  rintro _ _ ⟨rfl, rfl⟩
  refine SX.effN [own 23 1 r53 (((rowsP om).take (lbP (ownP om) k)).map fun b => [byt b])] [] rfl (Eff.appendE (zs := ((rowsP om).take (lbP (ownP om) k) ++ [o.b]).map fun b => [byt b]) tabOk [] (by rw [List.map_append]; rfl) Try.underlying51 rfl rfl rfl rfl rfl rfl (by intro c hc; rw [List.mem_singleton] at hc; subst hc; rfl) (by unfold maxLen; simp only [List.length_nil, List.length_append, List.length_map, List.length_take, List.length_drop, List.length_cons]; omega) (by rw [show Try.prog.bytesOf 23 = 24 by kernel_rfl]; simp only [List.length_nil, List.length_append, List.length_map, List.length_take, List.length_drop, List.length_cons]; omega)) rfl (by first | exact own_mid List.mem_cons_self | (simp; done)) rfl rfl ?_
  rintro _ _ ⟨r58, rfl, rfl⟩
  refine ⟨[own 23 1 r58 (((rowsP om).take (lbP (ownP om) k) ++ [o.b]).map fun b => [byt b])], rfl, ?_⟩
  refine SX.effN [own 23 1 r58 (((rowsP om).take (lbP (ownP om) k) ++ [o.b]).map fun b => [byt b])] [] rfl (Eff.appendE (zs := (rowsP (aput om k o)).map fun b => [byt b]) tabOk [] (by rw [(own_new hc28).2]; simp only [List.map_append, List.map_cons, List.map_nil, List.append_assoc, List.singleton_append]) Try.underlying51 rfl rfl rfl rfl rfl rfl (by intro c hc; obtain ⟨b, _, rfl⟩ := List.mem_map.1 hc; rfl) (by unfold maxLen; simp only [List.length_nil, List.length_append, List.length_map, List.length_take, List.length_drop, List.length_cons]; omega) (by rw [show Try.prog.bytesOf 23 = 24 by kernel_rfl]; simp only [List.length_nil, List.length_append, List.length_map, List.length_take, List.length_drop, List.length_cons]; omega)) rfl (by first | exact own_mid List.mem_cons_self | (simp; done)) rfl rfl ?_
  rintro _ _ ⟨r65, rfl, rfl⟩
  refine ⟨[own 23 1 r65 ((rowsP (aput om k o)).map fun b => [byt b])], rfl, ?_⟩
  refine SX.val rfl (Val.nilCheck rfl) (by intro k hk; simp [mids, It.mids, ownPc] at hk ⊢; simp [hk]) rfl rfl ?_
  refine SX.val rfl (Val.fieldAddr tabOk rfl rfl rfl rfl rfl) (by intro k hk; simp [mids, It.mids, ownPc] at hk ⊢; simp [hk]) rfl rfl ?_
  refine SX.nil ?_
  refine SE.effZ rfl (Eff.storeOwn (L' := [int (n : Nat), int (me : Nat), .v ov, .v r65]) tabOk rfl rfl rfl rfl (by repeat first|assumption|exact m0_|apply m1_) (by repeat first|assumption|exact Upd.here|apply Upd.there) rfl (by rfl)) rfl rfl ?_
  rintro _ _ ⟨rfl, rfl⟩
  refine SE.seq ?_
  refine SC.ret ?_
  refine SE.then_ nofun ?_
  refine SE.re [] (Re.offOf (v := r65)) rfl ?_
  refine SE.perm (List.perm_append_singleton _ _) ?_
  refine SE.fin (rs := []) rfl RV.nil (r65) (by repeat first|exact s0_ _|exact s1_ _|apply s2_|apply s3_) (by simp [It.rids]) ?_
  exact rfl
end
end Go.Proofs.Ytjbikemecdlolaa.A
/-
  Points: the document's Move.
-/
namespace Go.Proofs.Ytjbikemecdlolaa.A
open Go.RowKit

theorem at_drop {l : List Pnt} {z : Nat} (h : z < l.length) : ((l.drop z).map Pnt.abs)[0]? = some (l[z]'h).abs := by
  rw [List.getElem?_map, List.getElem?_drop, Nat.add_zero, List.getElem?_eq_getElem h]
  rfl
theorem dz_me {n me : Nat} {om : List (Int × Ow)} {vs l} (h : PtsOk n me om vs) : ((dV me om vs).set me l)[me]? = some l := by
  rw [List.getElem?_set_self]
  have h1 := (dV_in h).2
  have h2 := h.slf
  omega
section
variable {n me : Nat} {om : List (Int × Ow)} {vs : List (List Pnt)} {bp bm : Nat} {vv : Value} {x y : Pnt} {who k low above at_ : Int} {o : Ow} {l m : List Pnt} {q : Nat} {ov rv : Value} {rows : List (List UInt8)}
set_option maxHeartbeats 2000000 in
theorem dmove_s (hok : PtsOk n me om vs) (hme : vs[me]? = some []) : Spec Try.prog 20 [ptr bp, int low] [.blk bp 53 [int (n : Nat), int (me : Nat), .v ov, .v rv], own 40 1 ov ((dV me om vs).map fun l => [pntsA l]), off_ 23 rv ((rowsP om).map fun b => [byt b])] (fun rv2 : Value => [.blk bp 53 [int (n : Nat), int (me : Nat), .v ov, .v rv2], own 40 1 ov ((dV me (om.filter fun e => !decide (e.1 < low)) vs).map fun l => [pntsA l]), off_ 23 rv2 ((rowsP (om.filter fun e => !decide (e.1 < low))).map fun b => [byt b])]) (fun _ => .tup []) := by
 refine spec_of Try.func20 rfl Try.ntmps20 rfl fun G w => ?_
 refine SC.block ?_
 refine SC.loop (ι := Nat × Value) (fun z => [.blk bp 53 [int (n : Nat), int (me : Nat), .v ov, .v z.2], own 40 1 ov ((((dV me om vs).set me ((ownP om).drop z.1))).map fun l => [pntsA l]), off_ 23 z.2 ((((rowsP om).drop z.1)).map fun b => [byt b])]) (fun z => [(0, ptr bp), (1, int low)]) (fun z => z.1 ≤ (ownP om).length ∧ ∀ j (hj : j < (ownP om).length), j < z.1 → (ownP om)[j].seq < low) (fun z => (ownP om).length - z.1) (0, rv) (⟨Nat.zero_le _, fun j hj h => by omega⟩) (by exact ⟨rfl, rfl, trivial⟩) (by dsimp only; rw [List.drop_zero, List.drop_zero, show (dV me om vs).set me (ownP om) = dV me om vs from (dV_own (om := om) (om2 := om)).symm]; repeat (first | exact List.nil_sublist _ | exact List.Sublist.refl _ | apply List.Sublist.cons_cons | apply List.Sublist.cons)) ?_
 intro z hz
 refine SC.seq ?_
 refine SC.seq ?_
 have hol := ownP_length om
 have hom := hok.om
 refine SC.draw [] (.q 0 (.q 1 (.q 2 (.q 3 (.q 4 (.q 5 (.q 6 (.q 7 (.q 8 (.q 9 (.q 10 (.q 11 (.q 12 (.q 13 (.q 14 (.q 15 (.q 16 (.q 17 (.q 18 (.q 19 (.q 20 (.q 21 (.q 22 (.q 23 (.q 24 (.q 25 (.q 26 (.q 27 (.q 28 .nil))))))))))))))))))))))))))))) (by kernel_rfl) (by kernel_rfl) ?_
 refine SX.val rfl (Val.move rfl) (by simp) rfl rfl ?_
 refine SX.val rfl (Val.nilCheck rfl) (by simp) rfl rfl ?_
 refine SX.val rfl (Val.fieldAddr tabOk rfl rfl rfl rfl rfl) (by simp) rfl rfl ?_
 refine SX.val rfl (Val.load1 tabOk rfl rfl (by repeat first|assumption|exact o0_|exact o1_|apply o2_) List.not_mem_nil (by rfl)) (by simp) rfl rfl ?_
 refine SX.val rfl (Val.move rfl) (by simp) rfl rfl ?_
 refine SX.val rfl (Val.nilCheck rfl) (by simp) rfl rfl ?_
 refine SX.val rfl (Val.fieldAddr tabOk rfl rfl rfl rfl rfl) (by simp) rfl rfl ?_
 refine SX.val rfl (Val.load1 tabOk rfl rfl (by repeat first|assumption|exact o0_|exact o1_|apply o2_) List.not_mem_nil (by rfl)) (by simp) rfl rfl ?_
 refine SX.hx (by first|(simp[mids,It.mids,ownPc];done)|(intro k hk;simp[mids,It.mids,ownPc] at hk ⊢;grind)) fun hx9 => ?_
 refine SX.val rfl (Val.indexOwn (q := me) tabOk Try.underlying50 rfl rfl (by repeat first|assumption|exact o0_|exact o1_|apply o2_) rfl rfl (by rw [List.length_map, List.length_set, (dV_in hok).2]; exact hok.slf) rfl rfl) hx9 rfl rfl ?_
 refine SX.val rfl (Val.to (C := pntsA ((ownP om).drop z.1)) (Val.loadOwn1 (q := me) (s := 1) (cs := [pntsA ((ownP om).drop z.1)]) tabOk rfl rfl (by repeat first|assumption|exact o0_|exact o1_|apply o2_) rfl (by rw [List.getElem?_map, dz_me hok]; rfl) rfl) rfl) hx9 rfl rfl ?_
 refine SX.val rfl (Val.lenSl (m := (ownP om).length - z.1) rfl Try.underlying40 (by rw [List.length_map, List.length_drop])) hx9 rfl rfl ?_
 refine SX.val rfl (Val.gtI rfl rfl) (by simp) rfl rfl ?_
 refine SX.val rfl (Val.move rfl) (by simp) rfl rfl ?_
 refine SX.bothP (t := 16) rfl ?_ ?_
 rotate_left
 ·intro hc16
  iterate 15 refine SX.skip rfl rfl rfl ?_
  refine SX.val rfl (Val.pickF rfl rfl) (by simp) rfl rfl ?_
  refine SX.nil (SE.seq ?_)
  refine SC.condF rfl ?_
  refine SC.exit ?_
  refine SE.then_ nofun ?_
  refine SE.then_ nofun ?_
  refine SE.exit ?_
  obtain ⟨e1, e2⟩ := own_move (low := low) hok.nd hz.1 hz.2 (fun h => by first | exact hc32 | omega)
  refine SE.finN (rs := []) rfl RV.nil (z.2) (by rw [dV_own (om := om), e1, e2]; repeat (first | exact List.nil_sublist _ | exact List.Sublist.refl _ | apply List.Sublist.cons_cons | apply List.Sublist.cons)) (by simp [It.rids]) ?_
  exact rfl
 intro hc16
 have hlt : z.1 < (ownP om).length := by omega
 have hrl : (List.map (fun b => [byt b]) ((rowsP om).drop z.1)).length = (ownP om).length - z.1 := by rw [List.length_map, List.length_drop, rowsP_length]
 have hnr : List.map (fun b => [byt b]) ((rowsP om).drop z.1) ≠ [] := by intro h0; rw [h0, List.length_nil] at hrl; omega
 have hle : 1 ≤ (List.map (fun b => [byt b]) ((rowsP om).drop z.1)).length := by omega
 refine SX.val rfl (Val.move rfl) (by simp) rfl rfl ?_
 refine SX.val rfl (Val.nilCheck rfl) (by simp) rfl rfl ?_
 refine SX.val rfl (Val.fieldAddr tabOk rfl rfl rfl rfl rfl) (by simp) rfl rfl ?_
 refine SX.val rfl (Val.load1 tabOk rfl rfl (by repeat first|assumption|exact o0_|exact o1_|apply o2_) List.not_mem_nil (by rfl)) (by simp) rfl rfl ?_
 refine SX.val rfl (Val.move rfl) (by simp) rfl rfl ?_
 refine SX.val rfl (Val.nilCheck rfl) (by simp) rfl rfl ?_
 refine SX.val rfl (Val.fieldAddr tabOk rfl rfl rfl rfl rfl) (by simp) rfl rfl ?_
 refine SX.val rfl (Val.load1 tabOk rfl rfl (by repeat first|assumption|exact o0_|exact o1_|apply o2_) List.not_mem_nil (by rfl)) (by simp) rfl rfl ?_
 refine SX.val rfl (Val.indexOwn (q := me) tabOk Try.underlying50 rfl rfl (by repeat first|assumption|exact o0_|exact o1_|apply o2_) rfl rfl (by rw [List.length_map, List.length_set, (dV_in hok).2]; exact hok.slf) rfl rfl) hx9 rfl rfl ?_
 refine SX.val rfl (Val.to (C := pntsA ((ownP om).drop z.1)) (Val.loadOwn1 (q := me) (s := 1) (cs := [pntsA ((ownP om).drop z.1)]) tabOk rfl rfl (by repeat first|assumption|exact o0_|exact o1_|apply o2_) rfl (by rw [List.getElem?_map, dz_me hok]; rfl) rfl) rfl) hx9 rfl rfl ?_
 refine SX.val rfl (Val.indexSl (q := 0) tabOk Try.underlying40 rfl rfl rfl rfl (at_drop hlt) rfl rfl) hx9 rfl rfl ?_
 first
  | refine SX.val rfl (Val.fieldAddr tabOk rfl rfl rfl rfl rfl) (by simp) rfl rfl ?_
  | refine SX.val rfl (Val.fieldAddrR tabOk rfl rfl rfl rfl rfl) (by simp) rfl rfl ?_
 refine SX.val rfl (Val.to (C := int (((ownP om)[z.1]'hlt).seq)) (Val.load1R tabOk rfl rfl rfl) rfl) hx9 rfl rfl ?_
 refine SX.val rfl (Val.move rfl) (by simp) rfl rfl ?_
 refine SX.val rfl (Val.ltI rfl rfl) (by simp) rfl rfl ?_
 refine SX.val rfl (Val.pickT rfl rfl) (by simp) rfl rfl ?_
 refine SX.nil (SE.seq ?_)
 refine SC.condP rfl ?_ ?_
 rotate_left
 ·intro hc32
  refine SC.exit ?_
  refine SE.then_ nofun ?_
  refine SE.then_ nofun ?_
  refine SE.exit ?_
  obtain ⟨e1, e2⟩ := own_move (low := low) hok.nd hz.1 hz.2 (fun h => by first | exact hc32 | omega)
  refine SE.finN (rs := []) rfl RV.nil (z.2) (by rw [dV_own (om := om), e1, e2]; repeat (first | exact List.nil_sublist _ | exact List.Sublist.refl _ | apply List.Sublist.cons_cons | apply List.Sublist.cons)) (by simp [It.rids]) ?_
  exact rfl
 intro hc32
 refine SC.skip ?_
 refine SE.seq ?_
 refine SC.block ?_
 refine SC.seq ?_
 refine SC.drawZ [] (.q 0 (.q 1 (.q 2 (.q 3 (.q 4 (.q 5 (.q 6 (.q 7 (.q 8 (.q 9 (.q 10 (.q 11 (.q 12 (.q 13 (.q 14 (.q 15 (.q 16 (.q 17 (.q 18 (.q 19 .nil)))))))))))))))))))) (by kernel_rfl) (by kernel_rfl) ?_
 refine SX.val rfl (Val.move rfl) (by simp) rfl rfl ?_
 refine SX.val rfl (Val.nilCheck rfl) (by simp) rfl rfl ?_
 refine SX.val rfl (Val.fieldAddr tabOk rfl rfl rfl rfl rfl) (by simp) rfl rfl ?_
 refine SX.val rfl (Val.load1 tabOk rfl rfl (by repeat first|assumption|exact o0_|exact o1_|apply o2_) List.not_mem_nil (by rfl)) (by simp) rfl rfl ?_
 refine SX.val rfl (Val.move rfl) (by simp) rfl rfl ?_
 refine SX.val rfl (Val.nilCheck rfl) (by simp) rfl rfl ?_
 refine SX.val rfl (Val.fieldAddr tabOk rfl rfl rfl rfl rfl) (by simp) rfl rfl ?_
 refine SX.val rfl (Val.load1 tabOk rfl rfl (by repeat first|assumption|exact o0_|exact o1_|apply o2_) List.not_mem_nil (by rfl)) (by simp) rfl rfl ?_
 refine SX.val rfl (Val.move rfl) (by simp) rfl rfl ?_
 refine SX.val rfl (Val.nilCheck rfl) (by simp) rfl rfl ?_
 refine SX.val rfl (Val.fieldAddr tabOk rfl rfl rfl rfl rfl) (by simp) rfl rfl ?_
 refine SX.val rfl (Val.load1 tabOk rfl rfl (by repeat first|assumption|exact o0_|exact o1_|apply o2_) List.not_mem_nil (by rfl)) (by simp) rfl rfl ?_
 refine SX.val rfl (Val.move rfl) (by simp) rfl rfl ?_
 refine SX.val rfl (Val.nilCheck rfl) (by simp) rfl rfl ?_
 refine SX.val rfl (Val.fieldAddr tabOk rfl rfl rfl rfl rfl) (by simp) rfl rfl ?_
 refine SX.val rfl (Val.load1 tabOk rfl rfl (by repeat first|assumption|exact o0_|exact o1_|apply o2_) List.not_mem_nil (by rfl)) (by simp) rfl rfl ?_
 refine SX.hx (by first|(simp[mids,It.mids,ownPc];done)|(intro k hk;simp[mids,It.mids,ownPc] at hk ⊢;grind)) fun hx9 => ?_
 refine SX.val rfl (Val.indexOwn (q := me) tabOk Try.underlying50 rfl rfl (by repeat first|assumption|exact o0_|exact o1_|apply o2_) rfl rfl (by rw [List.length_map, List.length_set, (dV_in hok).2]; exact hok.slf) rfl rfl) hx9 rfl rfl ?_
 refine SX.val rfl (Val.to (C := pntsA ((ownP om).drop z.1)) (Val.loadOwn1 (q := me) (s := 1) (cs := [pntsA ((ownP om).drop z.1)]) tabOk rfl rfl (by repeat first|assumption|exact o0_|exact o1_|apply o2_) rfl (by rw [List.getElem?_map, dz_me hok]; rfl) rfl) rfl) hx9 rfl rfl ?_
 refine SX.val rfl (Val.to (C := pntsA ((ownP om).drop (z.1 + 1))) (Val.sliceLo (q := 1) tabOk Try.underlying40 rfl rfl rfl rfl rfl (by show 1 ≤ (((ownP om).drop z.1).map Pnt.abs).length; rw [List.length_map, List.length_drop]; omega)) (congrArg (Abs.sl 33) (by rw [← List.map_drop, List.drop_drop]))) hx9 rfl rfl ?_
 refine SX.val rfl (Val.indexOwn (q := me) tabOk Try.underlying50 rfl rfl (by repeat first|assumption|exact o0_|exact o1_|apply o2_) rfl rfl (by rw [List.length_map, List.length_set, (dV_in hok).2]; exact hok.slf) rfl rfl) hx9 rfl rfl ?_
 refine SX.nil ?_
 refine SE.effZ rfl (Eff.setOwn (q := me) (ys := [pntsA ((ownP om).drop (z.1 + 1))]) tabOk rfl rfl rfl (by repeat first|assumption|exact Upd.here|apply Upd.there) rfl rfl rfl (by rw [List.length_map, List.length_set, (dV_in hok).2]; exact hok.slf) rfl) rfl rfl ?_
 rintro _ _ ⟨rfl, rfl⟩
 rw [show List.set (List.map (fun l => [pntsA l]) ((dV me om vs).set me ((ownP om).drop z.1))) me [pntsA ((ownP om).drop (z.1 + 1))] = ((dV me om vs).set me ((ownP om).drop (z.1 + 1))).map (fun l => [pntsA l]) by rw [show ((dV me om vs).set me ((ownP om).drop (z.1 + 1))) = ((dV me om vs).set me ((ownP om).drop z.1)).set me ((ownP om).drop (z.1 + 1)) from (List.set_set ..).symm]; exact (List.map_set ..).symm]
 refine SE.seq ?_
 refine SC.region ?_
 iterate 2 refine SL.val (Val.move rfl) rfl rfl ?_
 refine SL.val (Val.nilCheck rfl) rfl rfl ?_
 refine SL.val (Val.fieldAddr tabOk rfl rfl rfl rfl rfl) rfl rfl ?_
 refine SL.val (Val.load1 tabOk rfl rfl (by repeat first|assumption|exact o0_|exact o1_|apply o2_) List.not_mem_nil (by rfl)) rfl rfl ?_
 refine SL.val (Val.cutOff (q := 1) tabOk Try.underlying51 rfl rfl rfl (by repeat first|assumption|exact o0_|exact o1_|apply o2_) rfl rfl hnr hle) rfl rfl ?_
 refine SL.cutOff (q := 1) (by repeat first|assumption|exact Upd.here|apply Upd.there) hnr hle ?_
 refine SL.val (Val.nilCheck rfl) rfl rfl ?_
 refine SL.val (Val.fieldAddr tabOk rfl rfl rfl rfl rfl) rfl rfl ?_
 refine SL.eff (Eff.storeOff (L' := [int (n : Nat), int (me : Nat), .v ov, .v (cutS 1 z.2 1)]) tabOk rfl rfl rfl rfl (by repeat first|assumption|exact m0_|apply m1_) (by repeat first|assumption|exact Upd.here|apply Upd.there) rfl (by rfl)) rfl rfl ?_
 rintro _ _ ⟨rfl, rfl⟩
 rw [show (List.map (fun b => [byt b]) ((rowsP om).drop z.1)).drop 1 = List.map (fun b => [byt b]) ((rowsP om).drop (z.1 + 1)) by rw [← List.map_drop, List.drop_drop]]
 refine SL.nil ?_
 refine SE.inBlock ?_
 refine SE.round (z.1 + 1, cutS 1 z.2 1) (by first | omega | (dsimp only; omega)) (⟨by dsimp only; omega, fun j hj h => by
  rcases Nat.lt_or_ge j z.1 with h1 | h1
  ·exact hz.2 j hj h1
  ·obtain rfl : j = z.1 := (by dsimp only at h; omega)
   exact hc32⟩) (by exact ⟨rfl, rfl, trivial⟩) (by repeat first|exact s0_ _|exact s1_ _|apply s2_|apply s3_)
end
end Go.Proofs.Ytjbikemecdlolaa.A
