/-
  Packed out of the texts: CT11.
-/
import Derived.Test.YtnedfcaoggkmnaaGreatDoorQ014
/-
  TimelineEvents: the law.
-/
set_option maxRecDepth 100000
set_option linter.unusedSimpArgs false
set_option linter.unusedVariables false
namespace Go.Proofs.YtnedfcaoggkmnaaGreatDoor.A
open Go.RowKit

theorem optSome {α : Type} {o : Option α} (h : o.isSome = true) : ∃ v, o = some v := Option.isSome_iff_exists.1 h
theorem optNone {α : Type} {o : Option α} (h : o.isSome = false) : o = none := by simpa using h
section
variable {name : ByteArray} {n state : Int} {l : Lg} {h : List (List Ent)} {x : Ltr} {e1 e2 : Value}
set_option maxHeartbeats 4000000 in
theorem tevents_s (he : isIf e1) (hr : isIf e2) (hh : HisIns h) : Spec Tryz.prog 3 [histA h, int n, st name] (globs e1 e2) (fun _ : Unit => []) (fun _ => boo true) := by
  have hnl := fun (g : ∀ b ∈ h, b.length ≤ 10) => evsH_len (n := n) h 0 Lg.zero g
  refine spec_of Tryz.func3 rfl Tryz.ntmps3 rfl fun G w => ?_
  refine SC.seq (SC.region ?_)
  refine SL.val (Val.assign rfl) rfl rfl ?_
  refine SL.nil (SE.seq ?_)
  refine SC.seq ?_
  refine SC.seq (SC.region ?_)
  refine SL.call (fixed42_s he hr) Casts.refl (by kernel_rfl) rfl rfl rfl ?_
  refine After.pure (by repeat (first | exact Reads.nil | (refine Reads.blk ?_ ?_; focus ((repeat first|assumption|exact m0|apply m1); done)) | (refine Reads.rd ?_ ?_; focus ((repeat first|assumption|exact m0|apply m1); done)) | (refine Reads.pc ?_ ?_; focus ((repeat first|assumption|exact m0|apply m1); done)) | (refine Reads.rdpc ?_ ?_; focus ((repeat first|assumption|exact m0|apply m1); done)))) (fun _ => rfl) ?_
  intro _
  refine SL.val (Val.notT rfl) rfl rfl ?_
  refine SL.nil (SE.seq ?_)
  refine SC.condF rfl ?_
  refine SC.skip ?_
  refine SE.seq ?_
  refine SC.seq ?_
  refine SC.seq (SC.region ?_)
  refine SL.val (Val.move rfl) rfl rfl ?_
  refine SL.call (few42_s (h := h)) Casts.refl (by kernel_rfl) rfl rfl rfl ?_
  refine After.pure (by repeat (first | exact Reads.nil | (refine Reads.blk ?_ ?_; focus ((repeat first|assumption|exact m0|apply m1); done)) | (refine Reads.rd ?_ ?_; focus ((repeat first|assumption|exact m0|apply m1); done)) | (refine Reads.pc ?_ ?_; focus ((repeat first|assumption|exact m0|apply m1); done)) | (refine Reads.rdpc ?_ ?_; focus ((repeat first|assumption|exact m0|apply m1); done)))) (fun _ => rfl) ?_
  intro _
  refine SL.val (Val.notP rfl) rfl rfl ?_
  refine SL.nil (SE.seq ?_)
  refine SC.condP rfl ?_ ?_
  · intro hc20
    refine SC.seq (SC.region ?_)
    refine SL.val (Val.assign rfl) rfl rfl ?_
    refine SL.nil (SE.seq ?_)
    refine SC.ret ?_
    refine SE.then_ (by intro h; cases h) ?_
    refine SE.fin (rs := [.tmp 6]) rfl (RV.tmp rfl RV.nil) (()) (by repeat first|exact s0 _|exact s1 _|apply s2|apply s3) (by simp [It.rids]) ?_
    exact rfl
  intro hc20
  have hfw : FewH h := Classical.byContradiction hc20
  have hro : ∀ b ∈ h, b.length ≤ 10 := fun b hb => hfw.row hb
  have hn40 : h.length ≤ 40 := hfw.len
  have hss := hfw.szs
  have hel := hnl hro
  refine SC.skip ?_
  refine SE.seq ?_
  refine SC.seq (SC.region ?_)
  refine SL.val (Val.move rfl) rfl rfl ?_
  refine SL.val (Val.move rfl) rfl rfl ?_
  refine SL.call (rall_s (n := n) hh hro hn40 hss) Casts.refl (by kernel_rfl) rfl rfl rfl ?_
  refine After.pure (by repeat (first | exact Reads.nil | (refine Reads.blk ?_ ?_; focus ((repeat first|assumption|exact m0|apply m1); done)) | (refine Reads.rd ?_ ?_; focus ((repeat first|assumption|exact m0|apply m1); done)) | (refine Reads.pc ?_ ?_; focus ((repeat first|assumption|exact m0|apply m1); done)) | (refine Reads.rdpc ?_ ?_; focus ((repeat first|assumption|exact m0|apply m1); done)))) (fun _ => rfl) ?_
  intro _
  refine SL.val (Val.move rfl) rfl rfl ?_
  refine SL.val (Val.extract rfl rfl) rfl rfl ?_
  refine SL.val (Val.extract rfl rfl) rfl rfl ?_
  refine SL.val (Val.assign rfl) rfl rfl ?_
  refine SL.val (Val.assign rfl) rfl rfl ?_
  refine SL.nil (SE.seq ?_)
  refine SC.seq (SC.region ?_)
  refine SL.val (Val.move rfl) rfl rfl ?_
  refine SL.val (Val.move rfl) rfl rfl ?_
  refine SL.val (Val.move rfl) rfl rfl ?_
  refine SL.call (events_s (name := name) (n := n) (h := h) he hr hh hro hn40) Casts.refl (by kernel_rfl) rfl rfl rfl ?_
  refine After.pure (by repeat (first | exact Reads.nil | (refine Reads.blk ?_ ?_; focus ((repeat first|assumption|exact m0|apply m1); done)) | (refine Reads.rd ?_ ?_; focus ((repeat first|assumption|exact m0|apply m1); done)) | (refine Reads.pc ?_ ?_; focus ((repeat first|assumption|exact m0|apply m1); done)) | (refine Reads.rdpc ?_ ?_; focus ((repeat first|assumption|exact m0|apply m1); done)))) (fun _ => rfl) ?_
  intro _
  refine SL.val (Val.assign rfl) rfl rfl ?_
  refine SL.nil (SE.seq ?_)
  refine SC.seq (SC.region ?_)
  refine SL.val (Val.move rfl) rfl rfl ?_
  refine SL.val (Val.move rfl) rfl rfl ?_
  refine SL.call (refused_s (n := n) (h := h) he hr hh hro hn40) Casts.refl (by kernel_rfl) rfl rfl rfl ?_
  refine After.make (by repeat (first | exact Reads.nil | (refine Reads.blk ?_ ?_; focus ((repeat first|assumption|exact m0|apply m1); done)) | (refine Reads.rd ?_ ?_; focus ((repeat first|assumption|exact m0|apply m1); done)) | (refine Reads.pc ?_ ?_; focus ((repeat first|assumption|exact m0|apply m1); done)) | (refine Reads.rdpc ?_ ?_; focus ((repeat first|assumption|exact m0|apply m1); done)))) (fun _ => rfl) ?_
  intro mR
  refine SL.val (Val.assign rfl) rfl rfl ?_
  refine SL.nil (SE.seq ?_)
  refine SC.seq (SC.region ?_)
  refine SL.val (Val.assign rfl) rfl rfl ?_
  refine SL.nil (SE.seq ?_)
  refine SC.seq ?_
  refine SC.seq (SC.region ?_)
  refine SL.val (Val.move rfl) rfl rfl ?_
  refine SL.val (Val.to (C := int ((evsH n 0 Lg.zero h).length : Nat)) (Val.lenSl (m := (evsH n 0 Lg.zero h).length) rfl Tryz.underlying25 (by rw [List.length_map, List.length_map])) rfl) rfl rfl ?_
  refine SL.val (Val.move rfl) rfl rfl ?_
  refine SL.nil (SE.seq ?_)
  refine SC.block ?_
  refine SC.loop (ι := Nat × List (Int × Nat)) (fun z => (.pc (mapPc mR intK cntV intOk z.2) :: (globs e1 e2))) (fun z => [(2, st name), (7, .sl 6 (((evsH n 0 Lg.zero h).map (·.1)).map Ev.abs)), (8, .sl 1 (((evsH n 0 Lg.zero h).map (·.2)).map fun x => [st x])), (9, evsA (evN n h name)), (10, mapV mR), (11, int (((((evsH n 0 Lg.zero h).take (z.1)).filter (fun p : Ev × ByteArray => decide (p.2 = name))).length) : Nat)), (34, .sl 6 (((evsH n 0 Lg.zero h).map (·.1)).map Ev.abs)), (35, int ((evsH n 0 Lg.zero h).length : Nat)), (36, int (z.1 : Nat))]) (fun z => z.1 ≤ (evsH n 0 Lg.zero h).length ∧ Left z.2 (nRe ((evsH n 0 Lg.zero h).drop z.1))) (fun z => (evsH n 0 Lg.zero h).length - z.1) (0, refF n h) (⟨Nat.zero_le _, refF_all.1, refF_all.2.1⟩) (by exact ⟨rfl, rfl, rfl, rfl, rfl, rfl, rfl, rfl, rfl, trivial⟩) (by repeat first|exact s0 _|exact s1 _|apply s2|apply s3) ?_
  intro z hz
  refine SC.seq (SC.region ?_)
  refine SL.val (Val.ltI rfl rfl) rfl rfl ?_
  refine SL.nil (SE.seq ?_)
  refine SC.seq ?_
  refine SC.condP rfl ?_ ?_
  rotate_left
  · intro hc37
    obtain ⟨M, hM⟩ : ∃ M, z.2 = M := ⟨_, rfl⟩
    have hzm := hz.2
    rw [hM] at hzm
    have hze : ∀ p ∈ M, p.2 = 0 := hzm.zeros (fun k => by rw [List.drop_eq_nil_of_le (by omega)]; rfl)
    rw [hM]
    have hfin : ((((((evsH n 0 Lg.zero h).take (z.1)).filter (fun p : Ev × ByteArray => decide (p.2 = name))).length) : Nat) : Int) = ((evN n h name).length : Nat) := by
      rw [List.take_of_length_le (by omega)]
      unfold evN
      rw [List.length_map]
    refine SC.exit ?_
    refine SE.then_ (by intro h; cases h) ?_
    refine SE.then_ (by intro h; cases h) ?_
    refine SE.exit ?_
    refine SE.seq ?_
    refine SC.seq ?_
    refine SC.seq (SC.region ?_)
    refine SL.val (Val.move rfl) rfl rfl ?_
    refine SL.eff (Eff.rangeMap (K := intK) (V := cntV) (Good := intOk) (m := M) Tryz.underlying30 rfl (fun _ => (by repeat first|assumption|exact Upd.here|apply Upd.there))) rfl rfl ?_
    rintro _ _ ⟨r71, rfl, rfl⟩
    refine SL.nil (SE.seq ?_)
    refine SC.block ?_
    refine SC.loop (ι := List (Int × Nat) × Option (Int × Nat)) (fun y => (.pc (rngPc mR r71 intK cntV intOk M y.1 y.2) :: (globs e1 e2))) (fun y => [(9, evsA (evN n h name)), (11, int (((((evsH n 0 Lg.zero h).take (z.1)).filter (fun p : Ev × ByteArray => decide (p.2 = name))).length) : Nat)), (71, ptr r71)]) (fun y => ∀ p ∈ y.1, p ∈ M) (fun y => y.1.length) (M, none) (fun p hp => hp) (by exact ⟨rfl, rfl, rfl, trivial⟩) (by repeat first|exact s0 _|exact s1 _|apply s2|apply s3) ?_
    intro y hy
    refine SC.seq (SC.region ?_)
    refine SL.eff (Eff.nextMap (K := intK) (V := cntV) (Good := intOk) (m := M) (rest := y.1) (cur := y.2) rfl (fun _ _ => (by repeat first|assumption|exact Upd.here|apply Upd.there))) rfl rfl ?_
    rintro _ _ ⟨o, rest', ho, hpo, rfl, rfl⟩
    refine SL.val (Val.extract rfl rfl) rfl rfl ?_
    refine SL.nil (SE.seq ?_)
    refine SC.seq ?_
    refine SC.cond rfl ?_ ?_
    rotate_left
    · intro hc73
      have ho2 := optNone hc73
      subst ho2
      have hr0 := ho rfl
      refine SC.exit ?_
      refine SE.then_ (by intro h; cases h) ?_
      refine SE.then_ (by intro h; cases h) ?_
      refine SE.exit ?_
      refine SE.seq ?_
      refine SC.seq (SC.region ?_)
      refine SL.val (Val.move rfl) rfl rfl ?_
      refine SL.val (Val.move rfl) rfl rfl ?_
      refine SL.val (Val.to (C := int ((evN n h name).length : Nat)) (Val.lenSl (m := (evN n h name).length) rfl Tryz.underlying25 (List.length_map _)) rfl) rfl rfl ?_
      refine SL.val (Val.to (C := boo true) (Val.eqI rfl rfl) (congrArg (fun b => Abs.v (Value.bool b)) (decide_eq_true (hfin)))) rfl rfl ?_
      refine SL.val (Val.assign rfl) rfl rfl ?_
      refine SL.nil (SE.seq ?_)
      refine SC.ret ?_
      refine SE.fin (rs := [.tmp 6]) rfl (RV.tmp rfl RV.nil) (()) (by repeat first|exact s0 _|exact s1 _|apply s2|apply s3) (by simp [It.rids]) ?_
      exact rfl
    intro hc73
    obtain ⟨p, rfl⟩ := optSome hc73
    obtain ⟨hpm, hre⟩ := hpo p rfl
    subst hre
    have hls := rest_less hpm
    refine SC.skip ?_
    refine SE.seq ?_
    refine SC.block ?_
    refine SC.seq (SC.region ?_)
    refine SL.val (Val.entryMap rfl (by repeat first|assumption|exact m0|apply m1) ⟨List.not_mem_nil, List.not_mem_nil⟩) rfl rfl ?_
    refine SL.val (Val.to (C := int (p.2 : Nat)) (Val.extract rfl rfl) rfl) rfl rfl ?_
    refine SL.val (Val.assign rfl) rfl rfl ?_
    refine SL.nil (SE.seq ?_)
    refine SC.seq (SC.region ?_)
    refine SL.val (Val.move rfl) rfl rfl ?_
    refine SL.val (Val.neI rfl rfl) rfl rfl ?_
    refine SL.nil (SE.seq ?_)
    refine SC.condP rfl (by intro hc77; exfalso; have hp0 := hze p (hy p hpm); omega) ?_
    intro hc77
    refine SC.skip ?_
    refine SE.inBlock ?_
    refine SE.round (y.1.filter (fun q => decide (q.1 ≠ p.1)), some p) (by exact hls) (fun q hq => hy q ((List.mem_filter.1 hq).1)) (by exact ⟨rfl, rfl, rfl, trivial⟩) (by repeat first|exact s0 _|exact s1 _|apply s2|apply s3)
  intro hc37
  have hlt : z.1 < (evsH n 0 Lg.zero h).length := by omega
  have hei := evsH_ins (n := n) (h := h) (i := 0) (by omega) Lg.zero_ins hh _ (List.getElem_mem hlt)
  refine SC.skip ?_
  refine SE.seq ?_
  refine SC.seq ?_
  refine SC.block ?_
  refine SC.seq (SC.region ?_)
  refine SL.val (Val.move rfl) rfl rfl ?_
  refine SL.val (Val.indexSl (q := z.1) (cs := Ev.abs ((evsH n 0 Lg.zero h)[z.1]'hlt).1) tabOk Tryz.underlying25 rfl rfl rfl rfl (by rw [List.getElem?_map, List.getElem?_map, List.getElem?_eq_getElem hlt]; rfl) rfl rfl) rfl rfl ?_
  refine SL.val (Val.loadAR tabOk rfl rfl rfl (by rfl)) rfl rfl ?_
  refine SL.eff (Eff.alloc tabOk rfl) rfl rfl ?_
  rintro _ _ ⟨b13, rfl, rfl⟩
  refine SL.val (Val.assign rfl) rfl rfl ?_
  refine SL.eff (Eff.store (L' := Ev.abs ((evsH n 0 Lg.zero h)[z.1]'hlt).1) tabOk rfl rfl rfl (by repeat first|assumption|exact Upd.here|apply Upd.there) rfl (Nat.le_of_ble_eq_true (by rfl)) rfl (by exact putL_whole rfl)) rfl rfl ?_
  rintro _ _ ⟨rfl, rfl⟩
  refine SL.nil (SE.seq ?_)
  refine SC.cutS (ι := List (Int × Nat)) (fun M1 => (.blk b13 34 (Ev.abs ((evsH n 0 Lg.zero h)[z.1]'hlt).1) :: .pc (mapPc mR intK cntV intOk M1) :: (globs e1 e2))) (fun M1 => [(2, st name), (7, .sl 6 (((evsH n 0 Lg.zero h).map (·.1)).map Ev.abs)), (8, .sl 1 (((evsH n 0 Lg.zero h).map (·.2)).map fun x => [st x])), (9, evsA (evN n h name)), (10, mapV mR), (11, int (((((evsH n 0 Lg.zero h).take (z.1)).filter (fun p : Ev × ByteArray => decide (p.2 = name))).length) : Nat)), (34, .sl 6 (((evsH n 0 Lg.zero h).map (·.1)).map Ev.abs)), (35, int ((evsH n 0 Lg.zero h).length : Nat)), (36, int (z.1 : Nat)), (12, int (z.1 : Nat)), (13, ptr b13)]) (fun M1 => Left M1 (nRe ((evsH n 0 Lg.zero h).drop (z.1 + 1)))) ?_ ?_
  · skip
    refine SC.seq (SC.region ?_)
    refine SL.val (Val.fieldAddr tabOk rfl rfl rfl rfl rfl) rfl rfl ?_
    refine SL.val (Val.to (C := int ((evsH n 0 Lg.zero h)[z.1]'hlt).1.result) (Val.load1 tabOk rfl rfl (by first|(apply Or.inl;(repeat first|assumption|exact m0|apply m1);done)|(apply Or.inr;(repeat first|assumption|exact m0|apply m1);done)) List.not_mem_nil (by rfl)) rfl) rfl rfl ?_
    refine SL.val (Val.neI rfl rfl) rfl rfl ?_
    refine SL.nil (SE.seq ?_)
    refine SC.condP rfl ?_ ?_
    rotate_left
    · intro hc43
      refine SC.skip ?_
      refine SE.meet (z.2) (hz.2.stay hlt hc43) (by exact ⟨rfl, rfl, rfl, rfl, rfl, rfl, rfl, rfl, rfl, rfl, rfl, trivial⟩) (by repeat first|exact s0 _|exact s1 _|apply s2|apply s3)
    intro hc43
    obtain ⟨hp1, hp2⟩ := hz.2.put hlt hc43
    have hcb := hz.2.eq_ ((evsH n 0 Lg.zero h)[z.1]'hlt).1.result
    have hnb : nRe ((evsH n 0 Lg.zero h).drop z.1) ((evsH n 0 Lg.zero h)[z.1]'hlt).1.result ≤ (evsH n 0 Lg.zero h).length := Nat.le_trans (List.length_filter_le _ _) (by rw [List.length_drop]; omega)
    refine SC.region ?_
    refine SL.val (Val.move rfl) rfl rfl ?_
    refine SL.val (Val.fieldAddr tabOk rfl rfl rfl rfl rfl) rfl rfl ?_
    refine SL.val (Val.to (C := int ((evsH n 0 Lg.zero h)[z.1]'hlt).1.result) (Val.load1 tabOk rfl rfl (by first|(apply Or.inl;(repeat first|assumption|exact m0|apply m1);done)|(apply Or.inr;(repeat first|assumption|exact m0|apply m1);done)) List.not_mem_nil (by rfl)) rfl) rfl rfl ?_
    refine SL.val (Val.mapGet (a := ((evsH n 0 Lg.zero h)[z.1]'hlt).1.result) (zv := cntV 0) (C := int ((cg z.2 ((evsH n 0 Lg.zero h)[z.1]'hlt).1.result : Nat) : Int)) (int_fit Tryz.underlying32) Tryz.underlying30 zero_int rfl (by first|(apply Or.inl;(repeat first|assumption|exact m0|apply m1);done)|(apply Or.inr;(repeat first|assumption|exact m0|apply m1);done)) List.not_mem_nil rfl is_v (i64_in hei.result) cg_is) rfl rfl ?_
    refine SL.val (Val.to (C := int ((cg z.2 ((evsH n 0 Lg.zero h)[z.1]'hlt).1.result - 1 : Nat) : Int)) (Val.subI rfl rfl (by simp only [InR, lo, hi]; omega)) (by refine congrArg int ?_; omega)) rfl rfl ?_
    refine SL.eff (Eff.mapPut (a := ((evsH n 0 Lg.zero h)[z.1]'hlt).1.result) (v := cg z.2 ((evsH n 0 Lg.zero h)[z.1]'hlt).1.result - 1) (m' := dec1 z.2 ((evsH n 0 Lg.zero h)[z.1]'hlt).1.result) (int_fit Tryz.underlying32) Tryz.underlying30 rfl (by repeat first|assumption|exact Upd.here|apply Upd.there) rfl is_v (i64_in hei.result) rfl is_v rfl) rfl rfl ?_
    rintro _ _ ⟨rfl, rfl⟩
    refine SL.nil ?_
    refine SE.meet (dec1 z.2 ((evsH n 0 Lg.zero h)[z.1]'hlt).1.result) (hp1) (by exact ⟨rfl, rfl, rfl, rfl, rfl, rfl, rfl, rfl, rfl, rfl, rfl, trivial⟩) (by repeat first|exact s0 _|exact s1 _|apply s2|apply s3)
  · intro M1 hM1
    refine SC.seq ?_
    refine SC.seq (SC.region ?_)
    refine SL.val (Val.move rfl) rfl rfl ?_
    refine SL.val (Val.move rfl) rfl rfl ?_
    refine SL.val (Val.indexSl (q := z.1) (cs := [st ((evsH n 0 Lg.zero h)[z.1]'hlt).2]) tabOk Tryz.underlying26 rfl rfl rfl rfl (by rw [List.getElem?_map, List.getElem?_map, List.getElem?_eq_getElem hlt]; rfl) rfl rfl) rfl rfl ?_
    refine SL.val (Val.to (C := st ((evsH n 0 Lg.zero h)[z.1]'hlt).2) (Val.load1R tabOk rfl rfl rfl) rfl) rfl rfl ?_
    refine SL.val (Val.move rfl) rfl rfl ?_
    refine SL.val (Val.neS rfl rfl) rfl rfl ?_
    refine SL.nil (SE.seq ?_)
    refine SC.condP rfl ?_ ?_
    · intro hc54
      have hfs : ((((evsH n 0 Lg.zero h).take (z.1 + 1)).filter (fun p : Ev × ByteArray => decide (p.2 = name))).length) = ((((evsH n 0 Lg.zero h).take (z.1)).filter (fun p : Ev × ByteArray => decide (p.2 = name))).length) := by rw [filter_succ hlt, if_neg (by simpa using hc54)]; rfl
      refine SC.exit ?_
      refine SE.then_ (by intro h; cases h) ?_
      refine SE.exit ?_
      refine SE.seq ?_
      refine SC.region ?_
      first
        | refine SL.val (Val.addI rfl rfl (by simp only [InR, lo, hi]; omega)) rfl rfl ?_
        | refine SL.val (Val.addW rfl rfl) rfl rfl ?_
      refine SL.val (Val.move rfl) rfl rfl ?_
      refine SL.nil ?_
      refine SE.round (z.1 + 1, M1) (by first | omega | (dsimp only; omega)) (⟨by dsimp only; omega, hM1⟩) (by exact ⟨rfl, rfl, rfl, rfl, rfl, congrArg (fun x : Nat => some (int (x : Int))) (by first | rfl | exact hfs | exact hfs.symm), rfl, rfl, rfl, trivial⟩) (by repeat first|exact s0 _|exact s1 _|apply s2|apply s3)
    intro hc54
    have hnm : (fun p : Ev × ByteArray => decide (p.2 = name)) ((evsH n 0 Lg.zero h)[z.1]'hlt) = true := by simpa using hc54
    have hfs : ((((evsH n 0 Lg.zero h).take (z.1 + 1)).filter (fun p : Ev × ByteArray => decide (p.2 = name))).length) = ((((evsH n 0 Lg.zero h).take (z.1)).filter (fun p : Ev × ByteArray => decide (p.2 = name))).length) + 1 := by rw [filter_succ hlt, if_pos hnm]
    have hat : (evN n h name)[((((evsH n 0 Lg.zero h).take (z.1)).filter (fun p : Ev × ByteArray => decide (p.2 = name))).length)]? = some ((evsH n 0 Lg.zero h)[z.1]'hlt).1 := by unfold evN; rw [List.getElem?_map, filter_at hlt hnm]; rfl
    have hlt2 : ((((evsH n 0 Lg.zero h).take (z.1)).filter (fun p : Ev × ByteArray => decide (p.2 = name))).length) < (evN n h name).length := by unfold evN; rw [List.length_map]; exact filter_lt hlt hnm
    have hle2 : (evN n h name).length ≤ (evsH n 0 Lg.zero h).length := by unfold evN; rw [List.length_map]; exact List.length_filter_le _ _
    refine SC.skip ?_
    refine SE.seq ?_
    refine SC.seq ?_
    refine SC.seq ?_
    refine SC.draw [] (.q 0 (.q 1 (.q 2 (.q 3 (.q 4 (.q 5 (.q 6 (.q 7 (.q 8 (.q 9 (.q 10 (.q 11 .nil)))))))))))) (by kernel_rfl) (by kernel_rfl) ?_
    refine SX.val rfl (Val.move rfl) (by simp) rfl rfl ?_
    refine SX.val rfl (Val.move rfl) (by simp) rfl rfl ?_
    refine SX.hx (by first|(simp[mids,It.mids,ownPc];done)|(intro k hk;simp[mids,It.mids,ownPc] at hk ⊢;grind)) fun hx9 => ?_
    refine SX.val rfl (Val.to (C := int ((evN n h name).length : Nat)) (Val.lenSl (m := (evN n h name).length) rfl Tryz.underlying25 (List.length_map _)) rfl) hx9 rfl rfl ?_
    refine SX.val rfl (Val.to (C := boo false) (Val.geI rfl rfl) (congrArg (fun b => Abs.v (Value.bool b)) (decide_eq_false (by omega)))) hx9 rfl rfl ?_
    refine SX.val rfl (Val.move rfl) (by simp) rfl rfl ?_
    refine SX.val rfl (Val.move rfl) (by simp) rfl rfl ?_
    refine SX.val rfl (Val.move rfl) (by simp) rfl rfl ?_
    refine SX.val rfl (Val.indexSl (q := ((((evsH n 0 Lg.zero h).take (z.1)).filter (fun p : Ev × ByteArray => decide (p.2 = name))).length)) (cs := Ev.abs ((evsH n 0 Lg.zero h)[z.1]'hlt).1) tabOk Tryz.underlying25 rfl rfl rfl rfl (by rw [List.getElem?_map, hat]; rfl) rfl rfl) hx9 rfl rfl ?_
    refine SX.val rfl (Val.loadAR tabOk rfl rfl rfl (by rfl)) hx9 rfl rfl ?_
    refine SX.val rfl (Val.loadA tabOk rfl rfl rfl (by first|(apply Or.inl;(repeat first|assumption|exact m0|apply m1);done)|(apply Or.inr;(repeat first|assumption|exact m0|apply m1);done)) List.not_mem_nil (by rfl)) hx9 rfl rfl ?_
    refine SX.val rfl (Val.to (C := boo false) (Val.neA rfl rfl (ev_plains _) (ev_plains _) (by kernel_rfl) (neqEv hei hei)) (congrArg (fun b => Abs.v (Value.bool b)) (decide_eq_false (by simp)))) hx9 rfl rfl ?_
    refine SX.val rfl (Val.pickF rfl rfl) (by simp) rfl rfl ?_
    refine SX.nil (SE.seq ?_)
    refine SC.condF rfl ?_
    refine SC.skip ?_
    refine SE.seq ?_
    refine SC.region ?_
    refine SL.val (Val.move rfl) rfl rfl ?_
    refine SL.val (Val.to (C := int (((((evsH n 0 Lg.zero h).take (z.1 + 1)).filter (fun p : Ev × ByteArray => decide (p.2 = name))).length) : Nat)) (Val.addI rfl rfl (by simp only [InR, lo, hi]; omega)) (by refine congrArg int ?_; omega)) rfl rfl ?_
    refine SL.val (Val.assign rfl) rfl rfl ?_
    refine SL.nil ?_
    refine SE.inBlock ?_
    refine SE.seq ?_
    refine SC.region ?_
    first
      | refine SL.val (Val.addI rfl rfl (by simp only [InR, lo, hi]; omega)) rfl rfl ?_
      | refine SL.val (Val.addW rfl rfl) rfl rfl ?_
    refine SL.val (Val.move rfl) rfl rfl ?_
    refine SL.nil ?_
    refine SE.round (z.1 + 1, M1) (by first | omega | (dsimp only; omega)) (⟨by dsimp only; omega, hM1⟩) (by exact ⟨rfl, rfl, rfl, rfl, rfl, congrArg (fun x : Nat => some (int (x : Int))) (by first | rfl | exact hfs | exact hfs.symm), rfl, rfl, rfl, trivial⟩) (by repeat first|exact s0 _|exact s1 _|apply s2|apply s3)
end
end Go.Proofs.YtnedfcaoggkmnaaGreatDoor.A
