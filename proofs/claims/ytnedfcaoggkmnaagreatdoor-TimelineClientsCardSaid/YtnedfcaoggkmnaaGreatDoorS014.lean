/-
  Packed out of the texts: CT5, CT6, TmlB, CT7, CT8, CT9, CT10.
-/
import Derived.Test.YtnedfcaoggkmnaaGreatDoorS013
/-
  Timelines: names, when, how long, how many.
-/
set_option maxRecDepth 100000
set_option linter.unusedSimpArgs false
set_option linter.unusedVariables false
namespace Go.Proofs.YtnedfcaoggkmnaaGreatDoor.A
open Go.RowKit

section
variable {ev : Ev} {nm name : ByteArray} {p q m pa po pn ph kH : Nat} {v : Value} {s : List Ev} {sn : List ByteArray} {qq n : Int} {l : Lg} {h : List (List Ent)} {e1 e2 : Value} {capsH : List Abs} {Ch : Pc} {hold : Ltr → Bool} {sf : Int × Bool} {sm : List (Int × Nat)} {state : Int} {x : Ltr}
set_option maxHeartbeats 1000000 in
theorem names1_s (hs : sn.length ≤ 100000) (hl : l.ls.length ≤ 400) : Spec Tryz.prog 33 [int qq, .agg l.abs, ptr q, ptr p] [own 9 1 v ((sn).map fun x => [st x]), .blk p 26 [.v v], .blk q 22 [histA h]] (fun r : Value => [own 9 1 r (((batNm h.length sn qq l).1).map fun x => [st x]), .blk p 26 [.v r], .blk q 22 [histA h]]) (fun _ => boo true) := by
  refine spec_of Tryz.func33 rfl Tryz.ntmps33 rfl fun G w => ?_
  refine SC.seq (SC.region ?_)
  refine SL.eff (Eff.boxA (cs := l.abs) rfl) rfl rfl ?_
  rintro _ _ ⟨b5, rfl, rfl⟩
  refine SL.val (Val.assign rfl) rfl rfl ?_
  refine SL.nil (SE.seq ?_)
  refine SC.cutS (ι := Value) (fun z => (.blk b5 44 l.abs :: own 9 1 z (((batNm h.length sn qq l).1).map fun x => [st x]) :: .blk p 26 [.v z] :: .blk q 22 [histA h] :: [])) (fun z => [(5, ptr b5)]) (fun z => True) ?_ ?_
  · skip
    refine SC.seq (SC.region ?_)
    refine SL.val (Val.move rfl) rfl rfl ?_
    refine SL.val (Val.to (C := histA h) (Val.load1 tabOk rfl rfl (by first|(apply Or.inl;(repeat first|assumption|exact m0|apply m1);done)|(apply Or.inr;(repeat first|assumption|exact m0|apply m1);done)) List.not_mem_nil (by rfl)) rfl) rfl rfl ?_
    first
      | refine SL.val (Val.lenSl rfl Tryz.underlying22 (List.length_map _)) rfl rfl ?_
      | refine SL.val (Val.lenOwn rfl (by repeat first|assumption|exact m0|apply m1) Tryz.underlying22 (List.length_map _)) rfl rfl ?_
      | refine SL.val (Val.lenNil rfl Tryz.underlying22) rfl rfl ?_
    refine SL.val (Val.eqI rfl rfl) rfl rfl ?_
    refine SL.nil (SE.seq ?_)
    refine SC.condP rfl ?_ ?_
    rotate_left
    · intro hc12
      refine SC.skip ?_
      have hbn : (batNm h.length sn qq l).1 = sn := if_neg (by omega)
      refine SE.meet (v) (trivial) (by exact ⟨rfl, trivial⟩) (by rw [hbn]; repeat (first | exact List.nil_sublist _ | exact List.Sublist.refl _ | apply List.Sublist.cons_cons | apply List.Sublist.cons))
    intro hc12
    refine SC.seq (SC.region ?_)
    refine SL.val (Val.fieldAddr tabOk rfl rfl rfl rfl rfl) rfl rfl ?_
    refine SL.val (Val.to (C := .sl 6 (l.ls.map ltrA)) (Val.load1 tabOk rfl rfl (by first|(apply Or.inl;(repeat first|assumption|exact m0|apply m1);done)|(apply Or.inr;(repeat first|assumption|exact m0|apply m1);done)) List.not_mem_nil (by rfl)) rfl) rfl rfl ?_
    first
      | refine SL.val (Val.lenSl rfl Tryz.underlying41 (List.length_map _)) rfl rfl ?_
      | refine SL.val (Val.lenOwn rfl (by repeat first|assumption|exact m0|apply m1) Tryz.underlying41 (List.length_map _)) rfl rfl ?_
      | refine SL.val (Val.lenNil rfl Tryz.underlying41) rfl rfl ?_
    refine SL.val (Val.move rfl) rfl rfl ?_
    refine SL.nil (SE.seq ?_)
    refine SC.block ?_
    refine SC.loop (ι := Nat × Value) (fun z => (.blk b5 44 l.abs :: own 9 1 z.2 (((sn ++ (l.ls.take z.1).map (·.name))).map fun x => [st x]) :: .blk p 26 [.v z.2] :: .blk q 22 [histA h] :: [])) (fun z => [(2, ptr q), (3, ptr p), (5, ptr b5), (14, ltrsA l.ls), (15, int (l.ls.length : Nat)), (16, int (z.1 : Nat))]) (fun z => z.1 ≤ l.ls.length) (fun z => l.ls.length - z.1) (0, v) (Nat.zero_le _) (by exact ⟨rfl, rfl, rfl, rfl, rfl, rfl, trivial⟩) (by rw [show (sn ++ (l.ls.take 0).map (·.name)) = sn from List.append_nil sn]; repeat (first | exact List.nil_sublist _ | exact List.Sublist.refl _ | apply List.Sublist.cons_cons | apply List.Sublist.cons)) ?_
    intro z hz
    refine SC.seq (SC.region ?_)
    refine SL.val (Val.ltI rfl rfl) rfl rfl ?_
    refine SL.nil (SE.seq ?_)
    refine SC.seq ?_
    refine SC.condP rfl ?_ ?_
    rotate_left
    · intro hc17
      have htk : l.ls.take z.1 = l.ls := List.take_of_length_le (by omega)
      rw [htk]
      refine SC.exit ?_
      refine SE.then_ (by intro h; cases h) ?_
      refine SE.then_ (by intro h; cases h) ?_
      refine SE.exit ?_
      have hbn : (batNm h.length sn qq l).1 = sn ++ l.ls.map (·.name) := if_pos (by omega)
      refine SE.meet (z.2) (trivial) (by exact ⟨rfl, trivial⟩) (by rw [hbn]; repeat (first | exact List.nil_sublist _ | exact List.Sublist.refl _ | apply List.Sublist.cons_cons | apply List.Sublist.cons))
    intro hc17
    have hlt : z.1 < l.ls.length := by omega
    refine SC.skip ?_
    refine SE.seq ?_
    refine SC.seq ?_
    refine SC.block ?_
    refine SC.seq (SC.region ?_)
    refine SL.val (Val.indexSl tabOk Tryz.underlying41 rfl rfl rfl rfl (at_map (by omega)) rfl rfl) rfl rfl ?_
    refine SL.val (Val.loadAR tabOk rfl rfl rfl (by rfl)) rfl rfl ?_
    refine SL.eff (Eff.alloc tabOk rfl) rfl rfl ?_
    rintro _ _ ⟨b8, rfl, rfl⟩
    refine SL.eff (Eff.store (L' := ltrA (l.ls[z.1]'hlt)) tabOk rfl rfl rfl (by repeat first|assumption|exact Upd.here|apply Upd.there) rfl (Nat.le_of_ble_eq_true (by rfl)) rfl (by exact putL_whole rfl)) rfl rfl ?_
    rintro _ _ ⟨rfl, rfl⟩
    refine SL.nil (SE.seq ?_)
    refine SC.region ?_
    refine SL.val (Val.to (C := .v z.2) (Val.load1 tabOk rfl rfl (by first|(apply Or.inl;(repeat first|assumption|exact m0|apply m1);done)|(apply Or.inr;(repeat first|assumption|exact m0|apply m1);done)) List.not_mem_nil (by rfl)) rfl) rfl rfl ?_
    refine SL.val (Val.fieldAddr tabOk rfl rfl rfl rfl rfl) rfl rfl ?_
    refine SL.val (Val.to (C := st (l.ls[z.1]'hlt).name) (Val.load1 tabOk rfl rfl (by first|(apply Or.inl;(repeat first|assumption|exact m0|apply m1);done)|(apply Or.inr;(repeat first|assumption|exact m0|apply m1);done)) List.not_mem_nil (by rfl)) rfl) rfl rfl ?_
    refine SL.eff (Eff.buildSl tabOk Tryz.underlying26 rfl rfl rfl rfl rfl rfl rfl) rfl rfl ?_
    rintro _ _ ⟨rfl, rfl⟩
    refine SL.eff (Eff.appendE (zs := ((sn ++ (l.ls.take z.1).map (·.name)) ++ [(l.ls[z.1]).name]).map fun x => [st x]) tabOk [_, _] (by simp only [List.map_append]; rfl) Tryz.underlying26 rfl rfl rfl rfl rfl rfl (by intro c hc; rw [List.mem_singleton] at hc; subst hc; rfl) (by unfold maxLen; simp only [List.length_map, List.length_append, List.length_take, List.length_cons, List.length_nil]; omega) (by rw [show Tryz.prog.bytesOf 9 = 16 by kernel_rfl]; simp only [List.length_map, List.length_append, List.length_take, List.length_cons, List.length_nil]; omega)) rfl rfl ?_
    rintro _ _ ⟨r24, rfl, rfl⟩
    first
      | refine SL.eff (Eff.store tabOk rfl rfl rfl (by repeat first|assumption|exact Upd.here|apply Upd.there) (by rfl) (Nat.le_of_ble_eq_true (by rfl)) (by rfl) (by rfl)) rfl rfl ?_
      | refine SL.eff (Eff.storeOwn tabOk rfl rfl rfl rfl (by repeat first|assumption|exact m0|apply m1) (by repeat first|assumption|exact Upd.here|apply Upd.there) rfl (by rfl)) rfl rfl ?_
    rintro _ _ ⟨rfl, rfl⟩
    refine SL.nil ?_
    refine SE.inBlock ?_
    refine SE.seq ?_
    refine SC.region ?_
    first
      | refine SL.val (Val.addI rfl rfl (by simp only [InR, lo, hi]; omega)) rfl rfl ?_
      | refine SL.val (Val.addW rfl rfl) rfl rfl ?_
    refine SL.val (Val.move rfl) rfl rfl ?_
    refine SL.nil ?_
    refine SE.round (z.1 + 1, r24) (by first | omega | (dsimp only; omega)) (by dsimp only; omega) (by exact ⟨rfl, rfl, rfl, rfl, rfl, rfl, trivial⟩) (by rw [show sn ++ (l.ls.take (z.1 + 1)).map (·.name) = (sn ++ (l.ls.take z.1).map (·.name)) ++ [(l.ls[z.1]).name] by rw [List.take_succ_eq_append_getElem hlt, List.map_append, List.append_assoc]; rfl]; repeat (first | exact List.nil_sublist _ | exact List.Sublist.refl _ | apply List.Sublist.cons_cons | apply List.Sublist.cons))
  · intro z hz
    refine SC.seq (SC.region ?_)
    refine SL.val (Val.assign rfl) rfl rfl ?_
    refine SL.nil (SE.seq ?_)
    refine SC.ret ?_
    refine SE.fin (rs := [.tmp 6]) rfl (RV.tmp rfl RV.nil) (z) (by repeat first|exact s0 _|exact s1 _|apply s2|apply s3) (by simp [It.rids]) ?_
    exact rfl
set_option maxHeartbeats 1000000 in
theorem names_s (he : isIf e1) (hr : isIf e2) (hh : HisIns h) (hro : ∀ b ∈ h, b.length ≤ 10) (hn : h.length ≤ 40) : Spec Tryz.prog 17 [histA h, int n] (globs e1 e2) (fun _ : Unit => []) (fun _ => .sl 1 ((foldS n quietS (batNm h.length) 0 [] Lg.zero h).map fun x => [st x])) := by
  refine spec_of Tryz.func17 rfl Tryz.ntmps17 rfl fun G w => ?_
  refine SC.seq (SC.region ?_)
  refine SL.eff (Eff.box1 rfl rfl) rfl rfl ?_
  rintro _ _ ⟨b2, rfl, rfl⟩
  refine SL.val (Val.assign rfl) rfl rfl ?_
  refine SL.nil (SE.seq ?_)
  refine SC.seq (SC.region ?_)
  refine SL.eff (Eff.alloc tabOk rfl) rfl rfl ?_
  rintro _ _ ⟨b5, rfl, rfl⟩
  refine SL.nil (SE.seq ?_)
  refine SC.seq (SC.region ?_)
  refine SL.own0 9 1 ?_
  refine SL.val (Val.to (C := histA h) (Val.load1 tabOk rfl rfl (by first|(apply Or.inl;(repeat first|assumption|exact m0|apply m1);done)|(apply Or.inr;(repeat first|assumption|exact m0|apply m1);done)) List.not_mem_nil (by rfl)) rfl) rfl rfl ?_
  refine SL.re [] (Re.bigIn (xs := [_, _, _]) rfl) rfl ?_
  refine SL.val (Val.move rfl) rfl rfl ?_
  refine SL.val (Val.makeFunc rfl rfl) rfl rfl ?_
  refine SL.call (tfold_s (C := cNm b5 b2 h) (entS := quietS) (batS := batNm h.length) (Inv := fun _ j s => s.length ≤ 400 * j) (k1 := 32) (k2 := 33) (caps1 := []) (caps2 := [ptr b2, ptr b5]) (s0 := []) (v0 := .slice none 0 0) (n := n) (h := h) he hr (by kernel_rfl) (by kernel_rfl) (fun i j s v ev nm _ _ _ => Spec.mapI (fun _ : Unit => v) (Spec.stay (quiet_s (ev := ev) (nm := nm))) (fun _ => rfl) (fun _ => rfl)) (fun i j s ev nm hs => hs) (fun i j s v q l hs hj _ _ h1 _ _ => Spec.big (names1_s (v := v) (sn := s) (by have hs : s.length ≤ 400 * j := hs; omega) h1) rfl (fun _ => rfl)) (fun i j s q l hs h1 => by show (batNm h.length s q l).1.length ≤ 400 * (j + 1); have hs : s.length ≤ 400 * j := hs; unfold batNm; dsimp only; split <;> (try simp only [List.length_append, List.length_map]) <;> omega) (Nat.zero_le _) hh hro hn) Casts.refl (by kernel_rfl) rfl rfl rfl ?_
  refine After.oneR (ys := (globs e1 e2)) rfl (by repeat first|assumption|exact m0|apply m1) (by intro y hy; simp only [globs, List.mem_cons, List.not_mem_nil, or_false] at hy; rcases hy with rfl | rfl | rfl <;> exact ⟨by repeat first|assumption|exact m0|apply m1, by intro h; cases h⟩) rfl (fun _ => rfl) ?_
  intro r9
  refine ⟨_, (by repeat first|assumption|exact Upd.here|apply Upd.there), ?_⟩
  refine SL.re [] (Re.bigOut rfl) rfl ?_
  refine SL.nil (SE.seq ?_)
  refine SC.seq (SC.region ?_)
  refine SL.val (Val.load1 tabOk rfl rfl (by first|(apply Or.inl;(repeat first|assumption|exact m0|apply m1);done)|(apply Or.inr;(repeat first|assumption|exact m0|apply m1);done)) List.not_mem_nil (by rfl)) rfl rfl ?_
  refine SL.val (Val.assign rfl) rfl rfl ?_
  refine SL.nil (SE.seq ?_)
  refine SC.ret ?_
  refine SE.freeze [] (t := 4) rfl rfl ?_
  refine SE.fin (rs := [.tmp 4]) rfl (RV.tmp rfl RV.nil) (()) (by repeat first|exact s0 _|exact s1 _|apply s2|apply s3) (by simp [It.rids]) ?_
  exact rfl
set_option maxHeartbeats 1000000 in
theorem first1_s (hf : l.Few) (gH : goesIn Tryz.prog kH = true) (hH : ∀ x : Ltr, Spec Tryz.prog kH (.agg (ltrA x) :: capsH) [.rdpc Ch] (fun _ : Unit => []) (fun _ => boo (hold x))) : Spec Tryz.prog 41 [int qq, .agg l.abs, ptr pn, ptr ph, ptr pa, ptr po] [.blk po 4 [boo sf.2], .blk pa 2 [int sf.1], .blk ph 68 [.fn (.func kH) [] capsH], .blk pn 9 [st name], .pc Ch] (fun _ : Unit => [.blk po 4 [boo (batFi name hold sf qq l).1.2], .blk pa 2 [int (batFi name hold sf qq l).1.1], .blk ph 68 [.fn (.func kH) [] capsH], .blk pn 9 [st name], .pc Ch]) (fun _ => boo (batFi name hold sf qq l).2) := by
  refine spec_of Tryz.func41 rfl Tryz.ntmps41 rfl fun G w => ?_
  refine SC.seq (SC.region ?_)
  refine SL.eff (Eff.boxA (cs := l.abs) rfl) rfl rfl ?_
  rintro _ _ ⟨b7, rfl, rfl⟩
  refine SL.val (Val.assign rfl) rfl rfl ?_
  refine SL.nil (SE.seq ?_)
  refine SC.seq (SC.region ?_)
  refine SL.val (Val.to (C := .agg l.abs) (Val.loadP tabOk rfl rfl rfl (by first|(apply Or.inl;(repeat first|assumption|exact m0|apply m1);done)|(apply Or.inr;(repeat first|assumption|exact m0|apply m1);done)) List.not_mem_nil (Nat.le_of_ble_eq_true (by rfl))) rfl) rfl rfl ?_
  refine SL.val (Val.to (C := st name) (Val.load1 tabOk rfl rfl (by first|(apply Or.inl;(repeat first|assumption|exact m0|apply m1);done)|(apply Or.inr;(repeat first|assumption|exact m0|apply m1);done)) List.not_mem_nil (by rfl)) rfl) rfl rfl ?_
  refine SL.call (lfind_s (l := l) (s := name) hf) Casts.refl (by kernel_rfl) rfl rfl rfl ?_
  refine After.pure (by repeat (first | exact Reads.nil | (refine Reads.blk ?_ ?_; focus ((repeat first|assumption|exact m0|apply m1); done)) | (refine Reads.rd ?_ ?_; focus ((repeat first|assumption|exact m0|apply m1); done)) | (refine Reads.pc ?_ ?_; focus ((repeat first|assumption|exact m0|apply m1); done)) | (refine Reads.rdpc ?_ ?_; focus ((repeat first|assumption|exact m0|apply m1); done)))) (fun _ => rfl) ?_
  intro _
  rw [find_old]
  refine SL.val (Val.move rfl) rfl rfl ?_
  refine SL.val (Val.extract rfl rfl) rfl rfl ?_
  refine SL.val (Val.extract rfl rfl) rfl rfl ?_
  refine SL.eff (Eff.alloc tabOk rfl) rfl rfl ?_
  rintro _ _ ⟨b9, rfl, rfl⟩
  refine SL.eff (Eff.store (L' := ltrA (l.old name)) tabOk rfl rfl rfl (by repeat first|assumption|exact Upd.here|apply Upd.there) rfl (Nat.le_of_ble_eq_true (by rfl)) rfl (by exact putL_whole rfl)) rfl rfl ?_
  rintro _ _ ⟨rfl, rfl⟩
  refine SL.val (Val.assign rfl) rfl rfl ?_
  refine SL.nil (SE.seq ?_)
  refine SC.seq ?_
  refine SC.seq (SC.region ?_)
  refine SL.val (Val.move rfl) rfl rfl ?_
  refine SL.val (Val.move rfl) rfl rfl ?_
  refine SL.both (t := 18) rfl ?_ ?_
  rotate_left
  · intro hc18
    have hbf : (batFi name hold sf qq l) = (sf, !sf.2) := if_neg (fun h => by rw [h.1] at hc18; cases hc18)
    iterate 3 refine SL.skip rfl rfl ?_
    refine SL.val (Val.pickF rfl rfl) rfl rfl ?_
    refine SL.nil (SE.seq ?_)
    refine SC.condF rfl ?_
    refine SC.skip ?_
    refine SE.seq ?_
    refine SC.seq (SC.region ?_)
    refine SL.val (Val.load1 tabOk rfl rfl (by first|(apply Or.inl;(repeat first|assumption|exact m0|apply m1);done)|(apply Or.inr;(repeat first|assumption|exact m0|apply m1);done)) List.not_mem_nil (by rfl)) rfl rfl ?_
    refine SL.val (Val.notB rfl) rfl rfl ?_
    refine SL.val (Val.assign rfl) rfl rfl ?_
    refine SL.nil (SE.seq ?_)
    refine SC.ret ?_
    refine SE.fin (rs := [.tmp 8]) rfl (RV.tmp rfl RV.nil) (()) (by rw [hbf]; repeat (first | exact List.nil_sublist _ | exact List.Sublist.refl _ | apply List.Sublist.cons_cons | apply List.Sublist.cons)) (by simp [It.rids]) ?_
    rw [hbf]
    rfl
  intro hc18
  refine SL.val (Val.load1 tabOk rfl rfl (by first|(apply Or.inl;(repeat first|assumption|exact m0|apply m1);done)|(apply Or.inr;(repeat first|assumption|exact m0|apply m1);done)) List.not_mem_nil (by rfl)) rfl rfl ?_
  refine SL.val (Val.loadA tabOk rfl rfl rfl (by first|(apply Or.inl;(repeat first|assumption|exact m0|apply m1);done)|(apply Or.inr;(repeat first|assumption|exact m0|apply m1);done)) List.not_mem_nil (by rfl)) rfl rfl ?_
  refine SL.callv (hH (l.old name)) rfl Casts.refl gH rfl rfl rfl ?_
  refine After.pure (by repeat (first | exact Reads.nil | (refine Reads.blk ?_ ?_; focus ((repeat first|assumption|exact m0|apply m1); done)) | (refine Reads.rd ?_ ?_; focus ((repeat first|assumption|exact m0|apply m1); done)) | (refine Reads.pc ?_ ?_; focus ((repeat first|assumption|exact m0|apply m1); done)) | (refine Reads.rdpc ?_ ?_; focus ((repeat first|assumption|exact m0|apply m1); done)))) (fun _ => rfl) ?_
  intro _
  refine SL.val (Val.pickT rfl rfl) rfl rfl ?_
  refine SL.nil (SE.seq ?_)
  refine SC.cond rfl ?_ ?_
  rotate_left
  · intro hc22
    have hbf : (batFi name hold sf qq l) = (sf, !sf.2) := if_neg (fun h => by rw [h.2] at hc22; cases hc22)
    refine SC.skip ?_
    refine SE.seq ?_
    refine SC.seq (SC.region ?_)
    refine SL.val (Val.load1 tabOk rfl rfl (by first|(apply Or.inl;(repeat first|assumption|exact m0|apply m1);done)|(apply Or.inr;(repeat first|assumption|exact m0|apply m1);done)) List.not_mem_nil (by rfl)) rfl rfl ?_
    refine SL.val (Val.notB rfl) rfl rfl ?_
    refine SL.val (Val.assign rfl) rfl rfl ?_
    refine SL.nil (SE.seq ?_)
    refine SC.ret ?_
    refine SE.fin (rs := [.tmp 8]) rfl (RV.tmp rfl RV.nil) (()) (by rw [hbf]; repeat (first | exact List.nil_sublist _ | exact List.Sublist.refl _ | apply List.Sublist.cons_cons | apply List.Sublist.cons)) (by simp [It.rids]) ?_
    rw [hbf]
    rfl
  intro hc22
  have hbf : (batFi name hold sf qq l) = ((qq, true), false) := if_pos ⟨hc18, hc22⟩
  refine SC.region ?_
  refine SL.val (Val.move rfl) rfl rfl ?_
  refine SL.eff (Eff.store (L' := [int qq]) tabOk rfl rfl rfl (by repeat first|assumption|exact Upd.here|apply Upd.there) rfl (Nat.le_of_ble_eq_true (by rfl)) rfl (by rfl)) rfl rfl ?_
  rintro _ _ ⟨rfl, rfl⟩
  refine SL.eff (Eff.store (L' := [boo true]) tabOk rfl rfl rfl (by repeat first|assumption|exact Upd.here|apply Upd.there) rfl (Nat.le_of_ble_eq_true (by rfl)) rfl (by rfl)) rfl rfl ?_
  rintro _ _ ⟨rfl, rfl⟩
  refine SL.nil (SE.seq ?_)
  refine SC.seq (SC.region ?_)
  refine SL.val (Val.load1 tabOk rfl rfl (by first|(apply Or.inl;(repeat first|assumption|exact m0|apply m1);done)|(apply Or.inr;(repeat first|assumption|exact m0|apply m1);done)) List.not_mem_nil (by rfl)) rfl rfl ?_
  refine SL.val (Val.notB rfl) rfl rfl ?_
  refine SL.val (Val.assign rfl) rfl rfl ?_
  refine SL.nil (SE.seq ?_)
  refine SC.ret ?_
  refine SE.fin (rs := [.tmp 8]) rfl (RV.tmp rfl RV.nil) (()) (by rw [hbf]; repeat (first | exact List.nil_sublist _ | exact List.Sublist.refl _ | apply List.Sublist.cons_cons | apply List.Sublist.cons)) (by simp [It.rids]) ?_
  rw [hbf]
  rfl
set_option maxHeartbeats 1000000 in
theorem first_s (he : isIf e1) (hr : isIf e2) (gH : goesIn Tryz.prog kH = true) (hH : ∀ x : Ltr, Spec Tryz.prog kH (.agg (ltrA x) :: capsH) [.rdpc Ch] (fun _ : Unit => []) (fun _ => boo (hold x))) (hh : HisIns h) (hro : ∀ b ∈ h, b.length ≤ 10) (hn : h.length ≤ 40) : Spec Tryz.prog 26 [histA h, int n, st name, .fn (.func kH) [] capsH] (.pc Ch :: (globs e1 e2)) (fun _ : Unit => [.pc Ch]) (fun _ => .tup [int (firstF n h name hold).1, boo (firstF n h name hold).2]) := by
  refine spec_of Tryz.func26 rfl Tryz.ntmps26 rfl fun G w => ?_
  refine SC.seq (SC.region ?_)
  refine SL.eff (Eff.box1 rfl rfl) rfl rfl ?_
  rintro _ _ ⟨b6, rfl, rfl⟩
  refine SL.eff (Eff.box1 rfl rfl) rfl rfl ?_
  rintro _ _ ⟨b7, rfl, rfl⟩
  refine SL.eff (Eff.alloc tabOk rfl) rfl rfl ?_
  rintro _ _ ⟨b8, rfl, rfl⟩
  refine SL.eff (Eff.alloc tabOk rfl) rfl rfl ?_
  rintro _ _ ⟨b9, rfl, rfl⟩
  refine SL.nil (SE.seq ?_)
  refine SC.seq (SC.region ?_)
  refine SL.re [] (Re.bigIn (xs := [_, _, _, _, _]) rfl) rfl ?_
  refine SL.val (Val.move rfl) rfl rfl ?_
  refine SL.val (Val.move rfl) rfl rfl ?_
  refine SL.val (Val.makeFunc rfl rfl) rfl rfl ?_
  refine SL.call (tfold_s (C := fun s (_ : Unit) => cFi b8 b9 b6 b7 name kH capsH Ch s) (entS := quietS) (batS := batFi name hold) (Inv := fun _ _ _ => True) (k1 := 32) (k2 := 41) (caps1 := []) (caps2 := [ptr b6, ptr b7, ptr b8, ptr b9]) (s0 := (0, false)) (v0 := ()) (n := n) (h := h) he hr (by kernel_rfl) (by kernel_rfl) (fun i j s v ev nm _ _ _ => Spec.mapI (fun _ : Unit => v) (Spec.stay (quiet_s (ev := ev) (nm := nm))) (fun _ => rfl) (fun _ => rfl)) (fun _ _ _ _ _ _ => trivial) (fun i j s v q l _ _ _ _ h1 h2 _ => Spec.big (first1_s (sf := s) ⟨by omega, by omega⟩ gH hH) rfl (fun _ => rfl)) (fun _ _ _ _ _ _ _ => trivial) trivial hh hro hn) Casts.refl (by kernel_rfl) rfl rfl rfl ?_
  refine After.oneR (ys := (globs e1 e2)) rfl (by repeat first|assumption|exact m0|apply m1) (by intro y hy; simp only [globs, List.mem_cons, List.not_mem_nil, or_false] at hy; rcases hy with rfl | rfl | rfl <;> exact ⟨by repeat first|assumption|exact m0|apply m1, by intro h; cases h⟩) rfl (fun _ => rfl) ?_
  intro r13
  refine ⟨_, (by repeat first|assumption|exact Upd.here|apply Upd.there), ?_⟩
  rw [show foldS n quietS (batFi name hold) 0 (0, false) Lg.zero h = (firstF n h name hold) from rfl]
  refine SL.re [] (Re.bigOut rfl) rfl ?_
  refine SL.nil (SE.seq ?_)
  refine SC.seq ?_
  refine SC.draw [b9, b8] (.two 0 1 (.two 1 2 (.e 2 (.e 3 .nil)) (.e 1 (.e 3 .nil))) (.e 0 (.e 2 (.e 3 .nil)))) (by kernel_rfl) (by kernel_rfl) ?_
  refine SX.two ?_ ?_
  · skip
    refine SX.valE rfl (Val.to (C := int (firstF n h name hold).1) (Val.load1 tabOk rfl rfl (by first|(apply Or.inl;(repeat first|assumption|exact m0|apply m1);done)|(apply Or.inr;(repeat first|assumption|exact m0|apply m1);done)) List.not_mem_nil (by rfl)) rfl) rfl rfl ?_
    refine SX.two ?_ ?_
    · skip
      refine SX.valE rfl (Val.to (C := boo (firstF n h name hold).2) (Val.load1 tabOk rfl rfl (by first|(apply Or.inl;(repeat first|assumption|exact m0|apply m1);done)|(apply Or.inr;(repeat first|assumption|exact m0|apply m1);done)) List.not_mem_nil (by rfl)) rfl) rfl rfl ?_
      refine SX.eff rfl (Eff.store (L' := [int (firstF n h name hold).1]) tabOk rfl rfl rfl (by repeat first|assumption|exact Upd.here|apply Upd.there) rfl (Nat.le_of_ble_eq_true (by rfl)) rfl (by rfl)) (by simp) rfl rfl ?_
      rintro _ _ ⟨rfl, rfl⟩
      refine SX.eff rfl (Eff.store (L' := [boo (firstF n h name hold).2]) tabOk rfl rfl rfl (by repeat first|assumption|exact Upd.here|apply Upd.there) rfl (Nat.le_of_ble_eq_true (by rfl)) rfl (by rfl)) (by simp) rfl rfl ?_
      rintro _ _ ⟨rfl, rfl⟩
      refine SX.nil (SE.seq ?_)
      refine SC.ret ?_
      refine SE.fin (rs := [.cell 8 2, .cell 9 4]) rfl (RV.cell rfl (RV.cell1 tabOk rfl (by first|(apply Or.inl;(repeat first|assumption|exact m0|apply m1);done)|(apply Or.inr;(repeat first|assumption|exact m0|apply m1);done)) (by rfl)) (RV.cell rfl (RV.cell1 tabOk rfl (by first|(apply Or.inl;(repeat first|assumption|exact m0|apply m1);done)|(apply Or.inr;(repeat first|assumption|exact m0|apply m1);done)) (by rfl)) RV.nil)) (()) (by repeat first|exact s0 _|exact s1 _|apply s2|apply s3) (by simp [It.rids]) ?_
      exact rfl
    · skip
      refine SX.eff rfl (Eff.store (L' := [int (firstF n h name hold).1]) tabOk rfl rfl rfl (by repeat first|assumption|exact Upd.here|apply Upd.there) rfl (Nat.le_of_ble_eq_true (by rfl)) rfl (by rfl)) (by simp) rfl rfl ?_
      rintro _ _ ⟨rfl, rfl⟩
      refine SX.valE rfl (Val.to (C := boo (firstF n h name hold).2) (Val.load1 tabOk rfl rfl (by first|(apply Or.inl;(repeat first|assumption|exact m0|apply m1);done)|(apply Or.inr;(repeat first|assumption|exact m0|apply m1);done)) List.not_mem_nil (by rfl)) rfl) rfl rfl ?_
      refine SX.eff rfl (Eff.store (L' := [boo (firstF n h name hold).2]) tabOk rfl rfl rfl (by repeat first|assumption|exact Upd.here|apply Upd.there) rfl (Nat.le_of_ble_eq_true (by rfl)) rfl (by rfl)) (by simp) rfl rfl ?_
      rintro _ _ ⟨rfl, rfl⟩
      refine SX.nil (SE.seq ?_)
      refine SC.ret ?_
      refine SE.fin (rs := [.cell 8 2, .cell 9 4]) rfl (RV.cell rfl (RV.cell1 tabOk rfl (by first|(apply Or.inl;(repeat first|assumption|exact m0|apply m1);done)|(apply Or.inr;(repeat first|assumption|exact m0|apply m1);done)) (by rfl)) (RV.cell rfl (RV.cell1 tabOk rfl (by first|(apply Or.inl;(repeat first|assumption|exact m0|apply m1);done)|(apply Or.inr;(repeat first|assumption|exact m0|apply m1);done)) (by rfl)) RV.nil)) (()) (by repeat first|exact s0 _|exact s1 _|apply s2|apply s3) (by simp [It.rids]) ?_
      exact rfl
  · skip
    refine SX.valE rfl (Val.to (C := boo (firstF n h name hold).2) (Val.load1 tabOk rfl rfl (by first|(apply Or.inl;(repeat first|assumption|exact m0|apply m1);done)|(apply Or.inr;(repeat first|assumption|exact m0|apply m1);done)) List.not_mem_nil (by rfl)) rfl) rfl rfl ?_
    refine SX.valE rfl (Val.to (C := int (firstF n h name hold).1) (Val.load1 tabOk rfl rfl (by first|(apply Or.inl;(repeat first|assumption|exact m0|apply m1);done)|(apply Or.inr;(repeat first|assumption|exact m0|apply m1);done)) List.not_mem_nil (by rfl)) rfl) rfl rfl ?_
    refine SX.eff rfl (Eff.store (L' := [int (firstF n h name hold).1]) tabOk rfl rfl rfl (by repeat first|assumption|exact Upd.here|apply Upd.there) rfl (Nat.le_of_ble_eq_true (by rfl)) rfl (by rfl)) (by simp) rfl rfl ?_
    rintro _ _ ⟨rfl, rfl⟩
    refine SX.eff rfl (Eff.store (L' := [boo (firstF n h name hold).2]) tabOk rfl rfl rfl (by repeat first|assumption|exact Upd.here|apply Upd.there) rfl (Nat.le_of_ble_eq_true (by rfl)) rfl (by rfl)) (by simp) rfl rfl ?_
    rintro _ _ ⟨rfl, rfl⟩
    refine SX.nil (SE.seq ?_)
    refine SC.ret ?_
    refine SE.fin (rs := [.cell 8 2, .cell 9 4]) rfl (RV.cell rfl (RV.cell1 tabOk rfl (by first|(apply Or.inl;(repeat first|assumption|exact m0|apply m1);done)|(apply Or.inr;(repeat first|assumption|exact m0|apply m1);done)) (by rfl)) (RV.cell rfl (RV.cell1 tabOk rfl (by first|(apply Or.inl;(repeat first|assumption|exact m0|apply m1);done)|(apply Or.inr;(repeat first|assumption|exact m0|apply m1);done)) (by rfl)) RV.nil)) (()) (by repeat first|exact s0 _|exact s1 _|apply s2|apply s3) (by simp [It.rids]) ?_
    exact rfl
theorem when1_s  : Spec Tryz.prog 27 [.agg (ltrA x), ptr p] [.rd p 3 [int state]] (fun _ : Unit => []) (fun _ => boo (decide (x.state = state))) := by
  refine spec_of Tryz.func27 rfl Tryz.ntmps27 rfl fun G w => ?_
  refine SC.seq (SC.region ?_)
  refine SL.eff (Eff.boxA (cs := ltrA x) rfl) rfl rfl ?_
  rintro _ _ ⟨b2, rfl, rfl⟩
  refine SL.val (Val.assign rfl) rfl rfl ?_
  refine SL.nil (SE.seq ?_)
  refine SC.seq (SC.region ?_)
  refine SL.val (Val.fieldAddr tabOk rfl rfl rfl rfl rfl) rfl rfl ?_
  refine SL.val (Val.to (C := int x.state) (Val.load1 tabOk rfl rfl (by first|(apply Or.inl;(repeat first|assumption|exact m0|apply m1);done)|(apply Or.inr;(repeat first|assumption|exact m0|apply m1);done)) List.not_mem_nil (by rfl)) rfl) rfl rfl ?_
  refine SL.val (Val.to (C := int state) (Val.load1 tabOk rfl rfl (by first|(apply Or.inl;(repeat first|assumption|exact m0|apply m1);done)|(apply Or.inr;(repeat first|assumption|exact m0|apply m1);done)) List.not_mem_nil (by rfl)) rfl) rfl rfl ?_
  refine SL.val (Val.eqI rfl rfl) rfl rfl ?_
  refine SL.val (Val.assign rfl) rfl rfl ?_
  refine SL.nil (SE.seq ?_)
  refine SC.ret ?_
  refine SE.fin (rs := [.tmp 3]) rfl (RV.tmp rfl RV.nil) (()) (by repeat first|exact s0 _|exact s1 _|apply s2|apply s3) (by simp [It.rids]) ?_
  exact rfl
set_option maxHeartbeats 1000000 in
theorem when_s (he : isIf e1) (hr : isIf e2) (hh : HisIns h) (hro : ∀ b ∈ h, b.length ≤ 10) (hn : h.length ≤ 40) : Spec Tryz.prog 12 [histA h, int n, st name, int state] (globs e1 e2) (fun _ : Unit => []) (fun _ => .tup [int (firstF n h name (fun x => decide (x.state = state))).1, boo (firstF n h name (fun x => decide (x.state = state))).2]) := by
  refine spec_of Tryz.func12 rfl Tryz.ntmps12 rfl fun G w => ?_
  refine SC.seq (SC.region ?_)
  refine SL.eff (Eff.box1 rfl rfl) rfl rfl ?_
  rintro _ _ ⟨b7, rfl, rfl⟩
  refine SL.val (Val.assign rfl) rfl rfl ?_
  refine SL.val (Val.assign rfl) rfl rfl ?_
  refine SL.nil (SE.seq ?_)
  refine SC.seq (SC.region ?_)
  refine SL.re [] Re.blkIn rfl ?_
  refine SL.val (Val.move rfl) rfl rfl ?_
  refine SL.val (Val.move rfl) rfl rfl ?_
  refine SL.val (Val.move rfl) rfl rfl ?_
  refine SL.val (Val.makeFunc rfl rfl) rfl rfl ?_
  refine SL.call (first_s (Ch := blkP b7 3 [int state]) (kH := 27) (capsH := [ptr b7]) (hold := fun x => decide (x.state = state)) (name := name) (n := n) (h := h) he hr (by kernel_rfl) (fun x => Spec.rdP (when1_s (x := x))) hh hro hn) Casts.refl (by kernel_rfl) rfl rfl rfl ?_
  refine After.oneR (ys := (globs e1 e2)) rfl (by repeat first|assumption|exact m0|apply m1) (by intro y hy; simp only [globs, List.mem_cons, List.not_mem_nil, or_false] at hy; rcases hy with rfl | rfl | rfl <;> exact ⟨by repeat first|assumption|exact m0|apply m1, by intro h; cases h⟩) rfl (fun _ => rfl) ?_
  intro _
  refine ⟨_, (by repeat first|assumption|exact Upd.here|apply Upd.there), ?_⟩
  refine SL.val (Val.extract rfl rfl) rfl rfl ?_
  refine SL.val (Val.extract rfl rfl) rfl rfl ?_
  refine SL.val (Val.assign rfl) rfl rfl ?_
  refine SL.val (Val.assign rfl) rfl rfl ?_
  refine SL.nil (SE.seq ?_)
  refine SC.ret ?_
  refine SE.fin (rs := [.tmp 8, .tmp 9]) rfl (RV.tmp rfl (RV.tmp rfl RV.nil)) (()) (by repeat first|exact s0 _|exact s1 _|apply s2|apply s3) (by simp [It.rids]) ?_
  exact rfl
theorem over_s  : Spec Tryz.prog 30 [int state] [] (fun _ : Unit => []) (fun _ => boo (decide (5 ≤ state ∧ state ≤ 7))) := by
  refine spec_of Tryz.func30 rfl Tryz.ntmps30 rfl fun G w => ?_
  refine SC.seq (SC.region ?_)
  refine SL.val (Val.assign rfl) rfl rfl ?_
  refine SL.nil (SE.seq ?_)
  refine SC.seq (SC.region ?_)
  refine SL.val (Val.move rfl) rfl rfl ?_
  refine SL.val (Val.geI rfl rfl) rfl rfl ?_
  refine SL.val (Val.move rfl) rfl rfl ?_
  refine SL.bothP (t := 5) rfl ?_ ?_
  · intro hc5
    refine SL.val (Val.move rfl) rfl rfl ?_
    refine SL.val (Val.leI rfl rfl) rfl rfl ?_
    refine SL.val (Val.pickT rfl rfl) rfl rfl ?_
    refine SL.val (Val.assign rfl) rfl rfl ?_
    refine SL.nil (SE.seq ?_)
    refine SC.ret ?_
    refine SE.fin (rs := [.tmp 2]) rfl (RV.tmp rfl RV.nil) (()) (by repeat first|exact s0 _|exact s1 _|apply s2|apply s3) (by simp [It.rids]) ?_
    first
      | (refine congrArg (fun b => Abs.v (Value.bool b)) ?_; rw [decide_eq_decide]; omega)
      | (refine boo_dec0 fun h => ?_; omega)
  intro hc5
  iterate 2 refine SL.skip rfl rfl ?_
  refine SL.val (Val.pickF rfl rfl) rfl rfl ?_
  refine SL.val (Val.assign rfl) rfl rfl ?_
  refine SL.nil (SE.seq ?_)
  refine SC.ret ?_
  refine SE.fin (rs := [.tmp 2]) rfl (RV.tmp rfl RV.nil) (()) (by repeat first|exact s0 _|exact s1 _|apply s2|apply s3) (by simp [It.rids]) ?_
  first
    | (refine congrArg (fun b => Abs.v (Value.bool b)) ?_; rw [decide_eq_decide]; omega)
    | (refine boo_dec0 fun h => ?_; omega)
theorem took1_s  : Spec Tryz.prog 28 [.agg (ltrA x)] [] (fun _ : Unit => []) (fun _ => boo true) := by
  refine spec_of Tryz.func28 rfl Tryz.ntmps28 rfl fun G w => ?_
  refine SC.seq (SC.region ?_)
  refine SL.eff (Eff.boxA (cs := ltrA x) rfl) rfl rfl ?_
  rintro _ _ ⟨b1, rfl, rfl⟩
  refine SL.val (Val.assign rfl) rfl rfl ?_
  refine SL.nil (SE.seq ?_)
  refine SC.seq (SC.region ?_)
  refine SL.val (Val.assign rfl) rfl rfl ?_
  refine SL.nil (SE.seq ?_)
  refine SC.ret ?_
  refine SE.fin (rs := [.tmp 2]) rfl (RV.tmp rfl RV.nil) (()) (by repeat first|exact s0 _|exact s1 _|apply s2|apply s3) (by simp [It.rids]) ?_
  exact rfl
theorem took2_s  : Spec Tryz.prog 29 [.agg (ltrA x)] [] (fun _ : Unit => []) (fun _ => boo (decide (5 ≤ x.state ∧ x.state ≤ 7))) := by
  refine spec_of Tryz.func29 rfl Tryz.ntmps29 rfl fun G w => ?_
  refine SC.seq (SC.region ?_)
  refine SL.eff (Eff.boxA (cs := ltrA x) rfl) rfl rfl ?_
  rintro _ _ ⟨b1, rfl, rfl⟩
  refine SL.val (Val.assign rfl) rfl rfl ?_
  refine SL.nil (SE.seq ?_)
  refine SC.seq (SC.region ?_)
  refine SL.val (Val.fieldAddr tabOk rfl rfl rfl rfl rfl) rfl rfl ?_
  refine SL.val (Val.to (C := int x.state) (Val.load1 tabOk rfl rfl (by first|(apply Or.inl;(repeat first|assumption|exact m0|apply m1);done)|(apply Or.inr;(repeat first|assumption|exact m0|apply m1);done)) List.not_mem_nil (by rfl)) rfl) rfl rfl ?_
  refine SL.call (over_s (state := x.state)) Casts.refl (by kernel_rfl) rfl rfl rfl ?_
  refine After.pure (by repeat (first | exact Reads.nil | (refine Reads.blk ?_ ?_; focus ((repeat first|assumption|exact m0|apply m1); done)) | (refine Reads.rd ?_ ?_; focus ((repeat first|assumption|exact m0|apply m1); done)) | (refine Reads.pc ?_ ?_; focus ((repeat first|assumption|exact m0|apply m1); done)) | (refine Reads.rdpc ?_ ?_; focus ((repeat first|assumption|exact m0|apply m1); done)))) (fun _ => rfl) ?_
  intro _
  refine SL.val (Val.assign rfl) rfl rfl ?_
  refine SL.nil (SE.seq ?_)
  refine SC.ret ?_
  refine SE.fin (rs := [.tmp 2]) rfl (RV.tmp rfl RV.nil) (()) (by repeat first|exact s0 _|exact s1 _|apply s2|apply s3) (by simp [It.rids]) ?_
  exact rfl
def tookF (n : Int) (h : List (List Ent)) (name : ByteArray) : Int × Bool := if (firstF n h name (fun x => decide (5 ≤ x.state ∧ x.state ≤ 7))).2 = false then (0, false) else ((firstF n h name (fun x => decide (5 ≤ x.state ∧ x.state ≤ 7))).1 - (firstF n h name (fun _ => true)).1, true)
set_option maxHeartbeats 1000000 in
theorem took_s (he : isIf e1) (hr : isIf e2) (hh : HisIns h) (hro : ∀ b ∈ h, b.length ≤ 10) (hn : h.length ≤ 40) (ha : 0 ≤ (firstF n h name (fun _ => true)).1 ∧ (firstF n h name (fun _ => true)).1 ≤ 100000) (hb : 0 ≤ (firstF n h name (fun x => decide (5 ≤ x.state ∧ x.state ≤ 7))).1 ∧ (firstF n h name (fun x => decide (5 ≤ x.state ∧ x.state ≤ 7))).1 ≤ 100000) : Spec Tryz.prog 14 [histA h, int n, st name] (globs e1 e2) (fun _ : Unit => []) (fun _ => .tup [int (tookF n h name).1, boo (tookF n h name).2]) := by
  refine spec_of Tryz.func14 rfl Tryz.ntmps14 rfl fun G w => ?_
  refine SC.seq (SC.region ?_)
  refine SL.val (Val.assign rfl) rfl rfl ?_
  refine SL.val (Val.assign rfl) rfl rfl ?_
  refine SL.nil (SE.seq ?_)
  refine SC.seq (SC.region ?_)
  refine SL.re [] Re.empty rfl ?_
  refine SL.val (Val.move rfl) rfl rfl ?_
  refine SL.val (Val.move rfl) rfl rfl ?_
  refine SL.val (Val.move rfl) rfl rfl ?_
  refine SL.call (first_s (Ch := bigP []) (kH := 28) (capsH := []) (hold := fun _ => true) (name := name) (n := n) (h := h) he hr (by kernel_rfl) (fun x => Spec.rd0 (took1_s (x := x))) hh hro hn) Casts.refl (by kernel_rfl) rfl rfl rfl ?_
  refine After.oneR (ys := (globs e1 e2)) rfl (by repeat first|assumption|exact m0|apply m1) (by intro y hy; simp only [globs, List.mem_cons, List.not_mem_nil, or_false] at hy; rcases hy with rfl | rfl | rfl <;> exact ⟨by repeat first|assumption|exact m0|apply m1, by intro h; cases h⟩) rfl (fun _ => rfl) ?_
  intro _
  refine ⟨_, (by repeat first|assumption|exact Upd.here|apply Upd.there), ?_⟩
  refine SL.val (Val.move rfl) rfl rfl ?_
  refine SL.val (Val.extract rfl rfl) rfl rfl ?_
  refine SL.val (Val.extract rfl rfl) rfl rfl ?_
  refine SL.val (Val.assign rfl) rfl rfl ?_
  refine SL.val (Val.assign rfl) rfl rfl ?_
  refine SL.nil (SE.seq ?_)
  refine SC.seq (SC.region ?_)
  refine SL.val (Val.move rfl) rfl rfl ?_
  refine SL.val (Val.move rfl) rfl rfl ?_
  refine SL.val (Val.move rfl) rfl rfl ?_
  refine SL.call (first_s (Ch := bigP []) (kH := 29) (capsH := []) (hold := fun x => decide (5 ≤ x.state ∧ x.state ≤ 7)) (name := name) (n := n) (h := h) he hr (by kernel_rfl) (fun x => Spec.rd0 (took2_s (x := x))) hh hro hn) Casts.refl (by kernel_rfl) rfl rfl rfl ?_
  refine After.oneR (ys := (globs e1 e2)) rfl (by repeat first|assumption|exact m0|apply m1) (by intro y hy; simp only [globs, List.mem_cons, List.not_mem_nil, or_false] at hy; rcases hy with rfl | rfl | rfl <;> exact ⟨by repeat first|assumption|exact m0|apply m1, by intro h; cases h⟩) rfl (fun _ => rfl) ?_
  intro _
  refine ⟨_, (by repeat first|assumption|exact Upd.here|apply Upd.there), ?_⟩
  refine SL.val (Val.move rfl) rfl rfl ?_
  refine SL.val (Val.extract rfl rfl) rfl rfl ?_
  refine SL.val (Val.extract rfl rfl) rfl rfl ?_
  refine SL.val (Val.assign rfl) rfl rfl ?_
  refine SL.val (Val.assign rfl) rfl rfl ?_
  refine SL.nil (SE.seq ?_)
  refine SC.seq ?_
  refine SC.seq (SC.region ?_)
  refine SL.val (Val.move rfl) rfl rfl ?_
  refine SL.val (Val.notB rfl) rfl rfl ?_
  refine SL.nil (SE.seq ?_)
  refine SC.cond rfl ?_ ?_
  · intro hc27
    refine SC.seq (SC.region ?_)
    refine SL.val (Val.assign rfl) rfl rfl ?_
    refine SL.val (Val.assign rfl) rfl rfl ?_
    refine SL.nil (SE.seq ?_)
    refine SC.ret ?_
    refine SE.then_ (by intro h; cases h) ?_
    refine SE.fin (rs := [.tmp 6, .tmp 7]) rfl (RV.tmp rfl (RV.tmp rfl RV.nil)) (()) (by repeat first|exact s0 _|exact s1 _|apply s2|apply s3) (by simp [It.rids]) ?_
    unfold tookF
    first
      | (rw [if_pos (by simpa using hc27)]; rfl)
      | (rw [if_neg (by simpa using hc27)]; rfl)
  intro hc27
  refine SC.skip ?_
  refine SE.seq ?_
  refine SC.seq (SC.region ?_)
  refine SL.val (Val.move rfl) rfl rfl ?_
  refine SL.val (Val.move rfl) rfl rfl ?_
  first
    | refine SL.val (Val.subI rfl rfl (by simp only [InR, lo, hi]; omega)) rfl rfl ?_
    | refine SL.val (Val.subW rfl rfl) rfl rfl ?_
  refine SL.val (Val.assign rfl) rfl rfl ?_
  refine SL.val (Val.assign rfl) rfl rfl ?_
  refine SL.nil (SE.seq ?_)
  refine SC.ret ?_
  refine SE.fin (rs := [.tmp 6, .tmp 7]) rfl (RV.tmp rfl (RV.tmp rfl RV.nil)) (()) (by repeat first|exact s0 _|exact s1 _|apply s2|apply s3) (by simp [It.rids]) ?_
  unfold tookF
  first
    | (rw [if_pos (by simpa using hc27)]; rfl)
    | (rw [if_neg (by simpa using hc27)]; rfl)
theorem i64_in {a : Int} (h : i64ok a) : intOk a := h
set_option maxHeartbeats 1000000 in
theorem refused1_s {b i : Nat} (hc : CntI i sm) (hi9 : i ≤ 400) (hv : EvIns ev) : Spec Tryz.prog 25 [.agg ev.abs, st nm, ptr p] [.blk p 30 [mapV b], .pc (mapPc b intK cntV intOk sm)] (fun _ : Unit => [.blk p 30 [mapV b], .pc (mapPc b intK cntV intOk (entRe sm ev nm))]) (fun _ => .tup []) := by
  have hk : intOk ev.result := i64_in hv.result
  have hck := hc ev.result
  refine spec_of Tryz.func25 rfl Tryz.ntmps25 rfl fun G w => ?_
  refine SC.seq (SC.region ?_)
  refine SL.eff (Eff.boxA (cs := ev.abs) rfl) rfl rfl ?_
  rintro _ _ ⟨b3, rfl, rfl⟩
  refine SL.nil (SE.seq ?_)
  refine SC.seq (SC.region ?_)
  refine SL.val (Val.fieldAddr tabOk rfl rfl rfl rfl rfl) rfl rfl ?_
  refine SL.val (Val.to (C := int ev.result) (Val.load1 tabOk rfl rfl (by first|(apply Or.inl;(repeat first|assumption|exact m0|apply m1);done)|(apply Or.inr;(repeat first|assumption|exact m0|apply m1);done)) List.not_mem_nil (by rfl)) rfl) rfl rfl ?_
  refine SL.val (Val.neI rfl rfl) rfl rfl ?_
  refine SL.nil (SE.seq ?_)
  refine SC.condP rfl ?_ ?_
  rotate_left
  · intro hc7
    refine SC.skip ?_
    have hen : entRe sm ev nm = sm := if_neg hc7
    refine SE.finN (rs := []) rfl RV.nil (()) (by rw [hen]; repeat (first | exact List.nil_sublist _ | exact List.Sublist.refl _ | apply List.Sublist.cons_cons | apply List.Sublist.cons)) (by simp [It.rids]) ?_
    exact rfl
  intro hc7
  refine SC.region ?_
  refine SL.val (Val.to (C := mapV b) (Val.load1 tabOk rfl rfl (by first|(apply Or.inl;(repeat first|assumption|exact m0|apply m1);done)|(apply Or.inr;(repeat first|assumption|exact m0|apply m1);done)) List.not_mem_nil (by rfl)) rfl) rfl rfl ?_
  refine SL.val (Val.fieldAddr tabOk rfl rfl rfl rfl rfl) rfl rfl ?_
  refine SL.val (Val.to (C := int ev.result) (Val.load1 tabOk rfl rfl (by first|(apply Or.inl;(repeat first|assumption|exact m0|apply m1);done)|(apply Or.inr;(repeat first|assumption|exact m0|apply m1);done)) List.not_mem_nil (by rfl)) rfl) rfl rfl ?_
  refine SL.val (Val.mapGet (a := ev.result) (zv := cntV 0) (C := int ((cg sm ev.result : Nat) : Int)) (int_fit Tryz.underlying32) Tryz.underlying30 zero_int rfl (by first|(apply Or.inl;(repeat first|assumption|exact m0|apply m1);done)|(apply Or.inr;(repeat first|assumption|exact m0|apply m1);done)) List.not_mem_nil rfl is_v hk cg_is) rfl rfl ?_
  refine SL.val (Val.to (C := int ((cg sm ev.result + 1 : Nat) : Int)) (Val.addI rfl rfl (by simp only [InR, lo, hi]; omega)) rfl) rfl rfl ?_
  refine SL.eff (Eff.mapPut (a := ev.result) (v := cg sm ev.result + 1) (m' := inc1 sm ev.result) (int_fit Tryz.underlying32) Tryz.underlying30 rfl (by repeat first|assumption|exact Upd.here|apply Upd.there) rfl is_v hk rfl is_v rfl) rfl rfl ?_
  rintro _ _ ⟨rfl, rfl⟩
  refine SL.nil ?_
  have hen : entRe sm ev nm = inc1 sm ev.result := if_pos hc7
  refine SE.finN (rs := []) rfl RV.nil (()) (by rw [hen]; repeat (first | exact List.nil_sublist _ | exact List.Sublist.refl _ | apply List.Sublist.cons_cons | apply List.Sublist.cons)) (by simp [It.rids]) ?_
  exact rfl
set_option maxHeartbeats 1000000 in
theorem refused_s (he : isIf e1) (hr : isIf e2) (hh : HisIns h) (hro : ∀ b ∈ h, b.length ≤ 10) (hn : h.length ≤ 40) : Spec Tryz.prog 11 [histA h, int n] (globs e1 e2) (fun b : Nat => [.pc (mapPc b intK cntV intOk (refF n h))]) (fun b => mapV b) := by
  refine spec_of Tryz.func11 rfl Tryz.ntmps11 rfl fun G w => ?_
  refine SC.seq (SC.region ?_)
  refine SL.val (Val.assign rfl) rfl rfl ?_
  refine SL.nil (SE.seq ?_)
  refine SC.seq (SC.region ?_)
  refine SL.eff (Eff.makeMap intK cntV intOk (fun ac w => by simp [execOp, Instr.makeMap, newObj, Sem.run, Sem.run_bind, Result.andThen])) rfl rfl ?_
  rintro _ _ ⟨m6, rfl, rfl⟩
  refine SL.eff (Eff.alloc tabOk rfl) rfl rfl ?_
  rintro _ _ ⟨b5, rfl, rfl⟩
  refine SL.eff (Eff.store tabOk rfl rfl rfl (by repeat first|assumption|exact Upd.here|apply Upd.there) (by rfl) (Nat.le_of_ble_eq_true (by rfl)) (by rfl) (by rfl)) rfl rfl ?_
  rintro _ _ ⟨rfl, rfl⟩
  refine SL.nil (SE.seq ?_)
  refine SC.seq (SC.region ?_)
  refine SL.re [] (Re.bigIn (xs := [_, _]) rfl) rfl ?_
  refine SL.val (Val.move rfl) rfl rfl ?_
  refine SL.val (Val.move rfl) rfl rfl ?_
  refine SL.val (Val.makeFunc rfl rfl) rfl rfl ?_
  refine SL.call (tfold_s (C := fun s (_ : Unit) => cMp 30 b5 m6 s) (entS := entRe) (batS := goOn) (Inv := fun i _ s => CntI i s) (k1 := 25) (k2 := 24) (caps1 := [ptr b5]) (caps2 := []) (s0 := []) (v0 := ()) (n := n) (h := h) he hr (by kernel_rfl) (by kernel_rfl) (fun i j s v ev nm hs hi9 hv => Spec.big (refused1_s (sm := s) (b := m6) hs hi9 hv) rfl (fun _ => rfl)) (fun i j s ev nm hs => by show CntI (i + 1) (entRe s ev nm); unfold entRe; split; exact inc1_i hs _; exact hs.more) (fun i j s v q l _ _ _ _ _ _ _ => Spec.stay (all_s (qq := q) (l := l))) (fun i j s q l hs _ => hs) (fun k => Nat.le_refl 0) hh hro hn) Casts.refl (by kernel_rfl) rfl rfl rfl ?_
  refine After.oneR (ys := (globs e1 e2)) rfl (by repeat first|assumption|exact m0|apply m1) (by intro y hy; simp only [globs, List.mem_cons, List.not_mem_nil, or_false] at hy; rcases hy with rfl | rfl | rfl <;> exact ⟨by repeat first|assumption|exact m0|apply m1, by intro h; cases h⟩) rfl (fun _ => rfl) ?_
  intro r10
  refine ⟨_, (by repeat first|assumption|exact Upd.here|apply Upd.there), ?_⟩
  rw [show foldS n entRe goOn 0 [] Lg.zero h = refF n h from foldS_all (batS := goOn) (fun _ _ _ => rfl) _ _ _ _]
  refine SL.re [] (Re.bigOut rfl) rfl ?_
  refine SL.nil (SE.seq ?_)
  refine SC.seq (SC.region ?_)
  refine SL.val (Val.to (C := mapV m6) (Val.load1 tabOk rfl rfl (by first|(apply Or.inl;(repeat first|assumption|exact m0|apply m1);done)|(apply Or.inr;(repeat first|assumption|exact m0|apply m1);done)) List.not_mem_nil (by rfl)) rfl) rfl rfl ?_
  refine SL.val (Val.assign rfl) rfl rfl ?_
  refine SL.nil (SE.seq ?_)
  refine SC.ret ?_
  refine SE.fin (rs := [.tmp 4]) rfl (RV.tmp rfl RV.nil) (m6) (by repeat first|exact s0 _|exact s1 _|apply s2|apply s3) (by simp [It.rids]) ?_
  exact rfl
set_option maxHeartbeats 1000000 in
theorem clients1_s {b i : Nat} (hc : CntI i sm) (hi9 : i ≤ 400) (hv : EvIns ev) : Spec Tryz.prog 34 [.agg ev.abs, st nm, ptr p] [.blk p 51 [mapV b], .pc (mapPc b intK cntV intOk sm)] (fun _ : Unit => [.blk p 51 [mapV b], .pc (mapPc b intK cntV intOk (entCl sm ev nm))]) (fun _ => .tup []) := by
  have hk : intOk ev.client := i64_in hv.client
  have hck := hc ev.client
  refine spec_of Tryz.func34 rfl Tryz.ntmps34 rfl fun G w => ?_
  refine SC.seq (SC.region ?_)
  refine SL.eff (Eff.boxA (cs := ev.abs) rfl) rfl rfl ?_
  rintro _ _ ⟨b3, rfl, rfl⟩
  refine SL.nil (SE.seq ?_)
  refine SC.seq (SC.region ?_)
  refine SL.val (Val.fieldAddr tabOk rfl rfl rfl rfl rfl) rfl rfl ?_
  refine SL.val (Val.to (C := int ev.result) (Val.load1 tabOk rfl rfl (by first|(apply Or.inl;(repeat first|assumption|exact m0|apply m1);done)|(apply Or.inr;(repeat first|assumption|exact m0|apply m1);done)) List.not_mem_nil (by rfl)) rfl) rfl rfl ?_
  refine SL.val (Val.eqI rfl rfl) rfl rfl ?_
  refine SL.nil (SE.seq ?_)
  refine SC.condP rfl ?_ ?_
  rotate_left
  · intro hc7
    refine SC.skip ?_
    have hen : entCl sm ev nm = sm := if_neg hc7
    refine SE.finN (rs := []) rfl RV.nil (()) (by rw [hen]; repeat (first | exact List.nil_sublist _ | exact List.Sublist.refl _ | apply List.Sublist.cons_cons | apply List.Sublist.cons)) (by simp [It.rids]) ?_
    exact rfl
  intro hc7
  refine SC.region ?_
  refine SL.val (Val.to (C := mapV b) (Val.load1 tabOk rfl rfl (by first|(apply Or.inl;(repeat first|assumption|exact m0|apply m1);done)|(apply Or.inr;(repeat first|assumption|exact m0|apply m1);done)) List.not_mem_nil (by rfl)) rfl) rfl rfl ?_
  refine SL.val (Val.fieldAddr tabOk rfl rfl rfl rfl rfl) rfl rfl ?_
  refine SL.val (Val.to (C := int ev.client) (Val.load1 tabOk rfl rfl (by first|(apply Or.inl;(repeat first|assumption|exact m0|apply m1);done)|(apply Or.inr;(repeat first|assumption|exact m0|apply m1);done)) List.not_mem_nil (by rfl)) rfl) rfl rfl ?_
  refine SL.val (Val.mapGet (a := ev.client) (zv := cntV 0) (C := int ((cg sm ev.client : Nat) : Int)) (int_fit Tryz.underlying3) Tryz.underlying51 zero_int rfl (by first|(apply Or.inl;(repeat first|assumption|exact m0|apply m1);done)|(apply Or.inr;(repeat first|assumption|exact m0|apply m1);done)) List.not_mem_nil rfl is_v hk cg_is) rfl rfl ?_
  refine SL.val (Val.to (C := int ((cg sm ev.client + 1 : Nat) : Int)) (Val.addI rfl rfl (by simp only [InR, lo, hi]; omega)) rfl) rfl rfl ?_
  refine SL.eff (Eff.mapPut (a := ev.client) (v := cg sm ev.client + 1) (m' := inc1 sm ev.client) (int_fit Tryz.underlying3) Tryz.underlying51 rfl (by repeat first|assumption|exact Upd.here|apply Upd.there) rfl is_v hk rfl is_v rfl) rfl rfl ?_
  rintro _ _ ⟨rfl, rfl⟩
  refine SL.nil ?_
  have hen : entCl sm ev nm = inc1 sm ev.client := if_pos hc7
  refine SE.finN (rs := []) rfl RV.nil (()) (by rw [hen]; repeat (first | exact List.nil_sublist _ | exact List.Sublist.refl _ | apply List.Sublist.cons_cons | apply List.Sublist.cons)) (by simp [It.rids]) ?_
  exact rfl
set_option maxHeartbeats 1000000 in
theorem clients_s (he : isIf e1) (hr : isIf e2) (hh : HisIns h) (hro : ∀ b ∈ h, b.length ≤ 10) (hn : h.length ≤ 40) : Spec Tryz.prog 19 [histA h, int n] (globs e1 e2) (fun b : Nat => [.pc (mapPc b intK cntV intOk (cliF n h))]) (fun b => mapV b) := by
  refine spec_of Tryz.func19 rfl Tryz.ntmps19 rfl fun G w => ?_
  refine SC.seq (SC.region ?_)
  refine SL.val (Val.assign rfl) rfl rfl ?_
  refine SL.nil (SE.seq ?_)
  refine SC.seq (SC.region ?_)
  refine SL.eff (Eff.makeMap intK cntV intOk (fun ac w => by simp [execOp, Instr.makeMap, newObj, Sem.run, Sem.run_bind, Result.andThen])) rfl rfl ?_
  rintro _ _ ⟨m6, rfl, rfl⟩
  refine SL.eff (Eff.alloc tabOk rfl) rfl rfl ?_
  rintro _ _ ⟨b5, rfl, rfl⟩
  refine SL.eff (Eff.store tabOk rfl rfl rfl (by repeat first|assumption|exact Upd.here|apply Upd.there) (by rfl) (Nat.le_of_ble_eq_true (by rfl)) (by rfl) (by rfl)) rfl rfl ?_
  rintro _ _ ⟨rfl, rfl⟩
  refine SL.nil (SE.seq ?_)
  refine SC.seq (SC.region ?_)
  refine SL.re [] (Re.bigIn (xs := [_, _]) rfl) rfl ?_
  refine SL.val (Val.move rfl) rfl rfl ?_
  refine SL.val (Val.move rfl) rfl rfl ?_
  refine SL.val (Val.makeFunc rfl rfl) rfl rfl ?_
  refine SL.call (tfold_s (C := fun s (_ : Unit) => cMp 51 b5 m6 s) (entS := entCl) (batS := goOn) (Inv := fun i _ s => CntI i s) (k1 := 34) (k2 := 24) (caps1 := [ptr b5]) (caps2 := []) (s0 := []) (v0 := ()) (n := n) (h := h) he hr (by kernel_rfl) (by kernel_rfl) (fun i j s v ev nm hs hi9 hv => Spec.big (clients1_s (sm := s) (b := m6) hs hi9 hv) rfl (fun _ => rfl)) (fun i j s ev nm hs => by show CntI (i + 1) (entCl s ev nm); unfold entCl; split; exact inc1_i hs _; exact hs.more) (fun i j s v q l _ _ _ _ _ _ _ => Spec.stay (all_s (qq := q) (l := l))) (fun i j s q l hs _ => hs) (fun k => Nat.le_refl 0) hh hro hn) Casts.refl (by kernel_rfl) rfl rfl rfl ?_
  refine After.oneR (ys := (globs e1 e2)) rfl (by repeat first|assumption|exact m0|apply m1) (by intro y hy; simp only [globs, List.mem_cons, List.not_mem_nil, or_false] at hy; rcases hy with rfl | rfl | rfl <;> exact ⟨by repeat first|assumption|exact m0|apply m1, by intro h; cases h⟩) rfl (fun _ => rfl) ?_
  intro r10
  refine ⟨_, (by repeat first|assumption|exact Upd.here|apply Upd.there), ?_⟩
  rw [show foldS n entCl goOn 0 [] Lg.zero h = cliF n h from foldS_all (batS := goOn) (fun _ _ _ => rfl) _ _ _ _]
  refine SL.re [] (Re.bigOut rfl) rfl ?_
  refine SL.nil (SE.seq ?_)
  refine SC.seq (SC.region ?_)
  refine SL.val (Val.to (C := mapV m6) (Val.load1 tabOk rfl rfl (by first|(apply Or.inl;(repeat first|assumption|exact m0|apply m1);done)|(apply Or.inr;(repeat first|assumption|exact m0|apply m1);done)) List.not_mem_nil (by rfl)) rfl) rfl rfl ?_
  refine SL.val (Val.assign rfl) rfl rfl ?_
  refine SL.nil (SE.seq ?_)
  refine SC.ret ?_
  refine SE.fin (rs := [.tmp 4]) rfl (RV.tmp rfl RV.nil) (m6) (by repeat first|exact s0 _|exact s1 _|apply s2|apply s3) (by simp [It.rids]) ?_
  exact rfl
end
end Go.Proofs.YtnedfcaoggkmnaaGreatDoor.A
/-
  The document's timelines.
-/
set_option maxRecDepth 100000
set_option linter.unusedSimpArgs false
set_option linter.unusedVariables false
namespace Go.Proofs.YtnedfcaoggkmnaaGreatDoor.A
open Go.RowKit

theorem evsH_step {n : Int} {i : Nat} {l : Lg} {h : List (List Ent)} {z : Nat} (hz : z < h.length) : evsH n i l (h.drop z) = evsB n i l h[z] ++ evsH n (i + 1) (lgB n l h[z]) (h.drop (z + 1)) := by
  rw [List.drop_eq_getElem_cons hz, evsH]
theorem evsB_step {n : Int} {i : Nat} {l : Lg} {b : List Ent} {z : Nat} (hz : z < b.length) : evsB n i l (b.drop z) = (evOf n i l b[z], b[z].core.letter) :: evsB n i (l.doF b[z] n).1 (b.drop (z + 1)) := by
  rw [List.drop_eq_getElem_cons hz, evsB]
section
variable {name : ByteArray} {n state : Int} {l : Lg} {h : List (List Ent)} {x : Ltr}
set_option maxHeartbeats 4000000 in
theorem rall_s (hh : HisIns h) (hro : ∀ b ∈ h, b.length ≤ 10) (hn : h.length ≤ 40) (hss : ∀ b ∈ h, ∀ e ∈ b, e.core.letter.size ≤ lots) : Spec Tryz.prog 9 [histA h, int n] [] (fun _ : Unit => []) (fun _ => .tup [evsA ((evsH n 0 Lg.zero h).map (·.1)), .sl 1 (((evsH n 0 Lg.zero h).map (·.2)).map fun x => [st x])]) := by
  refine spec_of Tryz.func9 rfl Tryz.ntmps9 rfl fun G w => ?_
  refine SC.seq (SC.region ?_)
  refine SL.val (Val.assign rfl) rfl rfl ?_
  refine SL.val (Val.assign rfl) rfl rfl ?_
  refine SL.nil (SE.seq ?_)
  refine SC.seq (SC.region ?_)
  refine SL.val (Val.assign rfl) rfl rfl ?_
  refine SL.nil (SE.seq ?_)
  refine SC.seq (SC.region ?_)
  refine SL.val (Val.assign rfl) rfl rfl ?_
  refine SL.nil (SE.seq ?_)
  refine SC.seq (SC.region ?_)
  refine SL.val (Val.buildS tabOk rfl rfl rfl rfl) rfl rfl ?_
  refine SL.eff (Eff.alloc tabOk rfl) rfl rfl ?_
  rintro _ _ ⟨b8, rfl, rfl⟩
  refine SL.eff (Eff.store (L' := (zabs [.int .i64 0, .int .i64 0, .slice none 0 0, .slice none 0 0])) tabOk rfl rfl rfl (by repeat first|assumption|exact Upd.here|apply Upd.there) rfl (Nat.le_of_ble_eq_true (by rfl)) rfl (by exact putL_whole rfl)) rfl rfl ?_
  rintro _ _ ⟨rfl, rfl⟩
  refine SL.re [] (Re.cast (ds := Lg.zero.abs) (Casts.keep (Casts.keep (Casts.nils (s := 6) (Casts.nils (s := 3) Casts.refl))))) rfl ?_
  refine SL.nil (SE.seq ?_)
  refine SC.seq ?_
  refine SC.seq (SC.region ?_)
  refine SL.val (Val.move rfl) rfl rfl ?_
  first
    | refine SL.val (Val.lenSl rfl Tryz.underlying22 (List.length_map _)) rfl rfl ?_
    | refine SL.val (Val.lenOwn rfl (by repeat first|assumption|exact m0|apply m1) Tryz.underlying22 (List.length_map _)) rfl rfl ?_
    | refine SL.val (Val.lenNil rfl Tryz.underlying22) rfl rfl ?_
  refine SL.val (Val.move rfl) rfl rfl ?_
  refine SL.nil (SE.seq ?_)
  refine SC.block ?_
  refine SC.own0 34 6 ?_
  refine SC.own0 9 1 ?_
  refine SC.loop (ι := Nat × List (Ev × ByteArray) × Lg × Value × Value) (fun z => (own 9 1 z.2.2.2.2 ((z.2.1.map (·.2)).map fun x => [st x]) :: own 34 6 z.2.2.2.1 ((z.2.1.map (·.1)).map Ev.abs) :: .blk b8 44 z.2.2.1.abs :: [])) (fun z => [(1, int n), (6, .v z.2.2.2.1), (7, .v z.2.2.2.2), (8, ptr b8), (18, histA h), (19, int (h.length : Nat)), (20, int (z.1 : Nat))]) (fun z => z.1 ≤ h.length ∧ z.2.1 ++ evsH n z.1 z.2.2.1 (h.drop z.1) = (evsH n 0 Lg.zero h) ∧ z.2.1.length ≤ 10 * z.1 ∧ z.2.2.1.ls.length ≤ 10 * z.1 ∧ z.2.2.1.os.length ≤ 10 * z.1 ∧ z.2.2.1.Ins) (fun z => h.length - z.1) (0, [], Lg.zero, .slice none 0 0, .slice none 0 0) (⟨Nat.zero_le _, rfl, Nat.le_refl _, Nat.le_refl _, Nat.le_refl _, Lg.zero_ins⟩) (by exact ⟨rfl, rfl, rfl, rfl, rfl, rfl, rfl, trivial⟩) (by repeat first|exact s0 _|exact s1 _|apply s2|apply s3) ?_
  intro z hz
  refine SC.seq (SC.region ?_)
  refine SL.val (Val.ltI rfl rfl) rfl rfl ?_
  refine SL.nil (SE.seq ?_)
  refine SC.seq ?_
  refine SC.condP rfl ?_ ?_
  rotate_left
  · intro hc21
    have hzd : h.drop z.1 = [] := List.drop_eq_nil_of_le (by omega)
    have hfe := hz.2.1
    rw [hzd] at hfe
    have hfe : z.2.1 = (evsH n 0 Lg.zero h) := (List.append_nil _).symm.trans hfe
    rw [hfe]
    refine SC.exit ?_
    refine SE.then_ (by intro h; cases h) ?_
    refine SE.then_ (by intro h; cases h) ?_
    refine SE.exit ?_
    refine SE.seq ?_
    refine SC.seq (SC.region ?_)
    refine SL.val (Val.move rfl) rfl rfl ?_
    refine SL.val (Val.move rfl) rfl rfl ?_
    refine SL.val (Val.assign rfl) rfl rfl ?_
    refine SL.val (Val.assign rfl) rfl rfl ?_
    refine SL.nil (SE.seq ?_)
    refine SC.ret ?_
    refine SE.freeze [] (t := 5) rfl rfl ?_
    refine SE.freeze [] (t := 4) rfl rfl ?_
    refine SE.fin (rs := [.tmp 4, .tmp 5]) rfl (RV.tmp rfl (RV.tmp rfl RV.nil)) (()) (by repeat first|exact s0 _|exact s1 _|apply s2|apply s3) (by simp [It.rids]) ?_
    exact rfl
  intro hc21
  have hzl : z.1 < h.length := by omega
  have hbl := hro _ (List.getElem_mem hzl)
  refine SC.skip ?_
  refine SE.seq ?_
  refine SC.seq ?_
  refine SC.block ?_
  refine SC.seq (SC.region ?_)
  refine SL.val (Val.move rfl) rfl rfl ?_
  refine SL.val (Val.indexSl tabOk Tryz.underlying22 rfl rfl rfl rfl (at_map (by omega)) rfl rfl) rfl rfl ?_
  refine SL.val (Val.load1R tabOk rfl rfl rfl) rfl rfl ?_
  refine SL.val (Val.assign rfl) rfl rfl ?_
  refine SL.val (Val.assign rfl) rfl rfl ?_
  refine SL.nil (SE.seq ?_)
  refine SC.seq (SC.region ?_)
  refine SL.val (Val.move rfl) rfl rfl ?_
  first
    | refine SL.val (Val.lenSl rfl Tryz.underlying59 (List.length_map _)) rfl rfl ?_
    | refine SL.val (Val.lenOwn rfl (by repeat first|assumption|exact m0|apply m1) Tryz.underlying59 (List.length_map _)) rfl rfl ?_
    | refine SL.val (Val.lenNil rfl Tryz.underlying59) rfl rfl ?_
  refine SL.val (Val.move rfl) rfl rfl ?_
  refine SL.nil (SE.seq ?_)
  refine SC.block ?_
  refine SC.loop (ι := Nat × List (Ev × ByteArray) × Lg × Value × Value) (fun y => (own 9 1 y.2.2.2.2 ((y.2.1.map (·.2)).map fun x => [st x]) :: own 34 6 y.2.2.2.1 ((y.2.1.map (·.1)).map Ev.abs) :: .blk b8 44 y.2.2.1.abs :: [])) (fun y => [(1, int n), (6, .v y.2.2.2.1), (7, .v y.2.2.2.2), (8, ptr b8), (18, histA h), (19, int (h.length : Nat)), (20, int (z.1 : Nat)), (9, int (z.1 : Nat)), (25, entsR (h[z.1]'hzl)), (26, int ((h[z.1]'hzl).length : Nat)), (27, int (y.1 : Nat))]) (fun y => y.1 ≤ (h[z.1]'hzl).length ∧ y.2.1 ++ (evsB n z.1 y.2.2.1 ((h[z.1]'hzl).drop y.1) ++ evsH n (z.1 + 1) (lgB n y.2.2.1 ((h[z.1]'hzl).drop y.1)) (h.drop (z.1 + 1))) = (evsH n 0 Lg.zero h) ∧ y.2.1.length ≤ 10 * z.1 + y.1 ∧ y.2.2.1.ls.length ≤ 10 * z.1 + y.1 ∧ y.2.2.1.os.length ≤ 10 * z.1 + y.1 ∧ y.2.2.1.Ins) (fun y => (h[z.1]'hzl).length - y.1) (0, z.2) (⟨Nat.zero_le _, by have h9 := hz.2.1; rw [evsH_step hzl] at h9; exact h9, hz.2.2.1, hz.2.2.2.1, hz.2.2.2.2.1, hz.2.2.2.2.2⟩) (by exact ⟨rfl, rfl, rfl, rfl, rfl, rfl, rfl, rfl, rfl, rfl, rfl, trivial⟩) (by repeat first|exact s0 _|exact s1 _|apply s2|apply s3) ?_
  intro y hy
  refine SC.seq (SC.region ?_)
  refine SL.val (Val.ltI rfl rfl) rfl rfl ?_
  refine SL.nil (SE.seq ?_)
  refine SC.seq ?_
  refine SC.condP rfl ?_ ?_
  rotate_left
  · intro hc28
    have hyb : (h[z.1]'hzl).drop y.1 = [] := List.drop_eq_nil_of_le (by omega)
    obtain ⟨q0, q1, q2, q3, q4, q5⟩ := hy
    rw [hyb] at q1
    refine SC.exit ?_
    refine SE.then_ (by intro h; cases h) ?_
    refine SE.then_ (by intro h; cases h) ?_
    refine SE.exit ?_
    refine SE.inBlock ?_
    refine SE.seq ?_
    refine SC.region ?_
    first
      | refine SL.val (Val.addI rfl rfl (by simp only [InR, lo, hi]; omega)) rfl rfl ?_
      | refine SL.val (Val.addW rfl rfl) rfl rfl ?_
    refine SL.val (Val.move rfl) rfl rfl ?_
    refine SL.nil ?_
    refine SE.round (z.1 + 1, y.2.1, y.2.2.1, y.2.2.2.1, y.2.2.2.2) (by first | omega | (dsimp only; omega)) (⟨by dsimp only; omega, q1, by dsimp only; omega, by dsimp only; omega, by dsimp only; omega, q5⟩) (by exact ⟨rfl, rfl, rfl, rfl, rfl, rfl, rfl, trivial⟩) (by repeat first|exact s0 _|exact s1 _|apply s2|apply s3)
  intro hc28
  have hyl : y.1 < (h[z.1]'hzl).length := by omega
  have hen := hh _ (List.getElem_mem hzl) _ (List.getElem_mem hyl)
  have hdl := doF_len (l := y.2.2.1) (e := ((h[z.1]'hzl)[y.1]'hyl)) (n := n)
  refine SC.skip ?_
  refine SE.seq ?_
  refine SC.seq ?_
  refine SC.block ?_
  refine SC.seq (SC.region ?_)
  refine SL.val (Val.indexSl tabOk Tryz.underlying59 rfl rfl rfl rfl (at_map (by omega)) rfl rfl) rfl rfl ?_
  refine SL.val (Val.loadAR tabOk rfl rfl rfl (by rfl)) rfl rfl ?_
  refine SL.eff (Eff.alloc tabOk rfl) rfl rfl ?_
  rintro _ _ ⟨b12, rfl, rfl⟩
  refine SL.eff (Eff.store (L' := entA ((h[z.1]'hzl)[y.1]'hyl)) tabOk rfl rfl rfl (by repeat first|assumption|exact Upd.here|apply Upd.there) rfl (Nat.le_of_ble_eq_true (by rfl)) rfl (by exact putL_whole rfl)) rfl rfl ?_
  rintro _ _ ⟨rfl, rfl⟩
  refine SL.nil (SE.seq ?_)
  refine SC.seq (SC.region ?_)
  refine SL.val (Val.to (C := .agg y.2.2.1.abs) (Val.loadP tabOk rfl rfl rfl (by first|(apply Or.inl;(repeat first|assumption|exact m0|apply m1);done)|(apply Or.inr;(repeat first|assumption|exact m0|apply m1);done)) List.not_mem_nil (Nat.le_of_ble_eq_true (by rfl))) rfl) rfl rfl ?_
  refine SL.val (Val.to (C := .agg (entA ((h[z.1]'hzl)[y.1]'hyl))) (Val.loadP tabOk rfl rfl rfl (by first|(apply Or.inl;(repeat first|assumption|exact m0|apply m1);done)|(apply Or.inr;(repeat first|assumption|exact m0|apply m1);done)) List.not_mem_nil (Nat.le_of_ble_eq_true (by rfl))) rfl) rfl rfl ?_
  refine SL.val (Val.move rfl) rfl rfl ?_
  refine SL.call (rdo_s (l := y.2.2.1) (e := ((h[z.1]'hzl)[y.1]'hyl)) (n := n) ⟨by omega, by omega⟩ hy.2.2.2.2.2.wf hen (by have := hss _ (List.getElem_mem hzl) _ (List.getElem_mem hyl); exact this)) Casts.refl (by kernel_rfl) rfl rfl rfl ?_
  refine After.pure (by repeat (first | exact Reads.nil | (refine Reads.blk ?_ ?_; focus ((repeat first|assumption|exact m0|apply m1); done)) | (refine Reads.rd ?_ ?_; focus ((repeat first|assumption|exact m0|apply m1); done)) | (refine Reads.pc ?_ ?_; focus ((repeat first|assumption|exact m0|apply m1); done)) | (refine Reads.rdpc ?_ ?_; focus ((repeat first|assumption|exact m0|apply m1); done)))) (fun _ => rfl) ?_
  intro _
  refine SL.val (Val.move rfl) rfl rfl ?_
  refine SL.val (Val.extract rfl rfl) rfl rfl ?_
  refine SL.val (Val.extract rfl rfl) rfl rfl ?_
  refine SL.eff (Eff.alloc tabOk rfl) rfl rfl ?_
  rintro _ _ ⟨b13, rfl, rfl⟩
  refine SL.eff (Eff.store (L' := (y.2.2.1.doF ((h[z.1]'hzl)[y.1]'hyl) n).1.abs) tabOk rfl rfl rfl (by repeat first|assumption|exact Upd.here|apply Upd.there) rfl (Nat.le_of_ble_eq_true (by rfl)) rfl (by exact putL_whole rfl)) rfl rfl ?_
  rintro _ _ ⟨rfl, rfl⟩
  refine SL.val (Val.assign rfl) rfl rfl ?_
  refine SL.nil (SE.seq ?_)
  refine SC.seq (SC.region ?_)
  refine SL.val (Val.to (C := .agg (y.2.2.1.doF ((h[z.1]'hzl)[y.1]'hyl) n).1.abs) (Val.loadP tabOk rfl rfl rfl (by first|(apply Or.inl;(repeat first|assumption|exact m0|apply m1);done)|(apply Or.inr;(repeat first|assumption|exact m0|apply m1);done)) List.not_mem_nil (Nat.le_of_ble_eq_true (by rfl))) rfl) rfl rfl ?_
  refine SL.val (Val.fieldAddr tabOk rfl rfl rfl rfl rfl) rfl rfl ?_
  refine SL.val (Val.fieldAddr tabOk rfl rfl rfl rfl rfl) rfl rfl ?_
  refine SL.val (Val.to (C := st ((h[z.1]'hzl)[y.1]'hyl).core.letter) (Val.load1 tabOk rfl rfl (by first|(apply Or.inl;(repeat first|assumption|exact m0|apply m1);done)|(apply Or.inr;(repeat first|assumption|exact m0|apply m1);done)) List.not_mem_nil (by rfl)) rfl) rfl rfl ?_
  refine SL.call (rfind_s (l := (y.2.2.1.doF ((h[z.1]'hzl)[y.1]'hyl) n).1) (s := ((h[z.1]'hzl)[y.1]'hyl).core.letter)) Casts.refl (by kernel_rfl) rfl rfl rfl ?_
  refine After.pure (by repeat (first | exact Reads.nil | (refine Reads.blk ?_ ?_; focus ((repeat first|assumption|exact m0|apply m1); done)) | (refine Reads.rd ?_ ?_; focus ((repeat first|assumption|exact m0|apply m1); done)) | (refine Reads.pc ?_ ?_; focus ((repeat first|assumption|exact m0|apply m1); done)) | (refine Reads.rdpc ?_ ?_; focus ((repeat first|assumption|exact m0|apply m1); done)))) (fun _ => rfl) ?_
  intro _
  rw [show ((y.2.2.1.doF ((h[z.1]'hzl)[y.1]'hyl) n).1.find ((h[z.1]'hzl)[y.1]'hyl).core.letter).getD Ltr.none = (y.2.2.1.doF ((h[z.1]'hzl)[y.1]'hyl) n).1.old ((h[z.1]'hzl)[y.1]'hyl).core.letter from rfl]
  refine SL.val (Val.move rfl) rfl rfl ?_
  refine SL.val (Val.extract rfl rfl) rfl rfl ?_
  refine SL.val (Val.extract rfl rfl) rfl rfl ?_
  refine SL.eff (Eff.alloc tabOk rfl) rfl rfl ?_
  rintro _ _ ⟨b15, rfl, rfl⟩
  refine SL.eff (Eff.store (L' := ltrA ((y.2.2.1.doF ((h[z.1]'hzl)[y.1]'hyl) n).1.old ((h[z.1]'hzl)[y.1]'hyl).core.letter)) tabOk rfl rfl rfl (by repeat first|assumption|exact Upd.here|apply Upd.there) rfl (Nat.le_of_ble_eq_true (by rfl)) rfl (by exact putL_whole rfl)) rfl rfl ?_
  rintro _ _ ⟨rfl, rfl⟩
  refine SL.val (Val.assign rfl) rfl rfl ?_
  refine SL.nil (SE.seq ?_)
  refine SC.seq (SC.region ?_)
  refine SL.val (Val.move rfl) rfl rfl ?_
  refine SL.val (Val.move rfl) rfl rfl ?_
  first
    | refine SL.val (Val.addI rfl rfl (by simp only [InR, lo, hi]; omega)) rfl rfl ?_
    | refine SL.val (Val.addW rfl rfl) rfl rfl ?_
  refine SL.val (Val.fieldAddr tabOk rfl rfl rfl rfl rfl) rfl rfl ?_
  refine SL.val (Val.fieldAddr tabOk rfl rfl rfl rfl rfl) rfl rfl ?_
  refine SL.val (Val.to (C := int ((h[z.1]'hzl)[y.1]'hyl).core.client) (Val.load1 tabOk rfl rfl (by first|(apply Or.inl;(repeat first|assumption|exact m0|apply m1);done)|(apply Or.inr;(repeat first|assumption|exact m0|apply m1);done)) List.not_mem_nil (by rfl)) rfl) rfl rfl ?_
  refine SL.val (Val.fieldAddr tabOk rfl rfl rfl rfl rfl) rfl rfl ?_
  refine SL.val (Val.fieldAddr tabOk rfl rfl rfl rfl rfl) rfl rfl ?_
  refine SL.val (Val.to (C := int ((h[z.1]'hzl)[y.1]'hyl).core.stamp) (Val.load1 tabOk rfl rfl (by first|(apply Or.inl;(repeat first|assumption|exact m0|apply m1);done)|(apply Or.inr;(repeat first|assumption|exact m0|apply m1);done)) List.not_mem_nil (by rfl)) rfl) rfl rfl ?_
  refine SL.val (Val.fieldAddr tabOk rfl rfl rfl rfl rfl) rfl rfl ?_
  refine SL.val (Val.fieldAddr tabOk rfl rfl rfl rfl rfl) rfl rfl ?_
  refine SL.val (Val.to (C := int ((h[z.1]'hzl)[y.1]'hyl).core.op) (Val.load1 tabOk rfl rfl (by first|(apply Or.inl;(repeat first|assumption|exact m0|apply m1);done)|(apply Or.inr;(repeat first|assumption|exact m0|apply m1);done)) List.not_mem_nil (by rfl)) rfl) rfl rfl ?_
  refine SL.val (Val.move rfl) rfl rfl ?_
  refine SL.val (Val.fieldAddr tabOk rfl rfl rfl rfl rfl) rfl rfl ?_
  refine SL.val (Val.to (C := int (evOf n z.1 y.2.2.1 ((h[z.1]'hzl)[y.1]'hyl)).state) (Val.load1 tabOk rfl rfl (by first|(apply Or.inl;(repeat first|assumption|exact m0|apply m1);done)|(apply Or.inr;(repeat first|assumption|exact m0|apply m1);done)) List.not_mem_nil (by rfl)) rfl) rfl rfl ?_
  refine SL.val (Val.buildS (L := (evOf n z.1 y.2.2.1 ((h[z.1]'hzl)[y.1]'hyl)).abs) tabOk rfl rfl rfl (by rfl)) rfl rfl ?_
  refine SL.eff (Eff.buildSl tabOk Tryz.underlying25 rfl rfl rfl rfl rfl rfl rfl) rfl rfl ?_
  rintro _ _ ⟨rfl, rfl⟩
  refine SL.eff (Eff.appendE (zs := (y.2.1.map (·.1) ++ [(evOf n z.1 y.2.2.1 ((h[z.1]'hzl)[y.1]'hyl))]).map Ev.abs) tabOk [_, _, _, _] (by simp only [List.map_append]; rfl) Tryz.underlying25 rfl rfl rfl rfl rfl rfl (by intro c hc; rw [List.mem_singleton] at hc; subst hc; rfl) (by unfold maxLen; simp only [List.length_map, List.length_append, List.length_cons, List.length_nil]; omega) (by rw [show Tryz.prog.bytesOf 34 = 48 by kernel_rfl]; simp only [List.length_map, List.length_append, List.length_cons, List.length_nil]; omega)) rfl rfl ?_
  rintro _ _ ⟨r63, rfl, rfl⟩
  refine SL.val (Val.assign rfl) rfl rfl ?_
  refine SL.nil (SE.seq ?_)
  refine SC.seq (SC.region ?_)
  refine SL.val (Val.move rfl) rfl rfl ?_
  refine SL.val (Val.fieldAddr tabOk rfl rfl rfl rfl rfl) rfl rfl ?_
  refine SL.val (Val.fieldAddr tabOk rfl rfl rfl rfl rfl) rfl rfl ?_
  refine SL.val (Val.to (C := st ((h[z.1]'hzl)[y.1]'hyl).core.letter) (Val.load1 tabOk rfl rfl (by first|(apply Or.inl;(repeat first|assumption|exact m0|apply m1);done)|(apply Or.inr;(repeat first|assumption|exact m0|apply m1);done)) List.not_mem_nil (by rfl)) rfl) rfl rfl ?_
  refine SL.eff (Eff.buildSl tabOk Tryz.underlying26 rfl rfl rfl rfl rfl rfl rfl) rfl rfl ?_
  rintro _ _ ⟨rfl, rfl⟩
  refine SL.eff (Eff.appendE (zs := (y.2.1.map (·.2) ++ [((h[z.1]'hzl)[y.1]'hyl).core.letter]).map fun x => [st x]) tabOk [_, _, _] (by simp only [List.map_append]; rfl) Tryz.underlying26 rfl rfl rfl rfl rfl rfl (by intro c hc; rw [List.mem_singleton] at hc; subst hc; rfl) (by unfold maxLen; simp only [List.length_map, List.length_append, List.length_cons, List.length_nil]; omega) (by rw [show Tryz.prog.bytesOf 9 = 16 by kernel_rfl]; simp only [List.length_map, List.length_append, List.length_cons, List.length_nil]; omega)) rfl rfl ?_
  rintro _ _ ⟨r69, rfl, rfl⟩
  refine SL.val (Val.assign rfl) rfl rfl ?_
  refine SL.nil (SE.seq ?_)
  refine SC.region ?_
  refine SL.val (Val.to (C := .agg (y.2.2.1.doF ((h[z.1]'hzl)[y.1]'hyl) n).1.abs) (Val.loadP tabOk rfl rfl rfl (by first|(apply Or.inl;(repeat first|assumption|exact m0|apply m1);done)|(apply Or.inr;(repeat first|assumption|exact m0|apply m1);done)) List.not_mem_nil (Nat.le_of_ble_eq_true (by rfl))) rfl) rfl rfl ?_
  refine SL.eff (Eff.store (L' := (y.2.2.1.doF ((h[z.1]'hzl)[y.1]'hyl) n).1.abs) tabOk rfl rfl rfl (by repeat first|assumption|exact Upd.here|apply Upd.there) rfl (Nat.le_of_ble_eq_true (by rfl)) rfl (by exact putL_whole rfl)) rfl rfl ?_
  rintro _ _ ⟨rfl, rfl⟩
  refine SL.nil ?_
  refine SE.inBlock ?_
  refine SE.seq ?_
  refine SC.region ?_
  first
    | refine SL.val (Val.addI rfl rfl (by simp only [InR, lo, hi]; omega)) rfl rfl ?_
    | refine SL.val (Val.addW rfl rfl) rfl rfl ?_
  refine SL.val (Val.move rfl) rfl rfl ?_
  refine SL.nil ?_
  refine SE.round (y.1 + 1, y.2.1 ++ [((evOf n z.1 y.2.2.1 ((h[z.1]'hzl)[y.1]'hyl)), ((h[z.1]'hzl)[y.1]'hyl).core.letter)], (y.2.2.1.doF ((h[z.1]'hzl)[y.1]'hyl) n).1, r63, r69) (by first | omega | (dsimp only; omega)) (⟨by dsimp only; omega, by have h9 := hy.2.1; rw [evsB_step hyl, lgB_step hyl] at h9; simpa using h9, by simp only [List.length_append, List.length_cons, List.length_nil]; omega, by dsimp only; omega, by dsimp only; omega, doF_ins hy.2.2.2.2.2 hen⟩) (by exact ⟨rfl, rfl, rfl, rfl, rfl, rfl, rfl, rfl, rfl, rfl, rfl, trivial⟩) (by rw [show (y.2.1 ++ [((evOf n z.1 y.2.2.1 ((h[z.1]'hzl)[y.1]'hyl)), ((h[z.1]'hzl)[y.1]'hyl).core.letter)]).map (·.1) = y.2.1.map (·.1) ++ [(evOf n z.1 y.2.2.1 ((h[z.1]'hzl)[y.1]'hyl))] from List.map_append, show (y.2.1 ++ [((evOf n z.1 y.2.2.1 ((h[z.1]'hzl)[y.1]'hyl)), ((h[z.1]'hzl)[y.1]'hyl).core.letter)]).map (·.2) = y.2.1.map (·.2) ++ [((h[z.1]'hzl)[y.1]'hyl).core.letter] from List.map_append]; repeat (first | exact List.nil_sublist _ | exact List.Sublist.refl _ | apply List.Sublist.cons_cons | apply List.Sublist.cons))
end
end Go.Proofs.YtnedfcaoggkmnaaGreatDoor.A
/-
  Timelines, plain: first numbers, states, names, steps, counts.
-/
set_option maxRecDepth 100000
set_option linter.unusedSimpArgs false
set_option linter.unusedVariables false
namespace Go.Proofs.YtnedfcaoggkmnaaGreatDoor.A
open Go.RowKit

section
variable {l : Lg} {e : Ent} {n : Int} {s name : ByteArray} {h : List (List Ent)} {hold : Ltr → Bool}
/-! ### Entries -/
/-- Whether something holds of a letter. -/
def hitL (name : ByteArray) (hold : Ltr → Bool) (l : Lg) : Bool := (l.find name).isSome && hold (l.old name)
theorem batFi_hit (hh : hitL name hold l = true) (q : Int) : batFi name hold (0, false) q l = ((q, true), false) := if_pos (by simpa [hitL] using hh)
theorem batFi_no (hh : hitL name hold l = false) (q : Int) : batFi name hold (0, false) q l = ((0, false), true) := by
  have h1 : ¬ ((l.find name).isSome = true ∧ hold (l.old name) = true) := fun h1 => by
    unfold hitL at hh
    rw [h1.1, h1.2] at hh
    cases hh
  unfold batFi
  rw [if_neg h1]
  rfl
theorem first_bd : ∀ (h : List (List Ent)) (i : Nat) (l : Lg), 0 ≤ (foldS n quietS (batFi name hold) i (0, false) l h).1 ∧ (foldS n quietS (batFi name hold) i (0, false) l h).1 ≤ (i : Int) + h.length
  | [], i, _ => ⟨Int.le_refl _, by show (0 : Int) ≤ _; omega⟩
  | b :: h, i, l => by
    rw [foldS, rowS_quiet (entS := quietS) (fun _ _ _ => rfl), List.length_cons]
    cases hb : hitL name hold (lgB n l b) with
    | true =>
      rw [batFi_hit hb, if_neg (fun h => by cases h)]
      show 0 ≤ (i : Int) + 1 ∧ (i : Int) + 1 ≤ _
      omega
    | false =>
      rw [batFi_no hb, if_pos rfl]
      have h9 := first_bd h (i + 1) (lgB n l b)
      dsimp only
      omega
theorem firstF_bd : 0 ≤ (firstF n h name hold).1 ∧ (firstF n h name hold).1 ≤ h.length := by
  have := first_bd (n := n) (name := name) (hold := hold) h 0 Lg.zero
  unfold firstF
  omega
/-- The first one so far. -/
def FirstI (f : Nat → Bool) (s z : Nat) : Prop := (s = 0 ∧ ∀ j, j < z → f j = false) ∨ (s < z ∧ (∀ j, j < s → f j = false) ∧ f s = true)
theorem FirstI.no {f : Nat → Bool} {s z : Nat} (h : FirstI f s z) (hf : f z = false) : FirstI f s (z + 1) := by
  rcases h with ⟨h1, h2⟩ | ⟨h1, h2, h3⟩
  · refine .inl ⟨h1, fun j hj => ?_⟩
    rcases Nat.lt_or_ge j z with h3 | h3
    · exact h2 j h3
    · obtain rfl : j = z := by omega
      exact hf
  · exact .inr ⟨by omega, h2, h3⟩
theorem FirstI.new {f : Nat → Bool} {s z : Nat} (h : FirstI f s z) (h0 : s = 0) (h1 : f 0 = false) (hf : f z = true) : FirstI f z (z + 1) := by
  rcases h with ⟨_, h2⟩ | ⟨_, _, h3⟩
  · exact .inr ⟨by omega, h2, hf⟩
  · rw [h0, h1] at h3; cases h3
theorem FirstI.old {f : Nat → Bool} {s z : Nat} (h : FirstI f s z) (h0 : s ≠ 0) : FirstI f s (z + 1) := by
  rcases h with ⟨h1, _⟩ | ⟨h1, h2, h3⟩
  · exact absurd h1 h0
  · exact .inr ⟨by omega, h2, h3⟩
theorem evs_len {n : Int} : ∀ (b : List Ent) (i : Nat) (l : Lg), (evsB n i l b).length = b.length
  | [], _, _ => rfl
  | x :: xs, i, l => by rw [evsB, List.length_cons, evs_len xs, List.length_cons]
theorem evsH_len {n : Int} : ∀ (h : List (List Ent)) (i : Nat) (l : Lg), (∀ b ∈ h, b.length ≤ 10) → (evsH n i l h).length ≤ 10 * h.length
  | [], _, _, _ => Nat.le_refl _
  | b :: h, i, l, hr => by
    have h1 := evsH_len (n := n) h (i + 1) (lgB n l b) (fun c hc => hr c (List.mem_cons_of_mem _ hc))
    have h2 := hr b List.mem_cons_self
    rw [evsH, List.length_append, evs_len, List.length_cons]
    omega
end
/-! ### Events as they come in -/
theorem evsB_ins {n : Int} {i : Nat} (hi9 : i ≤ 1000) : ∀ {b : List Ent} {l : Lg}, l.Ins → (∀ e ∈ b, EnIns e) → (∀ p ∈ evsB n i l b, EvIns p.1) ∧ (lgB n l b).Ins
  | [], l, hl, _ => ⟨fun p hp => (by cases hp), hl⟩
  | x :: xs, l, hl, he => by
    have hx := he x List.mem_cons_self
    obtain ⟨h1, h2⟩ := evsB_ins (n := n) (b := xs) hi9 (doF_ins (n := n) hl hx) (fun e hm => he e (List.mem_cons_of_mem _ hm))
    refine ⟨fun p hp => ?_, h2⟩
    rcases List.mem_cons.1 hp with rfl | hp
    · exact ev_ins hl hx hi9
    · exact h1 p hp
theorem evsH_ins {n : Int} : ∀ {h : List (List Ent)} {i : Nat} {l : Lg}, i + h.length ≤ 1000 → l.Ins → HisIns h → ∀ p ∈ evsH n i l h, EvIns p.1
  | [], _, _, _, _, _, p, hp => by cases hp
  | b :: h, i, l, hi9, hl, hh, p, hp => by
    rw [List.length_cons] at hi9
    obtain ⟨h1, h2⟩ := evsB_ins (n := n) (i := i) (b := b) (by omega) hl (hh b List.mem_cons_self)
    rw [evsH] at hp
    rcases List.mem_append.1 hp with hp | hp
    · exact h1 p hp
    · exact evsH_ins (i := i + 1) (by omega) h2 (fun c hc => hh c (List.mem_cons_of_mem _ hc)) p hp
/-! ### Counts -/
section
variable {m : List (Int × Nat)} {k : Int}
def sumV (m : List (Int × Nat)) : Nat := (m.map (·.2)).sum
theorem cg_mem (hn : (m.map (·.1)).Nodup) {p : Int × Nat} (hp : p ∈ m) : cg m p.1 = p.2 := by
  induction m with
  | nil => cases hp
  | cons q m ih =>
    rw [List.map_cons, List.nodup_cons] at hn
    unfold cg aget at ih ⊢
    rw [List.find?_cons]
    rcases List.mem_cons.1 hp with rfl | hp
    · rw [decide_eq_true rfl]; rfl
    · have hne : q.1 ≠ p.1 := fun e => hn.1 (e ▸ List.mem_map.2 ⟨p, hp, rfl⟩)
      rw [decide_eq_false hne]
      exact ih hn.2 hp
theorem cg_put (x : Nat) (j : Int) : cg (aput m k x) j = if j = k then x else cg m j := by
  unfold cg
  rw [aget_putE]
  split <;> rfl
theorem sum_setV (hn : (m.map (·.1)).Nodup) (x : Nat) : sumV (aput m k x) + cg m k = sumV m + x := by
  have aux : ∀ (m : List (Int × Nat)), (m.map (·.1)).Nodup → k ∈ m.map (·.1) → sumV (m.map fun p => if p.1 = k then (k, x) else p) + cg m k = sumV m + x := by
    intro m
    induction m with
    | nil => intro _ h; cases h
    | cons q m ih =>
      intro hn hk
      rw [List.map_cons, List.nodup_cons] at hn
      by_cases hq : q.1 = k
      · have hk2 : ∀ p ∈ m, p.1 ≠ k := fun p hp e => hn.1 (by rw [hq, ← e]; exact List.mem_map.2 ⟨p, hp, rfl⟩)
        have h1 : m.map (fun p => if p.1 = k then (k, x) else p) = m := by
          have : m.map (fun p => if p.1 = k then (k, x) else p) = m.map id := List.map_congr_left fun p hp => if_neg (hk2 p hp)
          rw [this, List.map_id]
        rw [List.map_cons, h1, if_pos hq]
        unfold sumV cg aget
        rw [List.find?_cons, decide_eq_true hq]
        simp
        omega
      · have hk3 : k ∈ m.map (·.1) := by
          rcases List.mem_cons.1 hk with e | hk
          · exact absurd e.symm hq
          · exact hk
        have h2 := ih hn.2 hk3
        have h3 : cg (q :: m) k = cg m k := by
          unfold cg aget
          rw [List.find?_cons, decide_eq_false hq]
        rw [List.map_cons, if_neg hq, h3]
        unfold sumV at h2 ⊢
        simp only [List.map_cons, List.sum_cons]
        omega
  unfold aput
  by_cases hk : (aget m k).isSome = true
  · rw [if_pos hk]
    exact aux m hn ((aget_isSome m k).1 hk)
  · rw [if_neg hk]
    have h1 : cg m k = 0 := by
      unfold cg
      cases h : aget m k with
      | none => rfl
      | some v => rw [h] at hk; exact absurd rfl hk
    rw [h1]
    unfold sumV
    simp
theorem sum_pick {r : List (Int × Nat)} (hn : (r.map (·.1)).Nodup) {p : Int × Nat} (hp : p ∈ r) : sumV r = p.2 + sumV (r.filter fun q => decide (q.1 ≠ p.1)) := by
  induction r with
  | nil => cases hp
  | cons q r ih =>
    rw [List.map_cons, List.nodup_cons] at hn
    by_cases hq : q.1 = p.1
    · have hqp : q = p := by
        rcases List.mem_cons.1 hp with e | hp
        · exact e.symm
        · exact absurd (List.mem_map.2 ⟨p, hp, hq.symm⟩) hn.1
      subst hqp
      have h1 : r.filter (fun s => decide (s.1 ≠ q.1)) = r := List.filter_eq_self.2 fun s hs => by
        simp only [decide_eq_true_eq]
        exact fun e => hn.1 (by rw [← e]; exact List.mem_map.2 ⟨s, hs, rfl⟩)
      rw [List.filter_cons_of_neg (by simp), h1]
      rfl
    · have hp2 : p ∈ r := by
        rcases List.mem_cons.1 hp with e | hp
        · exact absurd (by rw [e]) hq
        · exact hp
      have h2 := ih hn.2 hp2
      rw [List.filter_cons_of_pos (by simpa using hq)]
      unfold sumV at h2 ⊢
      simp only [List.map_cons, List.sum_cons]
      omega
theorem pick_nodup {r : List (Int × Nat)} (hn : (r.map (·.1)).Nodup) (f : Int × Nat → Bool) : ((r.filter f).map (·.1)).Nodup := hn.sublist (List.filter_sublist.map _)
theorem inc1_nodup (hn : (m.map (·.1)).Nodup) (k : Int) : ((inc1 m k).map (·.1)).Nodup := aput_nodup hn k _
theorem inc1_sum (hn : (m.map (·.1)).Nodup) (k : Int) : sumV (inc1 m k) = sumV m + 1 := by
  have := sum_setV (k := k) hn (cg m k + 1)
  unfold inc1
  omega
theorem inc1_pos (h : ∀ p ∈ m, 1 ≤ p.2) (k : Int) : ∀ p ∈ inc1 m k, 1 ≤ p.2 := by
  intro p hp
  unfold inc1 aput at hp
  split at hp
  · obtain ⟨q, hq, rfl⟩ := List.mem_map.1 hp
    split
    · show 1 ≤ cg m k + 1; omega
    · exact h q hq
  · rcases List.mem_append.1 hp with hp | hp
    · exact h p hp
    · rw [List.mem_singleton.1 hp]
      show 1 ≤ cg m k + 1
      omega
/-- How many come to this. -/
def nRe (P : List (Ev × ByteArray)) (k : Int) : Nat := (P.filter fun p => decide (p.1.result ≠ 0 ∧ p.1.result = k)).length
def nCl (P : List (Ev × ByteArray)) (k : Int) : Nat := (P.filter fun p => decide (p.1.result = 0 ∧ p.1.client = k)).length
theorem nRe_cons (p : Ev × ByteArray) (P : List (Ev × ByteArray)) (k : Int) : nRe (p :: P) k = (if p.1.result ≠ 0 ∧ p.1.result = k then 1 else 0) + nRe P k := by
  unfold nRe
  by_cases h : p.1.result ≠ 0 ∧ p.1.result = k
  · rw [if_pos h, List.filter_cons_of_pos (by simpa using h), List.length_cons, Nat.add_comm]
  · rw [if_neg h, List.filter_cons_of_neg (by simpa using h), Nat.zero_add]
theorem nCl_cons (p : Ev × ByteArray) (P : List (Ev × ByteArray)) (k : Int) : nCl (p :: P) k = (if p.1.result = 0 ∧ p.1.client = k then 1 else 0) + nCl P k := by
  unfold nCl
  by_cases h : p.1.result = 0 ∧ p.1.client = k
  · rw [if_pos h, List.filter_cons_of_pos (by simpa using h), List.length_cons, Nat.add_comm]
  · rw [if_neg h, List.filter_cons_of_neg (by simpa using h), Nat.zero_add]
theorem re_fold : ∀ (P : List (Ev × ByteArray)) (m : List (Int × Nat)), (m.map (·.1)).Nodup → ((P.foldl (fun s p => entRe s p.1 p.2) m).map (·.1)).Nodup ∧ (∀ k, cg (P.foldl (fun s p => entRe s p.1 p.2) m) k = cg m k + nRe P k) ∧ sumV (P.foldl (fun s p => entRe s p.1 p.2) m) = sumV m + (P.filter fun p => decide (p.1.result ≠ 0)).length
  | [], m, hn => ⟨hn, fun k => rfl, rfl⟩
  | p :: P, m, hn => by
    rw [List.foldl_cons]
    by_cases hp : p.1.result ≠ 0
    · rw [show entRe m p.1 p.2 = inc1 m p.1.result from if_pos hp]
      obtain ⟨h1, h2, h3⟩ := re_fold P (inc1 m p.1.result) (inc1_nodup hn _)
      refine ⟨h1, fun k => ?_, ?_⟩
      · rw [h2 k, nRe_cons, inc1, cg_put]
        by_cases hk : k = p.1.result
        · subst hk
          rw [if_pos rfl, if_pos ⟨hp, rfl⟩]
          omega
        · rw [if_neg hk, if_neg (fun h => hk h.2.symm)]
          omega
      · rw [h3, inc1_sum hn, List.filter_cons_of_pos (by simpa using hp), List.length_cons]
        omega
    · rw [show entRe m p.1 p.2 = m from if_neg hp]
      obtain ⟨h1, h2, h3⟩ := re_fold P m hn
      refine ⟨h1, fun k => ?_, ?_⟩
      · rw [h2 k, nRe_cons, if_neg (fun h => hp h.1)]
        omega
      · rw [h3, List.filter_cons_of_neg (by simpa using hp)]
theorem cl_fold : ∀ (P : List (Ev × ByteArray)) (m : List (Int × Nat)), (m.map (·.1)).Nodup → (∀ p ∈ m, 1 ≤ p.2) → ((P.foldl (fun s p => entCl s p.1 p.2) m).map (·.1)).Nodup ∧ (∀ k, cg (P.foldl (fun s p => entCl s p.1 p.2) m) k = cg m k + nCl P k) ∧ sumV (P.foldl (fun s p => entCl s p.1 p.2) m) = sumV m + (P.filter fun p => decide (p.1.result = 0)).length ∧ (∀ p ∈ P.foldl (fun s p => entCl s p.1 p.2) m, 1 ≤ p.2)
  | [], m, hn, hp => ⟨hn, fun k => rfl, rfl, hp⟩
  | p :: P, m, hn, h0 => by
    rw [List.foldl_cons]
    by_cases hp : p.1.result = 0
    · rw [show entCl m p.1 p.2 = inc1 m p.1.client from if_pos hp]
      obtain ⟨h1, h2, h3, h4⟩ := cl_fold P (inc1 m p.1.client) (inc1_nodup hn _) (inc1_pos h0 _)
      refine ⟨h1, fun k => ?_, ?_, h4⟩
      · rw [h2 k, nCl_cons, inc1, cg_put]
        by_cases hk : k = p.1.client
        · subst hk
          rw [if_pos rfl, if_pos ⟨hp, rfl⟩]
          omega
        · rw [if_neg hk, if_neg (fun h => hk h.2.symm)]
          omega
      · rw [h3, inc1_sum hn, List.filter_cons_of_pos (by simpa using hp), List.length_cons]
        omega
    · rw [show entCl m p.1 p.2 = m from if_neg hp]
      obtain ⟨h1, h2, h3, h4⟩ := cl_fold P m hn h0
      refine ⟨h1, fun k => ?_, ?_, h4⟩
      · rw [h2 k, nCl_cons, if_neg (fun h => hp h.1)]
        omega
      · rw [h3, List.filter_cons_of_neg (by simpa using hp)]
theorem nRe_step {P : List (Ev × ByteArray)} {z : Nat} (hz : z < P.length) (k : Int) : nRe (P.drop z) k = (if P[z].1.result ≠ 0 ∧ P[z].1.result = k then 1 else 0) + nRe (P.drop (z + 1)) k := by
  rw [List.drop_eq_getElem_cons hz, nRe_cons]
theorem nCl_step {P : List (Ev × ByteArray)} {z : Nat} (hz : z < P.length) (k : Int) : nCl (P.drop z) k = (if P[z].1.result = 0 ∧ P[z].1.client = k then 1 else 0) + nCl (P.drop (z + 1)) k := by
  rw [List.drop_eq_getElem_cons hz, nCl_cons]
/-- One less. -/
def dec1 (m : List (Int × Nat)) (k : Int) : List (Int × Nat) := aput m k (cg m k - 1)
theorem dec1_nodup (hn : (m.map (·.1)).Nodup) (k : Int) : ((dec1 m k).map (·.1)).Nodup := aput_nodup hn k _
theorem dec1_cg (j : Int) : cg (dec1 m k) j = if j = k then cg m k - 1 else cg m j := cg_put _ _
/-- A row of counts that is gone down, and what is still to come. -/
structure Left (M : List (Int × Nat)) (f : Int → Nat) : Prop where
  nd : (M.map (·.1)).Nodup
  eq_ : ∀ k, cg M k = f k
theorem Left.put {M : List (Int × Nat)} {P : List (Ev × ByteArray)} {z : Nat} (hz : z < P.length) (h : Left M (nRe (P.drop z))) (hr : P[z].1.result ≠ 0) : Left (dec1 M P[z].1.result) (nRe (P.drop (z + 1))) ∧ 1 ≤ cg M P[z].1.result := by
  have h1 := h.eq_ P[z].1.result
  rw [nRe_step hz, if_pos ⟨hr, rfl⟩] at h1
  refine ⟨⟨dec1_nodup h.nd _, fun k => ?_⟩, by omega⟩
  rw [dec1_cg]
  by_cases hk : k = P[z].1.result
  · subst hk
    rw [if_pos rfl]
    omega
  · have h2 := h.eq_ k
    rw [nRe_step hz, if_neg (fun h => hk h.2.symm)] at h2
    rw [if_neg hk]
    omega
theorem Left.stay {M : List (Int × Nat)} {P : List (Ev × ByteArray)} {z : Nat} (hz : z < P.length) (h : Left M (nRe (P.drop z))) (hr : ¬ P[z].1.result ≠ 0) : Left M (nRe (P.drop (z + 1))) := ⟨h.nd, fun k => by
  have h2 := h.eq_ k
  rw [nRe_step hz, if_neg (fun h => hr h.1)] at h2
  omega⟩
theorem Left.putC {M : List (Int × Nat)} {P : List (Ev × ByteArray)} {z : Nat} (hz : z < P.length) (h : Left M (nCl (P.drop z))) (hr : P[z].1.result = 0) : Left (dec1 M P[z].1.client) (nCl (P.drop (z + 1))) ∧ 1 ≤ cg M P[z].1.client := by
  have h1 := h.eq_ P[z].1.client
  rw [nCl_step hz, if_pos ⟨hr, rfl⟩] at h1
  refine ⟨⟨dec1_nodup h.nd _, fun k => ?_⟩, by omega⟩
  rw [dec1_cg]
  by_cases hk : k = P[z].1.client
  · subst hk
    rw [if_pos rfl]
    omega
  · have h2 := h.eq_ k
    rw [nCl_step hz, if_neg (fun h => hk h.2.symm)] at h2
    rw [if_neg hk]
    omega
theorem Left.stayC {M : List (Int × Nat)} {P : List (Ev × ByteArray)} {z : Nat} (hz : z < P.length) (h : Left M (nCl (P.drop z))) (hr : ¬ P[z].1.result = 0) : Left M (nCl (P.drop (z + 1))) := ⟨h.nd, fun k => by
  have h2 := h.eq_ k
  rw [nCl_step hz, if_neg (fun h => hr h.1)] at h2
  omega⟩
theorem Left.zeros {M : List (Int × Nat)} {f : Int → Nat} (h : Left M f) (hf : ∀ k, f k = 0) : ∀ p ∈ M, p.2 = 0 := fun p hp => by
  rw [← cg_mem h.nd hp, h.eq_, hf]
variable {n : Int} {h : List (List Ent)}
theorem refF_all : ((refF n h).map (·.1)).Nodup ∧ (∀ k, cg (refF n h) k = nRe (evsH n 0 Lg.zero h) k) ∧ sumV (refF n h) = ((evsH n 0 Lg.zero h).filter fun p => decide (p.1.result ≠ 0)).length := by
  obtain ⟨h1, h2, h3⟩ := re_fold (evsH n 0 Lg.zero h) [] List.nodup_nil
  refine ⟨h1, fun k => (h2 k).trans (Nat.zero_add _), h3.trans (Nat.zero_add _)⟩
theorem cliF_all : ((cliF n h).map (·.1)).Nodup ∧ (∀ k, cg (cliF n h) k = nCl (evsH n 0 Lg.zero h) k) ∧ sumV (cliF n h) = ((evsH n 0 Lg.zero h).filter fun p => decide (p.1.result = 0)).length ∧ (∀ p ∈ cliF n h, 1 ≤ p.2) := by
  obtain ⟨h1, h2, h3, h4⟩ := cl_fold (evsH n 0 Lg.zero h) [] List.nodup_nil (fun p hp => by cases hp)
  exact ⟨h1, fun k => (h2 k).trans (Nat.zero_add _), h3.trans (Nat.zero_add _), h4⟩
theorem two_sums : sumV (refF n h) + sumV (cliF n h) = (evsH n 0 Lg.zero h).length := by
  rw [refF_all.2.2, cliF_all.2.2.1]
  generalize evsH n 0 Lg.zero h = P
  induction P with
  | nil => rfl
  | cons p P ih =>
    by_cases hp : p.1.result = 0
    · rw [List.filter_cons_of_neg (by simpa using hp), List.filter_cons_of_pos (by simpa using hp), List.length_cons, List.length_cons]
      omega
    · rw [List.filter_cons_of_pos (by simpa using hp), List.filter_cons_of_neg (by simpa using hp), List.length_cons, List.length_cons]
      omega
end
end Go.Proofs.YtnedfcaoggkmnaaGreatDoor.A
/-
  The document's timelines: when, how long.
-/
set_option maxRecDepth 100000
set_option linter.unusedSimpArgs false
set_option linter.unusedVariables false
namespace Go.Proofs.YtnedfcaoggkmnaaGreatDoor.A
open Go.RowKit

section
variable {name : ByteArray} {n state : Int} {l : Lg} {h : List (List Ent)} {x : Ltr} {e1 e2 : Value}
set_option maxHeartbeats 2000000 in
theorem few42_s  : Spec Tryz.prog 8 [histA h] [] (fun _ : Unit => []) (fun _ => boo (decide (FewH h))) := by
  refine spec_of Tryz.func8 rfl Tryz.ntmps8 rfl fun G w => ?_
  refine SC.seq (SC.region ?_)
  refine SL.val (Val.assign rfl) rfl rfl ?_
  refine SL.nil (SE.seq ?_)
  refine SC.seq ?_
  refine SC.seq (SC.region ?_)
  refine SL.val (Val.move rfl) rfl rfl ?_
  first
    | refine SL.val (Val.lenSl rfl Tryz.underlying22 (List.length_map _)) rfl rfl ?_
    | refine SL.val (Val.lenOwn rfl (by repeat first|assumption|exact m0|apply m1) Tryz.underlying22 (List.length_map _)) rfl rfl ?_
    | refine SL.val (Val.lenNil rfl Tryz.underlying22) rfl rfl ?_
  refine SL.val (Val.move rfl) rfl rfl ?_
  refine SL.nil (SE.seq ?_)
  refine SC.block ?_
  refine SC.rowLe (i := 7) rfl fun hrow => ?_
  rw [List.length_map] at hrow
  unfold maxLen at hrow
  refine SC.loop (ι := Nat) (fun z => []) (fun z => [(0, histA h), (7, histA h), (8, int (h.length : Nat)), (9, int (z : Nat))]) (fun z => z ≤ h.length ∧ ∀ j (hj : j < h.length), j < z → (∀ i (hi : i < h[j].length), h[j][i].core.letter.size ≤ 30 ∧ h[j][i].core.text.size ≤ 210) ∧ h[j].length ≤ 10) (fun z => h.length - z) (0) (⟨Nat.zero_le _, fun j h h2 => by omega⟩) (by exact ⟨rfl, rfl, rfl, rfl, trivial⟩) (by repeat first|exact s0 _|exact s1 _|apply s2|apply s3) ?_
  intro z hz
  refine SC.seq (SC.region ?_)
  refine SL.val (Val.ltI rfl rfl) rfl rfl ?_
  refine SL.nil (SE.seq ?_)
  refine SC.seq ?_
  refine SC.condP rfl ?_ ?_
  rotate_left
  · intro hc10
    refine SC.exit ?_
    refine SE.then_ (by intro h; cases h) ?_
    refine SE.then_ (by intro h; cases h) ?_
    refine SE.exit ?_
    refine SE.seq ?_
    refine SC.seq (SC.region ?_)
    refine SL.val (Val.move rfl) rfl rfl ?_
    first
      | refine SL.val (Val.lenSl rfl Tryz.underlying22 (List.length_map _)) rfl rfl ?_
      | refine SL.val (Val.lenOwn rfl (by repeat first|assumption|exact m0|apply m1) Tryz.underlying22 (List.length_map _)) rfl rfl ?_
      | refine SL.val (Val.lenNil rfl Tryz.underlying22) rfl rfl ?_
    refine SL.val (Val.leI rfl rfl) rfl rfl ?_
    refine SL.val (Val.assign rfl) rfl rfl ?_
    refine SL.nil (SE.seq ?_)
    refine SC.ret ?_
    refine SE.fin (rs := [.tmp 2]) rfl (RV.tmp rfl RV.nil) (()) (by repeat first|exact s0 _|exact s1 _|apply s2|apply s3) (by simp [It.rids]) ?_
    refine congrArg (fun b => Abs.v (Value.bool b)) ?_
    rw [decide_eq_decide]
    exact ⟨fun h9 => ⟨fun j h1 => hz.2 j h1 (by omega), by omega⟩, fun h9 => by have := h9.len; omega⟩
  intro hc10
  have hzl : z < h.length := by omega
  refine SC.skip ?_
  refine SE.seq ?_
  refine SC.seq ?_
  refine SC.block ?_
  refine SC.seq (SC.region ?_)
  refine SL.val (Val.indexSl tabOk Tryz.underlying22 rfl rfl rfl rfl (at_map (by omega)) rfl rfl) rfl rfl ?_
  refine SL.val (Val.load1R tabOk rfl rfl rfl) rfl rfl ?_
  refine SL.val (Val.assign rfl) rfl rfl ?_
  refine SL.nil (SE.seq ?_)
  refine SC.seq ?_
  refine SC.seq (SC.region ?_)
  refine SL.val (Val.move rfl) rfl rfl ?_
  first
    | refine SL.val (Val.lenSl rfl Tryz.underlying59 (List.length_map _)) rfl rfl ?_
    | refine SL.val (Val.lenOwn rfl (by repeat first|assumption|exact m0|apply m1) Tryz.underlying59 (List.length_map _)) rfl rfl ?_
    | refine SL.val (Val.lenNil rfl Tryz.underlying59) rfl rfl ?_
  refine SL.val (Val.move rfl) rfl rfl ?_
  refine SL.nil (SE.seq ?_)
  refine SC.block ?_
  refine SC.rowLe (i := 13) rfl fun hro2 => ?_
  rw [List.length_map] at hro2
  unfold maxLen at hro2
  refine SC.loop (ι := Nat) (fun y => []) (fun y => [(0, histA h), (7, histA h), (8, int (h.length : Nat)), (9, int (z : Nat)), (4, entsR (h[z]'hzl)), (13, entsR (h[z]'hzl)), (14, int ((h[z]'hzl).length : Nat)), (15, int (y : Nat))]) (fun y => y ≤ (h[z]'hzl).length ∧ ∀ i (hi : i < (h[z]'hzl).length), i < y → (h[z]'hzl)[i].core.letter.size ≤ 30 ∧ (h[z]'hzl)[i].core.text.size ≤ 210) (fun y => (h[z]'hzl).length - y) (0) (⟨Nat.zero_le _, fun j h h2 => by omega⟩) (by exact ⟨rfl, rfl, rfl, rfl, rfl, rfl, rfl, rfl, trivial⟩) (by repeat first|exact s0 _|exact s1 _|apply s2|apply s3) ?_
  intro y hy
  refine SC.seq (SC.region ?_)
  refine SL.val (Val.ltI rfl rfl) rfl rfl ?_
  refine SL.nil (SE.seq ?_)
  refine SC.seq ?_
  refine SC.condP rfl ?_ ?_
  rotate_left
  · intro hc16
    refine SC.exit ?_
    refine SE.then_ (by intro h; cases h) ?_
    refine SE.then_ (by intro h; cases h) ?_
    refine SE.exit ?_
    refine SE.seq ?_
    refine SC.seq (SC.region ?_)
    refine SL.val (Val.move rfl) rfl rfl ?_
    first
      | refine SL.val (Val.lenSl rfl Tryz.underlying59 (List.length_map _)) rfl rfl ?_
      | refine SL.val (Val.lenOwn rfl (by repeat first|assumption|exact m0|apply m1) Tryz.underlying59 (List.length_map _)) rfl rfl ?_
      | refine SL.val (Val.lenNil rfl Tryz.underlying59) rfl rfl ?_
    refine SL.val (Val.gtI rfl rfl) rfl rfl ?_
    refine SL.nil (SE.seq ?_)
    refine SC.condP rfl ?_ ?_
    rotate_left
    · intro hc34
      refine SC.skip ?_
      refine SE.inBlock ?_
      refine SE.seq ?_
      refine SC.region ?_
      first
        | refine SL.val (Val.addI rfl rfl (by simp only [InR, lo, hi]; omega)) rfl rfl ?_
        | refine SL.val (Val.addW rfl rfl) rfl rfl ?_
      refine SL.val (Val.move rfl) rfl rfl ?_
      refine SL.nil ?_
      refine SE.round (z + 1) (by first | omega | (dsimp only; omega)) (⟨by omega, fun j h1 h2 => by rcases Nat.lt_or_ge j z with h3 | h3; exact hz.2 j h1 h3; obtain rfl : j = z := (by omega); exact ⟨fun i h4 => hy.2 i h4 (by omega), by omega⟩⟩) (by exact ⟨rfl, rfl, rfl, rfl, trivial⟩) (by repeat first|exact s0 _|exact s1 _|apply s2|apply s3)
    intro hc34
    refine SC.seq (SC.region ?_)
    refine SL.val (Val.assign rfl) rfl rfl ?_
    refine SL.nil (SE.seq ?_)
    refine SC.ret ?_
    refine SE.ret ?_
    refine SE.then_ (by intro h; cases h) ?_
    refine SE.then_ (by intro h; cases h) ?_
    refine SE.ret ?_
    refine SE.then_ (by intro h; cases h) ?_
    refine SE.fin (rs := [.tmp 2]) rfl (RV.tmp rfl RV.nil) (()) (by repeat first|exact s0 _|exact s1 _|apply s2|apply s3) (by simp [It.rids]) ?_
    refine boo_dec0 fun he => ?_
    have := (he.en z hzl).2
    omega
  intro hc16
  have hyl : y < (h[z]'hzl).length := by omega
  refine SC.skip ?_
  refine SE.seq ?_
  refine SC.seq ?_
  refine SC.block ?_
  refine SC.seq (SC.region ?_)
  refine SL.val (Val.indexSl tabOk Tryz.underlying59 rfl rfl rfl rfl (at_map (by omega)) rfl rfl) rfl rfl ?_
  refine SL.val (Val.loadAR tabOk rfl rfl rfl (by rfl)) rfl rfl ?_
  refine SL.eff (Eff.alloc tabOk rfl) rfl rfl ?_
  rintro _ _ ⟨b6, rfl, rfl⟩
  refine SL.eff (Eff.store (L' := entA ((h[z]'hzl)[y]'hyl)) tabOk rfl rfl rfl (by repeat first|assumption|exact Upd.here|apply Upd.there) rfl (Nat.le_of_ble_eq_true (by rfl)) rfl (by exact putL_whole rfl)) rfl rfl ?_
  rintro _ _ ⟨rfl, rfl⟩
  refine SL.nil (SE.seq ?_)
  refine SC.seq (SC.region ?_)
  refine SL.val (Val.fieldAddr tabOk rfl rfl rfl rfl rfl) rfl rfl ?_
  refine SL.val (Val.fieldAddr tabOk rfl rfl rfl rfl rfl) rfl rfl ?_
  refine SL.val (Val.to (C := st ((h[z]'hzl)[y]'hyl).core.letter) (Val.load1 tabOk rfl rfl (by first|(apply Or.inl;(repeat first|assumption|exact m0|apply m1);done)|(apply Or.inr;(repeat first|assumption|exact m0|apply m1);done)) List.not_mem_nil (by rfl)) rfl) rfl rfl ?_
  refine SL.val (Val.lenSt rfl Tryz.underlying9) rfl rfl ?_
  refine SL.val (Val.gtI rfl rfl) rfl rfl ?_
  refine SL.val (Val.move rfl) rfl rfl ?_
  refine SL.bothP (t := 24) rfl ?_ ?_
  · intro hc24
    iterate 5 refine SL.skip rfl rfl ?_
    refine SL.val (Val.pickT rfl rfl) rfl rfl ?_
    refine SL.nil (SE.seq ?_)
    refine SC.condT rfl ?_
    refine SC.seq (SC.region ?_)
    refine SL.val (Val.assign rfl) rfl rfl ?_
    refine SL.nil (SE.seq ?_)
    refine SC.ret ?_
    refine SE.ret ?_
    refine SE.then_ (by intro h; cases h) ?_
    refine SE.then_ (by intro h; cases h) ?_
    refine SE.ret ?_
    refine SE.then_ (by intro h; cases h) ?_
    refine SE.ret ?_
    refine SE.then_ (by intro h; cases h) ?_
    refine SE.then_ (by intro h; cases h) ?_
    refine SE.ret ?_
    refine SE.then_ (by intro h; cases h) ?_
    refine SE.fin (rs := [.tmp 2]) rfl (RV.tmp rfl RV.nil) (()) (by repeat first|exact s0 _|exact s1 _|apply s2|apply s3) (by simp [It.rids]) ?_
    refine boo_dec0 fun he => ?_
    have := (he.en z hzl).1 y hyl
    omega
  intro hc24
  refine SL.val (Val.fieldAddr tabOk rfl rfl rfl rfl rfl) rfl rfl ?_
  refine SL.val (Val.fieldAddr tabOk rfl rfl rfl rfl rfl) rfl rfl ?_
  refine SL.val (Val.to (C := st ((h[z]'hzl)[y]'hyl).core.text) (Val.load1 tabOk rfl rfl (by first|(apply Or.inl;(repeat first|assumption|exact m0|apply m1);done)|(apply Or.inr;(repeat first|assumption|exact m0|apply m1);done)) List.not_mem_nil (by rfl)) rfl) rfl rfl ?_
  refine SL.val (Val.lenSt rfl Tryz.underlying9) rfl rfl ?_
  refine SL.val (Val.gtI rfl rfl) rfl rfl ?_
  refine SL.val (Val.pickF rfl rfl) rfl rfl ?_
  refine SL.nil (SE.seq ?_)
  refine SC.condP rfl ?_ ?_
  rotate_left
  · intro hc30
    refine SC.skip ?_
    refine SE.inBlock ?_
    refine SE.seq ?_
    refine SC.region ?_
    first
      | refine SL.val (Val.addI rfl rfl (by simp only [InR, lo, hi]; omega)) rfl rfl ?_
      | refine SL.val (Val.addW rfl rfl) rfl rfl ?_
    refine SL.val (Val.move rfl) rfl rfl ?_
    refine SL.nil ?_
    refine SE.round (y + 1) (by first | omega | (dsimp only; omega)) (⟨by omega, fun j h1 h2 => by rcases Nat.lt_or_ge j y with h3 | h3; exact hy.2 j h1 h3; obtain rfl : j = y := (by omega); omega⟩) (by exact ⟨rfl, rfl, rfl, rfl, rfl, rfl, rfl, rfl, trivial⟩) (by repeat first|exact s0 _|exact s1 _|apply s2|apply s3)
  intro hc30
  refine SC.seq (SC.region ?_)
  refine SL.val (Val.assign rfl) rfl rfl ?_
  refine SL.nil (SE.seq ?_)
  refine SC.ret ?_
  refine SE.ret ?_
  refine SE.then_ (by intro h; cases h) ?_
  refine SE.then_ (by intro h; cases h) ?_
  refine SE.ret ?_
  refine SE.then_ (by intro h; cases h) ?_
  refine SE.ret ?_
  refine SE.then_ (by intro h; cases h) ?_
  refine SE.then_ (by intro h; cases h) ?_
  refine SE.ret ?_
  refine SE.then_ (by intro h; cases h) ?_
  refine SE.fin (rs := [.tmp 2]) rfl (RV.tmp rfl RV.nil) (()) (by repeat first|exact s0 _|exact s1 _|apply s2|apply s3) (by simp [It.rids]) ?_
  refine boo_dec0 fun he => ?_
  have := (he.en z hzl).1 y hyl
  omega
end
end Go.Proofs.YtnedfcaoggkmnaaGreatDoor.A
/-
  Timelines: fixed answers.
-/
set_option maxRecDepth 100000
set_option linter.unusedSimpArgs false
set_option linter.unusedVariables false
namespace Go.Proofs.YtnedfcaoggkmnaaGreatDoor.A
open Go.RowKit

noncomputable instance : DecidableEq Ev := fun _ _ => Classical.propDecidable _
def nmF : ByteArray := ⟨#[97]⟩
def coF1 : Core := ⟨4, 1, 1, nmF, 5, 0, ⟨#[48]⟩⟩
def coF2 : Core := ⟨4, 2, 9, nmF, 0, 0, ⟨#[]⟩⟩
def hF : List (List Ent) := [[⟨coF1, 1⟩], [⟨coF2, 1⟩]]
theorem hF_rows : ∀ b ∈ hF, b.length ≤ 10 := by
  intro b hb
  rcases List.mem_cons.1 hb with rfl | hb
  · decide
  · rw [List.mem_singleton.1 hb]; decide
theorem hF_ins : HisIns hF := by
  intro b hb e he
  rcases List.mem_cons.1 hb with rfl | hb
  · rw [List.mem_singleton.1 he]
    exact ⟨by show i64ok 4; unfold i64ok; omega, by show i64ok 1; unfold i64ok; omega, by show i64ok 1; unfold i64ok; omega, by show i64ok 5; unfold i64ok; omega, by show i64ok 0; unfold i64ok; omega, by show (1 : Nat) ≤ _; unfold maxLen; omega, by show (1 : Nat) ≤ _; unfold maxLen; omega, by decide⟩
  · rw [List.mem_singleton.1 hb] at he
    rw [List.mem_singleton.1 he]
    exact ⟨by show i64ok 4; unfold i64ok; omega, by show i64ok 2; unfold i64ok; omega, by show i64ok 9; unfold i64ok; omega, by show i64ok 0; unfold i64ok; omega, by show i64ok 0; unfold i64ok; omega, by show (1 : Nat) ≤ _; unfold maxLen; omega, by show (0 : Nat) ≤ _; omega, by decide⟩
theorem fx1 : firstF 4 hF nmF (fun x => decide (x.state = 1)) = (1, true) := by kernel_rfl
theorem fx2 : tookF 4 hF nmF = (1, true) := by kernel_rfl
theorem fx3 : evN 4 hF nmF = [⟨1, 4, 1, 1, 0, 1⟩, ⟨2, 4, 2, 9, 0, 7⟩] := by kernel_rfl
theorem fx4 : foldS 4 quietS (batNm hF.length) 0 [] Lg.zero hF = [nmF] := by kernel_rfl
theorem fx5 : refF 4 hF = [] := by kernel_rfl
section
variable {name : ByteArray} {n state : Int} {l : Lg} {h : List (List Ent)} {x : Ltr} {e1 e2 : Value}
set_option maxHeartbeats 2000000 in
theorem fixed42_s (he : isIf e1) (hr : isIf e2) : Spec Tryz.prog 7 [] (globs e1 e2) (fun _ : Unit => []) (fun _ => boo true) := by
  refine spec_of Tryz.func7 rfl Tryz.ntmps7 rfl fun G w => ?_
  refine SC.seq (SC.region ?_)
  refine SL.val (Val.assign rfl) rfl rfl ?_
  refine SL.nil (SE.seq ?_)
  refine SC.seq (SC.region ?_)
  refine SL.val (Val.buildS (L := coF1.cells.map .v) tabOk rfl rfl rfl (by rfl)) rfl rfl ?_
  refine SL.val (Val.buildS (L := entA ⟨coF1, 1⟩) tabOk rfl rfl rfl (by rfl)) rfl rfl ?_
  refine SL.eff (Eff.buildSl tabOk Tryz.underlying59 rfl rfl rfl rfl rfl rfl rfl) rfl rfl ?_
  rintro _ _ ⟨rfl, rfl⟩
  refine SL.val (Val.buildS (L := coF2.cells.map .v) tabOk rfl rfl rfl (by rfl)) rfl rfl ?_
  refine SL.val (Val.buildS (L := entA ⟨coF2, 1⟩) tabOk rfl rfl rfl (by rfl)) rfl rfl ?_
  refine SL.eff (Eff.buildSl tabOk Tryz.underlying59 rfl rfl rfl rfl rfl rfl rfl) rfl rfl ?_
  rintro _ _ ⟨rfl, rfl⟩
  refine SL.eff (Eff.buildSl tabOk Tryz.underlying22 rfl rfl rfl rfl rfl rfl rfl) rfl rfl ?_
  rintro _ _ ⟨rfl, rfl⟩
  refine SL.val (Val.assign rfl) rfl rfl ?_
  refine SL.nil (SE.seq ?_)
  refine SC.seq (SC.region ?_)
  refine SL.val (Val.move rfl) rfl rfl ?_
  refine SL.call (when_s (name := nmF) (state := 1) (n := 4) (h := hF) he hr hF_ins hF_rows (by decide)) Casts.refl (by kernel_rfl) rfl rfl rfl ?_
  refine After.pure (by repeat (first | exact Reads.nil | (refine Reads.blk ?_ ?_; focus ((repeat first|assumption|exact m0|apply m1); done)) | (refine Reads.rd ?_ ?_; focus ((repeat first|assumption|exact m0|apply m1); done)) | (refine Reads.pc ?_ ?_; focus ((repeat first|assumption|exact m0|apply m1); done)) | (refine Reads.rdpc ?_ ?_; focus ((repeat first|assumption|exact m0|apply m1); done)))) (fun _ => rfl) ?_
  intro _
  rw [fx1]
  refine SL.val (Val.move rfl) rfl rfl ?_
  refine SL.val (Val.to (C := int 1) (Val.extract rfl rfl) rfl) rfl rfl ?_
  refine SL.val (Val.to (C := boo true) (Val.extract rfl rfl) rfl) rfl rfl ?_
  refine SL.val (Val.assign rfl) rfl rfl ?_
  refine SL.val (Val.assign rfl) rfl rfl ?_
  refine SL.nil (SE.seq ?_)
  refine SC.seq (SC.region ?_)
  refine SL.val (Val.move rfl) rfl rfl ?_
  refine SL.call (took_s (name := nmF) (n := 4) (h := hF) he hr hF_ins hF_rows (by decide) ⟨firstF_bd.1, Int.le_trans firstF_bd.2 (by decide)⟩ ⟨firstF_bd.1, Int.le_trans firstF_bd.2 (by decide)⟩) Casts.refl (by kernel_rfl) rfl rfl rfl ?_
  refine After.pure (by repeat (first | exact Reads.nil | (refine Reads.blk ?_ ?_; focus ((repeat first|assumption|exact m0|apply m1); done)) | (refine Reads.rd ?_ ?_; focus ((repeat first|assumption|exact m0|apply m1); done)) | (refine Reads.pc ?_ ?_; focus ((repeat first|assumption|exact m0|apply m1); done)) | (refine Reads.rdpc ?_ ?_; focus ((repeat first|assumption|exact m0|apply m1); done)))) (fun _ => rfl) ?_
  intro _
  rw [fx2]
  refine SL.val (Val.move rfl) rfl rfl ?_
  refine SL.val (Val.to (C := int 1) (Val.extract rfl rfl) rfl) rfl rfl ?_
  refine SL.val (Val.to (C := boo true) (Val.extract rfl rfl) rfl) rfl rfl ?_
  refine SL.val (Val.assign rfl) rfl rfl ?_
  refine SL.val (Val.assign rfl) rfl rfl ?_
  refine SL.nil (SE.seq ?_)
  refine SC.seq (SC.region ?_)
  refine SL.val (Val.move rfl) rfl rfl ?_
  refine SL.call (events_s (name := nmF) (n := 4) (h := hF) he hr hF_ins hF_rows (by decide)) Casts.refl (by kernel_rfl) rfl rfl rfl ?_
  refine After.pure (by repeat (first | exact Reads.nil | (refine Reads.blk ?_ ?_; focus ((repeat first|assumption|exact m0|apply m1); done)) | (refine Reads.rd ?_ ?_; focus ((repeat first|assumption|exact m0|apply m1); done)) | (refine Reads.pc ?_ ?_; focus ((repeat first|assumption|exact m0|apply m1); done)) | (refine Reads.rdpc ?_ ?_; focus ((repeat first|assumption|exact m0|apply m1); done)))) (fun _ => rfl) ?_
  intro _
  rw [fx3]
  refine SL.val (Val.assign rfl) rfl rfl ?_
  refine SL.nil (SE.seq ?_)
  refine SC.seq (SC.region ?_)
  refine SL.val (Val.move rfl) rfl rfl ?_
  refine SL.val (Val.move rfl) rfl rfl ?_
  refine SL.val (Val.move rfl) rfl rfl ?_
  refine SL.val (Val.to (C := boo true) (Val.eqI rfl rfl) (congrArg (fun b => Abs.v (Value.bool b)) (decide_eq_true (rfl)))) rfl rfl ?_
  refine SL.val (Val.pickT rfl rfl) rfl rfl ?_
  refine SL.val (Val.move rfl) rfl rfl ?_
  refine SL.val (Val.move rfl) rfl rfl ?_
  refine SL.val (Val.pickT rfl rfl) rfl rfl ?_
  refine SL.val (Val.move rfl) rfl rfl ?_
  refine SL.val (Val.move rfl) rfl rfl ?_
  refine SL.val (Val.to (C := boo true) (Val.eqI rfl rfl) (congrArg (fun b => Abs.v (Value.bool b)) (decide_eq_true (rfl)))) rfl rfl ?_
  refine SL.val (Val.pickT rfl rfl) rfl rfl ?_
  refine SL.val (Val.move rfl) rfl rfl ?_
  refine SL.val (Val.move rfl) rfl rfl ?_
  first
    | refine SL.val (Val.lenSl rfl Tryz.underlying25 (List.length_map _)) rfl rfl ?_
    | refine SL.val (Val.lenOwn rfl (by repeat first|assumption|exact m0|apply m1) Tryz.underlying25 (List.length_map _)) rfl rfl ?_
    | refine SL.val (Val.lenNil rfl Tryz.underlying25) rfl rfl ?_
  refine SL.val (Val.to (C := boo true) (Val.eqI rfl rfl) (congrArg (fun b => Abs.v (Value.bool b)) (decide_eq_true (rfl)))) rfl rfl ?_
  refine SL.val (Val.pickT rfl rfl) rfl rfl ?_
  refine SL.val (Val.move rfl) rfl rfl ?_
  refine SL.val (Val.move rfl) rfl rfl ?_
  refine SL.val (Val.indexSl (q := 1) (cs := Ev.abs ⟨2, 4, 2, 9, 0, 7⟩) tabOk Tryz.underlying25 rfl rfl rfl rfl (by rfl) rfl rfl) rfl rfl ?_
  first
    | refine SL.val (Val.fieldAddr tabOk rfl rfl rfl rfl rfl) rfl rfl ?_
    | refine SL.val (Val.fieldAddrR tabOk rfl rfl rfl rfl rfl) rfl rfl ?_
  refine SL.val (Val.to (C := int 7) (Val.load1R tabOk rfl rfl rfl) rfl) rfl rfl ?_
  refine SL.val (Val.to (C := boo true) (Val.eqI rfl rfl) (congrArg (fun b => Abs.v (Value.bool b)) (decide_eq_true (rfl)))) rfl rfl ?_
  refine SL.val (Val.pickT rfl rfl) rfl rfl ?_
  refine SL.val (Val.move rfl) rfl rfl ?_
  refine SL.val (Val.move rfl) rfl rfl ?_
  refine SL.call (names_s (n := 4) (h := hF) he hr hF_ins hF_rows (by decide)) Casts.refl (by kernel_rfl) rfl rfl rfl ?_
  refine After.pure (by repeat (first | exact Reads.nil | (refine Reads.blk ?_ ?_; focus ((repeat first|assumption|exact m0|apply m1); done)) | (refine Reads.rd ?_ ?_; focus ((repeat first|assumption|exact m0|apply m1); done)) | (refine Reads.pc ?_ ?_; focus ((repeat first|assumption|exact m0|apply m1); done)) | (refine Reads.rdpc ?_ ?_; focus ((repeat first|assumption|exact m0|apply m1); done)))) (fun _ => rfl) ?_
  intro _
  rw [fx4]
  first
    | refine SL.val (Val.lenSl rfl Tryz.underlying26 (List.length_map _)) rfl rfl ?_
    | refine SL.val (Val.lenOwn rfl (by repeat first|assumption|exact m0|apply m1) Tryz.underlying26 (List.length_map _)) rfl rfl ?_
    | refine SL.val (Val.lenNil rfl Tryz.underlying26) rfl rfl ?_
  refine SL.val (Val.to (C := boo true) (Val.eqI rfl rfl) (congrArg (fun b => Abs.v (Value.bool b)) (decide_eq_true (rfl)))) rfl rfl ?_
  refine SL.val (Val.pickT rfl rfl) rfl rfl ?_
  refine SL.val (Val.move rfl) rfl rfl ?_
  refine SL.val (Val.move rfl) rfl rfl ?_
  refine SL.call (refused_s (n := 4) (h := hF) he hr hF_ins hF_rows (by decide)) Casts.refl (by kernel_rfl) rfl rfl rfl ?_
  refine After.make (by repeat (first | exact Reads.nil | (refine Reads.blk ?_ ?_; focus ((repeat first|assumption|exact m0|apply m1); done)) | (refine Reads.rd ?_ ?_; focus ((repeat first|assumption|exact m0|apply m1); done)) | (refine Reads.pc ?_ ?_; focus ((repeat first|assumption|exact m0|apply m1); done)) | (refine Reads.rdpc ?_ ?_; focus ((repeat first|assumption|exact m0|apply m1); done)))) (fun _ => rfl) ?_
  intro mR
  refine SL.val (Val.to (C := int 0) (Val.lenMap Tryz.underlying30 rfl (by first|(apply Or.inl;(repeat first|assumption|exact m0|apply m1);done)|(apply Or.inr;(repeat first|assumption|exact m0|apply m1);done)) List.not_mem_nil) (by rw [fx5]; rfl)) rfl rfl ?_
  refine SL.val (Val.to (C := boo true) (Val.eqI rfl rfl) (congrArg (fun b => Abs.v (Value.bool b)) (decide_eq_true (rfl)))) rfl rfl ?_
  refine SL.val (Val.pickT rfl rfl) rfl rfl ?_
  refine SL.val (Val.assign rfl) rfl rfl ?_
  refine SL.nil (SE.seq ?_)
  refine SC.ret ?_
  refine SE.fin (rs := [.tmp 0]) rfl (RV.tmp rfl RV.nil) (()) (by repeat first|exact s0 _|exact s1 _|apply s2|apply s3) (by simp [It.rids]) ?_
  exact rfl
end
end Go.Proofs.YtnedfcaoggkmnaaGreatDoor.A
/-
  TimelineSteps: the law.
-/
set_option maxRecDepth 100000
set_option linter.unusedSimpArgs false
set_option linter.unusedVariables false
namespace Go.Proofs.YtnedfcaoggkmnaaGreatDoor.A
open Go.RowKit

theorem FewH.szs {h : List (List Ent)} (hf : FewH h) : ∀ b ∈ h, ∀ e ∈ b, e.core.letter.size ≤ lots := by
  intro b hb e he
  obtain ⟨j, hj, rfl⟩ := List.getElem_of_mem hb
  obtain ⟨i, hi2, rfl⟩ := List.getElem_of_mem he
  have := ((hf.en j hj).1 i hi2).1
  unfold lots
  omega
section
variable {name : ByteArray} {n state : Int} {l : Lg} {h : List (List Ent)} {x : Ltr} {e1 e2 : Value}
end
end Go.Proofs.YtnedfcaoggkmnaaGreatDoor.A
/-
  TimelineWhen: the law.
-/
set_option maxRecDepth 100000
set_option linter.unusedSimpArgs false
set_option linter.unusedVariables false
namespace Go.Proofs.YtnedfcaoggkmnaaGreatDoor.A
open Go.RowKit

section
variable {name : ByteArray} {n state : Int} {l : Lg} {h : List (List Ent)} {x : Ltr} {e1 e2 : Value}
end
end Go.Proofs.YtnedfcaoggkmnaaGreatDoor.A
