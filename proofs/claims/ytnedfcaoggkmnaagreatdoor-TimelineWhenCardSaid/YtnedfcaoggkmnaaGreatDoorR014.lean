/-
  Packed out of the texts: CT5, CT6, TmlB, CT7, CT8, CT9, CT10.
-/
import Derived.Test.YtnedfcaoggkmnaaGreatDoorR013
/-
  Timelines: names, when, how long, how many.
-/
set_option maxRecDepth 100000
set_option linter.unusedSimpArgs false
set_option linter.unusedVariables false
namespace Go.Proofs.YtnedfcaoggkmnaaGreatDoor.A
open Go.RowKit

section
variable {ev : Ev} {nm name : ByteArray} {p q m pa po pn ph kH : Nat} {v : Value} {s : List Ev} {sn : List ByteArray} {qq n : Int} {l : Lg} {h : List (List Ent)} {e1 e2 : Value} {capsH : List Abs} {Ch : Pc} {hold : Ltr → Bool} {sf : Int × Bool} {sm : List (Int × Nat)} {state : Int} {x : Ltr}
set_option maxHeartbeats 1000000 in
theorem names1_s (hs : sn.length ≤ 100000) (hl : l.ls.length ≤ 400) : Spec Tryz.prog 33 [int qq, .agg l.abs, ptr q, ptr p] [own 9 1 v ((sn).map fun x => [st x]), .blk p 26 [.v v], .blk q 22 [histA h]] (fun r : Value => [own 9 1 r (((batNm h.length sn qq l).1).map fun x => [st x]), .blk p 26 [.v r], .blk q 22 [histA h]]) (fun _ => boo true) := by
  refine spec_of Tryz.func33 rfl Tryz.ntmps33 rfl fun G w => ?_
  refine SC.seq (SC.region ?_)
  refine SL.eff (Eff.boxA (cs := l.abs) rfl) rfl rfl ?_
  rintro _ _ ⟨b5, rfl, rfl⟩
  refine SL.val (Val.assign rfl) rfl rfl ?_
  refine SL.nil (SE.seq ?_)
  refine SC.cutS (ι := Value) (fun z => (.blk b5 44 l.abs :: own 9 1 z (((batNm h.length sn qq l).1).map fun x => [st x]) :: .blk p 26 [.v z] :: .blk q 22 [histA h] :: [])) (fun z => [(5, ptr b5)]) (fun z => True) ?_ ?_
  · skip
    refine SC.seq (SC.region ?_)
    refine SL.val (Val.move rfl) rfl rfl ?_
    refine SL.val (Val.to (C := histA h) (Val.load1 tabOk rfl rfl (by first|(apply Or.inl;(repeat first|assumption|exact m0|apply m1);done)|(apply Or.inr;(repeat first|assumption|exact m0|apply m1);done)) List.not_mem_nil (by rfl)) rfl) rfl rfl ?_
    first
      | refine SL.val (Val.lenSl rfl Tryz.underlying22 (List.length_map _)) rfl rfl ?_
      | refine SL.val (Val.lenOwn rfl (by repeat first|assumption|exact m0|apply m1) Tryz.underlying22 (List.length_map _)) rfl rfl ?_
      | refine SL.val (Val.lenNil rfl Tryz.underlying22) rfl rfl ?_
    refine SL.val (Val.eqI rfl rfl) rfl rfl ?_
    refine SL.nil (SE.seq ?_)
    refine SC.condP rfl ?_ ?_
    rotate_left
    · intro hc12
      refine SC.skip ?_
      have hbn : (batNm h.length sn qq l).1 = sn := if_neg (by omega)
      refine SE.meet (v) (trivial) (by exact ⟨rfl, trivial⟩) (by rw [hbn]; repeat (first | exact List.nil_sublist _ | exact List.Sublist.refl _ | apply List.Sublist.cons_cons | apply List.Sublist.cons))
    intro hc12
    refine SC.seq (SC.region ?_)
    refine SL.val (Val.fieldAddr tabOk rfl rfl rfl rfl rfl) rfl rfl ?_
    refine SL.val (Val.to (C := .sl 6 (l.ls.map ltrA)) (Val.load1 tabOk rfl rfl (by first|(apply Or.inl;(repeat first|assumption|exact m0|apply m1);done)|(apply Or.inr;(repeat first|assumption|exact m0|apply m1);done)) List.not_mem_nil (by rfl)) rfl) rfl rfl ?_
    first
      | refine SL.val (Val.lenSl rfl Tryz.underlying41 (List.length_map _)) rfl rfl ?_
      | refine SL.val (Val.lenOwn rfl (by repeat first|assumption|exact m0|apply m1) Tryz.underlying41 (List.length_map _)) rfl rfl ?_
      | refine SL.val (Val.lenNil rfl Tryz.underlying41) rfl rfl ?_
    refine SL.val (Val.move rfl) rfl rfl ?_
    refine SL.nil (SE.seq ?_)
    refine SC.block ?_
    refine SC.loop (ι := Nat × Value) (fun z => (.blk b5 44 l.abs :: own 9 1 z.2 (((sn ++ (l.ls.take z.1).map (·.name))).map fun x => [st x]) :: .blk p 26 [.v z.2] :: .blk q 22 [histA h] :: [])) (fun z => [(2, ptr q), (3, ptr p), (5, ptr b5), (14, ltrsA l.ls), (15, int (l.ls.length : Nat)), (16, int (z.1 : Nat))]) (fun z => z.1 ≤ l.ls.length) (fun z => l.ls.length - z.1) (0, v) (Nat.zero_le _) (by exact ⟨rfl, rfl, rfl, rfl, rfl, rfl, trivial⟩) (by rw [show (sn ++ (l.ls.take 0).map (·.name)) = sn from List.append_nil sn]; repeat (first | exact List.nil_sublist _ | exact List.Sublist.refl _ | apply List.Sublist.cons_cons | apply List.Sublist.cons)) ?_
    intro z hz
    refine SC.seq (SC.region ?_)
    refine SL.val (Val.ltI rfl rfl) rfl rfl ?_
    refine SL.nil (SE.seq ?_)
    refine SC.seq ?_
    refine SC.condP rfl ?_ ?_
    rotate_left
    · intro hc17
      have htk : l.ls.take z.1 = l.ls := List.take_of_length_le (by omega)
      rw [htk]
      refine SC.exit ?_
      refine SE.then_ (by intro h; cases h) ?_
      refine SE.then_ (by intro h; cases h) ?_
      refine SE.exit ?_
      have hbn : (batNm h.length sn qq l).1 = sn ++ l.ls.map (·.name) := if_pos (by omega)
      refine SE.meet (z.2) (trivial) (by exact ⟨rfl, trivial⟩) (by rw [hbn]; repeat (first | exact List.nil_sublist _ | exact List.Sublist.refl _ | apply List.Sublist.cons_cons | apply List.Sublist.cons))
    intro hc17
    have hlt : z.1 < l.ls.length := by omega
    refine SC.skip ?_
    refine SE.seq ?_
    refine SC.seq ?_
    refine SC.block ?_
    refine SC.seq (SC.region ?_)
    refine SL.val (Val.indexSl tabOk Tryz.underlying41 rfl rfl rfl rfl (at_map (by omega)) rfl rfl) rfl rfl ?_
    refine SL.val (Val.loadAR tabOk rfl rfl rfl (by rfl)) rfl rfl ?_
    refine SL.eff (Eff.alloc tabOk rfl) rfl rfl ?_
    rintro _ _ ⟨b8, rfl, rfl⟩
    refine SL.eff (Eff.store (L' := ltrA (l.ls[z.1]'hlt)) tabOk rfl rfl rfl (by repeat first|assumption|exact Upd.here|apply Upd.there) rfl (Nat.le_of_ble_eq_true (by rfl)) rfl (by exact putL_whole rfl)) rfl rfl ?_
    rintro _ _ ⟨rfl, rfl⟩
    refine SL.nil (SE.seq ?_)
    refine SC.region ?_
    refine SL.val (Val.to (C := .v z.2) (Val.load1 tabOk rfl rfl (by first|(apply Or.inl;(repeat first|assumption|exact m0|apply m1);done)|(apply Or.inr;(repeat first|assumption|exact m0|apply m1);done)) List.not_mem_nil (by rfl)) rfl) rfl rfl ?_
    refine SL.val (Val.fieldAddr tabOk rfl rfl rfl rfl rfl) rfl rfl ?_
    refine SL.val (Val.to (C := st (l.ls[z.1]'hlt).name) (Val.load1 tabOk rfl rfl (by first|(apply Or.inl;(repeat first|assumption|exact m0|apply m1);done)|(apply Or.inr;(repeat first|assumption|exact m0|apply m1);done)) List.not_mem_nil (by rfl)) rfl) rfl rfl ?_
    refine SL.eff (Eff.buildSl tabOk Tryz.underlying26 rfl rfl rfl rfl rfl rfl rfl) rfl rfl ?_
    rintro _ _ ⟨rfl, rfl⟩
    refine SL.eff (Eff.appendE (zs := ((sn ++ (l.ls.take z.1).map (·.name)) ++ [(l.ls[z.1]).name]).map fun x => [st x]) tabOk [_, _] (by simp only [List.map_append]; rfl) Tryz.underlying26 rfl rfl rfl rfl rfl rfl (by intro c hc; rw [List.mem_singleton] at hc; subst hc; rfl) (by unfold maxLen; simp only [List.length_map, List.length_append, List.length_take, List.length_cons, List.length_nil]; omega) (by rw [show Tryz.prog.bytesOf 9 = 16 by kernel_rfl]; simp only [List.length_map, List.length_append, List.length_take, List.length_cons, List.length_nil]; omega)) rfl rfl ?_
    rintro _ _ ⟨r24, rfl, rfl⟩
    first
      | refine SL.eff (Eff.store tabOk rfl rfl rfl (by repeat first|assumption|exact Upd.here|apply Upd.there) (by rfl) (Nat.le_of_ble_eq_true (by rfl)) (by rfl) (by rfl)) rfl rfl ?_
      | refine SL.eff (Eff.storeOwn tabOk rfl rfl rfl rfl (by repeat first|assumption|exact m0|apply m1) (by repeat first|assumption|exact Upd.here|apply Upd.there) rfl (by rfl)) rfl rfl ?_
    rintro _ _ ⟨rfl, rfl⟩
    refine SL.nil ?_
    refine SE.inBlock ?_
    refine SE.seq ?_
    refine SC.region ?_
    first
      | refine SL.val (Val.addI rfl rfl (by simp only [InR, lo, hi]; omega)) rfl rfl ?_
      | refine SL.val (Val.addW rfl rfl) rfl rfl ?_
    refine SL.val (Val.move rfl) rfl rfl ?_
    refine SL.nil ?_
    refine SE.round (z.1 + 1, r24) (by first | omega | (dsimp only; omega)) (by dsimp only; omega) (by exact ⟨rfl, rfl, rfl, rfl, rfl, rfl, trivial⟩) (by rw [show sn ++ (l.ls.take (z.1 + 1)).map (·.name) = (sn ++ (l.ls.take z.1).map (·.name)) ++ [(l.ls[z.1]).name] by rw [List.take_succ_eq_append_getElem hlt, List.map_append, List.append_assoc]; rfl]; repeat (first | exact List.nil_sublist _ | exact List.Sublist.refl _ | apply List.Sublist.cons_cons | apply List.Sublist.cons))
  · intro z hz
    refine SC.seq (SC.region ?_)
    refine SL.val (Val.assign rfl) rfl rfl ?_
    refine SL.nil (SE.seq ?_)
    refine SC.ret ?_
    refine SE.fin (rs := [.tmp 6]) rfl (RV.tmp rfl RV.nil) (z) (by repeat first|exact s0 _|exact s1 _|apply s2|apply s3) (by simp [It.rids]) ?_
    exact rfl
set_option maxHeartbeats 1000000 in
theorem names_s (he : isIf e1) (hr : isIf e2) (hh : HisIns h) (hro : ∀ b ∈ h, b.length ≤ 10) (hn : h.length ≤ 40) : Spec Tryz.prog 17 [histA h, int n] (globs e1 e2) (fun _ : Unit => []) (fun _ => .sl 1 ((foldS n quietS (batNm h.length) 0 [] Lg.zero h).map fun x => [st x])) := by
  refine spec_of Tryz.func17 rfl Tryz.ntmps17 rfl fun G w => ?_
  refine SC.seq (SC.region ?_)
  refine SL.eff (Eff.box1 rfl rfl) rfl rfl ?_
  rintro _ _ ⟨b2, rfl, rfl⟩
  refine SL.val (Val.assign rfl) rfl rfl ?_
  refine SL.nil (SE.seq ?_)
  refine SC.seq (SC.region ?_)
  refine SL.eff (Eff.alloc tabOk rfl) rfl rfl ?_
  rintro _ _ ⟨b5, rfl, rfl⟩
  refine SL.nil (SE.seq ?_)
  refine SC.seq (SC.region ?_)
  refine SL.own0 9 1 ?_
  refine SL.val (Val.to (C := histA h) (Val.load1 tabOk rfl rfl (by first|(apply Or.inl;(repeat first|assumption|exact m0|apply m1);done)|(apply Or.inr;(repeat first|assumption|exact m0|apply m1);done)) List.not_mem_nil (by rfl)) rfl) rfl rfl ?_
  refine SL.re [] (Re.bigIn (xs := [_, _, _]) rfl) rfl ?_
  refine SL.val (Val.move rfl) rfl rfl ?_
  refine SL.val (Val.makeFunc rfl rfl) rfl rfl ?_
  refine SL.call (tfold_s (C := cNm b5 b2 h) (entS := quietS) (batS := batNm h.length) (Inv := fun _ j s => s.length ≤ 400 * j) (k1 := 32) (k2 := 33) (caps1 := []) (caps2 := [ptr b2, ptr b5]) (s0 := []) (v0 := .slice none 0 0) (n := n) (h := h) he hr (by kernel_rfl) (by kernel_rfl) (fun i j s v ev nm _ _ _ => Spec.mapI (fun _ : Unit => v) (Spec.stay (quiet_s (ev := ev) (nm := nm))) (fun _ => rfl) (fun _ => rfl)) (fun i j s ev nm hs => hs) (fun i j s v q l hs hj _ _ h1 _ _ => Spec.big (names1_s (v := v) (sn := s) (by have hs : s.length ≤ 400 * j := hs; omega) h1) rfl (fun _ => rfl)) (fun i j s q l hs h1 => by show (batNm h.length s q l).1.length ≤ 400 * (j + 1); have hs : s.length ≤ 400 * j := hs; unfold batNm; dsimp only; split <;> (try simp only [List.length_append, List.length_map]) <;> omega) (Nat.zero_le _) hh hro hn) Casts.refl (by kernel_rfl) rfl rfl rfl ?_
  refine After.oneR (ys := (globs e1 e2)) rfl (by repeat first|assumption|exact m0|apply m1) (by intro y hy; simp only [globs, List.mem_cons, List.not_mem_nil, or_false] at hy; rcases hy with rfl | rfl | rfl <;> exact ⟨by repeat first|assumption|exact m0|apply m1, by intro h; cases h⟩) rfl (fun _ => rfl) ?_
  intro r9
  refine ⟨_, (by repeat first|assumption|exact Upd.here|apply Upd.there), ?_⟩
  refine SL.re [] (Re.bigOut rfl) rfl ?_
  refine SL.nil (SE.seq ?_)
  refine SC.seq (SC.region ?_)
  refine SL.val (Val.load1 tabOk rfl rfl (by first|(apply Or.inl;(repeat first|assumption|exact m0|apply m1);done)|(apply Or.inr;(repeat first|assumption|exact m0|apply m1);done)) List.not_mem_nil (by rfl)) rfl rfl ?_
  refine SL.val (Val.assign rfl) rfl rfl ?_
  refine SL.nil (SE.seq ?_)
  refine SC.ret ?_
  refine SE.freeze [] (t := 4) rfl rfl ?_
  refine SE.fin (rs := [.tmp 4]) rfl (RV.tmp rfl RV.nil) (()) (by repeat first|exact s0 _|exact s1 _|apply s2|apply s3) (by simp [It.rids]) ?_
  exact rfl
set_option maxHeartbeats 1000000 in
theorem first1_s (hf : l.Few) (gH : goesIn Tryz.prog kH = true) (hH : ∀ x : Ltr, Spec Tryz.prog kH (.agg (ltrA x) :: capsH) [.rdpc Ch] (fun _ : Unit => []) (fun _ => boo (hold x))) : Spec Tryz.prog 41 [int qq, .agg l.abs, ptr pn, ptr ph, ptr pa, ptr po] [.blk po 4 [boo sf.2], .blk pa 2 [int sf.1], .blk ph 68 [.fn (.func kH) [] capsH], .blk pn 9 [st name], .pc Ch] (fun _ : Unit => [.blk po 4 [boo (batFi name hold sf qq l).1.2], .blk pa 2 [int (batFi name hold sf qq l).1.1], .blk ph 68 [.fn (.func kH) [] capsH], .blk pn 9 [st name], .pc Ch]) (fun _ => boo (batFi name hold sf qq l).2) := by
  refine spec_of Tryz.func41 rfl Tryz.ntmps41 rfl fun G w => ?_
  refine SC.seq (SC.region ?_)
  refine SL.eff (Eff.boxA (cs := l.abs) rfl) rfl rfl ?_
  rintro _ _ ⟨b7, rfl, rfl⟩
  refine SL.val (Val.assign rfl) rfl rfl ?_
  refine SL.nil (SE.seq ?_)
  refine SC.seq (SC.region ?_)
  refine SL.val (Val.to (C := .agg l.abs) (Val.loadP tabOk rfl rfl rfl (by first|(apply Or.inl;(repeat first|assumption|exact m0|apply m1);done)|(apply Or.inr;(repeat first|assumption|exact m0|apply m1);done)) List.not_mem_nil (Nat.le_of_ble_eq_true (by rfl))) rfl) rfl rfl ?_
  refine SL.val (Val.to (C := st name) (Val.load1 tabOk rfl rfl (by first|(apply Or.inl;(repeat first|assumption|exact m0|apply m1);done)|(apply Or.inr;(repeat first|assumption|exact m0|apply m1);done)) List.not_mem_nil (by rfl)) rfl) rfl rfl ?_
  refine SL.call (lfind_s (l := l) (s := name) hf) Casts.refl (by kernel_rfl) rfl rfl rfl ?_
  refine After.pure (by repeat (first | exact Reads.nil | (refine Reads.blk ?_ ?_; focus ((repeat first|assumption|exact m0|apply m1); done)) | (refine Reads.rd ?_ ?_; focus ((repeat first|assumption|exact m0|apply m1); done)) | (refine Reads.pc ?_ ?_; focus ((repeat first|assumption|exact m0|apply m1); done)) | (refine Reads.rdpc ?_ ?_; focus ((repeat first|assumption|exact m0|apply m1); done)))) (fun _ => rfl) ?_
  intro _
  rw [find_old]
  refine SL.val (Val.move rfl) rfl rfl ?_
  refine SL.val (Val.extract rfl rfl) rfl rfl ?_
  refine SL.val (Val.extract rfl rfl) rfl rfl ?_
  refine SL.eff (Eff.alloc tabOk rfl) rfl rfl ?_
  rintro _ _ ⟨b9, rfl, rfl⟩
  refine SL.eff (Eff.store (L' := ltrA (l.old name)) tabOk rfl rfl rfl (by repeat first|assumption|exact Upd.here|apply Upd.there) rfl (Nat.le_of_ble_eq_true (by rfl)) rfl (by exact putL_whole rfl)) rfl rfl ?_
  rintro _ _ ⟨rfl, rfl⟩
  refine SL.val (Val.assign rfl) rfl rfl ?_
  refine SL.nil (SE.seq ?_)
  refine SC.seq ?_
  refine SC.seq (SC.region ?_)
  refine SL.val (Val.move rfl) rfl rfl ?_
  refine SL.val (Val.move rfl) rfl rfl ?_
  refine SL.both (t := 18) rfl ?_ ?_
  rotate_left
  · intro hc18
    have hbf : (batFi name hold sf qq l) = (sf, !sf.2) := if_neg (fun h => by rw [h.1] at hc18; cases hc18)
    iterate 3 refine SL.skip rfl rfl ?_
    refine SL.val (Val.pickF rfl rfl) rfl rfl ?_
    refine SL.nil (SE.seq ?_)
    refine SC.condF rfl ?_
    refine SC.skip ?_
    refine SE.seq ?_
    refine SC.seq (SC.region ?_)
    refine SL.val (Val.load1 tabOk rfl rfl (by first|(apply Or.inl;(repeat first|assumption|exact m0|apply m1);done)|(apply Or.inr;(repeat first|assumption|exact m0|apply m1);done)) List.not_mem_nil (by rfl)) rfl rfl ?_
    refine SL.val (Val.notB rfl) rfl rfl ?_
    refine SL.val (Val.assign rfl) rfl rfl ?_
    refine SL.nil (SE.seq ?_)
    refine SC.ret ?_
    refine SE.fin (rs := [.tmp 8]) rfl (RV.tmp rfl RV.nil) (()) (by rw [hbf]; repeat (first | exact List.nil_sublist _ | exact List.Sublist.refl _ | apply List.Sublist.cons_cons | apply List.Sublist.cons)) (by simp [It.rids]) ?_
    rw [hbf]
    rfl
  intro hc18
  refine SL.val (Val.load1 tabOk rfl rfl (by first|(apply Or.inl;(repeat first|assumption|exact m0|apply m1);done)|(apply Or.inr;(repeat first|assumption|exact m0|apply m1);done)) List.not_mem_nil (by rfl)) rfl rfl ?_
  refine SL.val (Val.loadA tabOk rfl rfl rfl (by first|(apply Or.inl;(repeat first|assumption|exact m0|apply m1);done)|(apply Or.inr;(repeat first|assumption|exact m0|apply m1);done)) List.not_mem_nil (by rfl)) rfl rfl ?_
  refine SL.callv (hH (l.old name)) rfl Casts.refl gH rfl rfl rfl ?_
  refine After.pure (by repeat (first | exact Reads.nil | (refine Reads.blk ?_ ?_; focus ((repeat first|assumption|exact m0|apply m1); done)) | (refine Reads.rd ?_ ?_; focus ((repeat first|assumption|exact m0|apply m1); done)) | (refine Reads.pc ?_ ?_; focus ((repeat first|assumption|exact m0|apply m1); done)) | (refine Reads.rdpc ?_ ?_; focus ((repeat first|assumption|exact m0|apply m1); done)))) (fun _ => rfl) ?_
  intro _
  refine SL.val (Val.pickT rfl rfl) rfl rfl ?_
  refine SL.nil (SE.seq ?_)
  refine SC.cond rfl ?_ ?_
  rotate_left
  · intro hc22
    have hbf : (batFi name hold sf qq l) = (sf, !sf.2) := if_neg (fun h => by rw [h.2] at hc22; cases hc22)
    refine SC.skip ?_
    refine SE.seq ?_
    refine SC.seq (SC.region ?_)
    refine SL.val (Val.load1 tabOk rfl rfl (by first|(apply Or.inl;(repeat first|assumption|exact m0|apply m1);done)|(apply Or.inr;(repeat first|assumption|exact m0|apply m1);done)) List.not_mem_nil (by rfl)) rfl rfl ?_
    refine SL.val (Val.notB rfl) rfl rfl ?_
    refine SL.val (Val.assign rfl) rfl rfl ?_
    refine SL.nil (SE.seq ?_)
    refine SC.ret ?_
    refine SE.fin (rs := [.tmp 8]) rfl (RV.tmp rfl RV.nil) (()) (by rw [hbf]; repeat (first | exact List.nil_sublist _ | exact List.Sublist.refl _ | apply List.Sublist.cons_cons | apply List.Sublist.cons)) (by simp [It.rids]) ?_
    rw [hbf]
    rfl
  intro hc22
  have hbf : (batFi name hold sf qq l) = ((qq, true), false) := if_pos ⟨hc18, hc22⟩
  refine SC.region ?_
  refine SL.val (Val.move rfl) rfl rfl ?_
  refine SL.eff (Eff.store (L' := [int qq]) tabOk rfl rfl rfl (by repeat first|assumption|exact Upd.here|apply Upd.there) rfl (Nat.le_of_ble_eq_true (by rfl)) rfl (by rfl)) rfl rfl ?_
  rintro _ _ ⟨rfl, rfl⟩
  refine SL.eff (Eff.store (L' := [boo true]) tabOk rfl rfl rfl (by repeat first|assumption|exact Upd.here|apply Upd.there) rfl (Nat.le_of_ble_eq_true (by rfl)) rfl (by rfl)) rfl rfl ?_
  rintro _ _ ⟨rfl, rfl⟩
  refine SL.nil (SE.seq ?_)
  refine SC.seq (SC.region ?_)
  refine SL.val (Val.load1 tabOk rfl rfl (by first|(apply Or.inl;(repeat first|assumption|exact m0|apply m1);done)|(apply Or.inr;(repeat first|assumption|exact m0|apply m1);done)) List.not_mem_nil (by rfl)) rfl rfl ?_
  refine SL.val (Val.notB rfl) rfl rfl ?_
  refine SL.val (Val.assign rfl) rfl rfl ?_
  refine SL.nil (SE.seq ?_)
  refine SC.ret ?_
  refine SE.fin (rs := [.tmp 8]) rfl (RV.tmp rfl RV.nil) (()) (by rw [hbf]; repeat (first | exact List.nil_sublist _ | exact List.Sublist.refl _ | apply List.Sublist.cons_cons | apply List.Sublist.cons)) (by simp [It.rids]) ?_
  rw [hbf]
  rfl
set_option maxHeartbeats 1000000 in
theorem first_s (he : isIf e1) (hr : isIf e2) (gH : goesIn Tryz.prog kH = true) (hH : ∀ x : Ltr, Spec Tryz.prog kH (.agg (ltrA x) :: capsH) [.rdpc Ch] (fun _ : Unit => []) (fun _ => boo (hold x))) (hh : HisIns h) (hro : ∀ b ∈ h, b.length ≤ 10) (hn : h.length ≤ 40) : Spec Tryz.prog 26 [histA h, int n, st name, .fn (.func kH) [] capsH] (.pc Ch :: (globs e1 e2)) (fun _ : Unit => [.pc Ch]) (fun _ => .tup [int (firstF n h name hold).1, boo (firstF n h name hold).2]) := by
  refine spec_of Tryz.func26 rfl Tryz.ntmps26 rfl fun G w => ?_
  refine SC.seq (SC.region ?_)
  refine SL.eff (Eff.box1 rfl rfl) rfl rfl ?_
  rintro _ _ ⟨b6, rfl, rfl⟩
  refine SL.eff (Eff.box1 rfl rfl) rfl rfl ?_
  rintro _ _ ⟨b7, rfl, rfl⟩
  refine SL.eff (Eff.alloc tabOk rfl) rfl rfl ?_
  rintro _ _ ⟨b8, rfl, rfl⟩
  refine SL.eff (Eff.alloc tabOk rfl) rfl rfl ?_
  rintro _ _ ⟨b9, rfl, rfl⟩
  refine SL.nil (SE.seq ?_)
  refine SC.seq (SC.region ?_)
  refine SL.re [] (Re.bigIn (xs := [_, _, _, _, _]) rfl) rfl ?_
  refine SL.val (Val.move rfl) rfl rfl ?_
  refine SL.val (Val.move rfl) rfl rfl ?_
  refine SL.val (Val.makeFunc rfl rfl) rfl rfl ?_
  refine SL.call (tfold_s (C := fun s (_ : Unit) => cFi b8 b9 b6 b7 name kH capsH Ch s) (entS := quietS) (batS := batFi name hold) (Inv := fun _ _ _ => True) (k1 := 32) (k2 := 41) (caps1 := []) (caps2 := [ptr b6, ptr b7, ptr b8, ptr b9]) (s0 := (0, false)) (v0 := ()) (n := n) (h := h) he hr (by kernel_rfl) (by kernel_rfl) (fun i j s v ev nm _ _ _ => Spec.mapI (fun _ : Unit => v) (Spec.stay (quiet_s (ev := ev) (nm := nm))) (fun _ => rfl) (fun _ => rfl)) (fun _ _ _ _ _ _ => trivial) (fun i j s v q l _ _ _ _ h1 h2 _ => Spec.big (first1_s (sf := s) ⟨by omega, by omega⟩ gH hH) rfl (fun _ => rfl)) (fun _ _ _ _ _ _ _ => trivial) trivial hh hro hn) Casts.refl (by kernel_rfl) rfl rfl rfl ?_
  refine After.oneR (ys := (globs e1 e2)) rfl (by repeat first|assumption|exact m0|apply m1) (by intro y hy; simp only [globs, List.mem_cons, List.not_mem_nil, or_false] at hy; rcases hy with rfl | rfl | rfl <;> exact ⟨by repeat first|assumption|exact m0|apply m1, by intro h; cases h⟩) rfl (fun _ => rfl) ?_
  intro r13
  refine ⟨_, (by repeat first|assumption|exact Upd.here|apply Upd.there), ?_⟩
  rw [show foldS n quietS (batFi name hold) 0 (0, false) Lg.zero h = (firstF n h name hold) from rfl]
  refine SL.re [] (Re.bigOut rfl) rfl ?_
  refine SL.nil (SE.seq ?_)
  refine SC.seq ?_
  refine SC.draw [b9, b8] (.two 0 1 (.two 1 2 (.e 2 (.e 3 .nil)) (.e 1 (.e 3 .nil))) (.e 0 (.e 2 (.e 3 .nil)))) (by kernel_rfl) (by kernel_rfl) ?_
  refine SX.two ?_ ?_
  · skip
    refine SX.valE rfl (Val.to (C := int (firstF n h name hold).1) (Val.load1 tabOk rfl rfl (by first|(apply Or.inl;(repeat first|assumption|exact m0|apply m1);done)|(apply Or.inr;(repeat first|assumption|exact m0|apply m1);done)) List.not_mem_nil (by rfl)) rfl) rfl rfl ?_
    refine SX.two ?_ ?_
    · skip
      refine SX.valE rfl (Val.to (C := boo (firstF n h name hold).2) (Val.load1 tabOk rfl rfl (by first|(apply Or.inl;(repeat first|assumption|exact m0|apply m1);done)|(apply Or.inr;(repeat first|assumption|exact m0|apply m1);done)) List.not_mem_nil (by rfl)) rfl) rfl rfl ?_
      refine SX.eff rfl (Eff.store (L' := [int (firstF n h name hold).1]) tabOk rfl rfl rfl (by repeat first|assumption|exact Upd.here|apply Upd.there) rfl (Nat.le_of_ble_eq_true (by rfl)) rfl (by rfl)) (by simp) rfl rfl ?_
      rintro _ _ ⟨rfl, rfl⟩
      refine SX.eff rfl (Eff.store (L' := [boo (firstF n h name hold).2]) tabOk rfl rfl rfl (by repeat first|assumption|exact Upd.here|apply Upd.there) rfl (Nat.le_of_ble_eq_true (by rfl)) rfl (by rfl)) (by simp) rfl rfl ?_
      rintro _ _ ⟨rfl, rfl⟩
      refine SX.nil (SE.seq ?_)
      refine SC.ret ?_
      refine SE.fin (rs := [.cell 8 2, .cell 9 4]) rfl (RV.cell rfl (RV.cell1 tabOk rfl (by first|(apply Or.inl;(repeat first|assumption|exact m0|apply m1);done)|(apply Or.inr;(repeat first|assumption|exact m0|apply m1);done)) (by rfl)) (RV.cell rfl (RV.cell1 tabOk rfl (by first|(apply Or.inl;(repeat first|assumption|exact m0|apply m1);done)|(apply Or.inr;(repeat first|assumption|exact m0|apply m1);done)) (by rfl)) RV.nil)) (()) (by repeat first|exact s0 _|exact s1 _|apply s2|apply s3) (by simp [It.rids]) ?_
      exact rfl
    · skip
      refine SX.eff rfl (Eff.store (L' := [int (firstF n h name hold).1]) tabOk rfl rfl rfl (by repeat first|assumption|exact Upd.here|apply Upd.there) rfl (Nat.le_of_ble_eq_true (by rfl)) rfl (by rfl)) (by simp) rfl rfl ?_
      rintro _ _ ⟨rfl, rfl⟩
      refine SX.valE rfl (Val.to (C := boo (firstF n h name hold).2) (Val.load1 tabOk rfl rfl (by first|(apply Or.inl;(repeat first|assumption|exact m0|apply m1);done)|(apply Or.inr;(repeat first|assumption|exact m0|apply m1);done)) List.not_mem_nil (by rfl)) rfl) rfl rfl ?_
      refine SX.eff rfl (Eff.store (L' := [boo (firstF n h name hold).2]) tabOk rfl rfl rfl (by repeat first|assumption|exact Upd.here|apply Upd.there) rfl (Nat.le_of_ble_eq_true (by rfl)) rfl (by rfl)) (by simp) rfl rfl ?_
      rintro _ _ ⟨rfl, rfl⟩
      refine SX.nil (SE.seq ?_)
      refine SC.ret ?_
      refine SE.fin (rs := [.cell 8 2, .cell 9 4]) rfl (RV.cell rfl (RV.cell1 tabOk rfl (by first|(apply Or.inl;(repeat first|assumption|exact m0|apply m1);done)|(apply Or.inr;(repeat first|assumption|exact m0|apply m1);done)) (by rfl)) (RV.cell rfl (RV.cell1 tabOk rfl (by first|(apply Or.inl;(repeat first|assumption|exact m0|apply m1);done)|(apply Or.inr;(repeat first|assumption|exact m0|apply m1);done)) (by rfl)) RV.nil)) (()) (by repeat first|exact s0 _|exact s1 _|apply s2|apply s3) (by simp [It.rids]) ?_
      exact rfl
  · skip
    refine SX.valE rfl (Val.to (C := boo (firstF n h name hold).2) (Val.load1 tabOk rfl rfl (by first|(apply Or.inl;(repeat first|assumption|exact m0|apply m1);done)|(apply Or.inr;(repeat first|assumption|exact m0|apply m1);done)) List.not_mem_nil (by rfl)) rfl) rfl rfl ?_
    refine SX.valE rfl (Val.to (C := int (firstF n h name hold).1) (Val.load1 tabOk rfl rfl (by first|(apply Or.inl;(repeat first|assumption|exact m0|apply m1);done)|(apply Or.inr;(repeat first|assumption|exact m0|apply m1);done)) List.not_mem_nil (by rfl)) rfl) rfl rfl ?_
    refine SX.eff rfl (Eff.store (L' := [int (firstF n h name hold).1]) tabOk rfl rfl rfl (by repeat first|assumption|exact Upd.here|apply Upd.there) rfl (Nat.le_of_ble_eq_true (by rfl)) rfl (by rfl)) (by simp) rfl rfl ?_
    rintro _ _ ⟨rfl, rfl⟩
    refine SX.eff rfl (Eff.store (L' := [boo (firstF n h name hold).2]) tabOk rfl rfl rfl (by repeat first|assumption|exact Upd.here|apply Upd.there) rfl (Nat.le_of_ble_eq_true (by rfl)) rfl (by rfl)) (by simp) rfl rfl ?_
    rintro _ _ ⟨rfl, rfl⟩
    refine SX.nil (SE.seq ?_)
    refine SC.ret ?_
    refine SE.fin (rs := [.cell 8 2, .cell 9 4]) rfl (RV.cell rfl (RV.cell1 tabOk rfl (by first|(apply Or.inl;(repeat first|assumption|exact m0|apply m1);done)|(apply Or.inr;(repeat first|assumption|exact m0|apply m1);done)) (by rfl)) (RV.cell rfl (RV.cell1 tabOk rfl (by first|(apply Or.inl;(repeat first|assumption|exact m0|apply m1);done)|(apply Or.inr;(repeat first|assumption|exact m0|apply m1);done)) (by rfl)) RV.nil)) (()) (by repeat first|exact s0 _|exact s1 _|apply s2|apply s3) (by simp [It.rids]) ?_
    exact rfl
theorem when1_s  : Spec Tryz.prog 27 [.agg (ltrA x), ptr p] [.rd p 3 [int state]] (fun _ : Unit => []) (fun _ => boo (decide (x.state = state))) := by
  refine spec_of Tryz.func27 rfl Tryz.ntmps27 rfl fun G w => ?_
  refine SC.seq (SC.region ?_)
  refine SL.eff (Eff.boxA (cs := ltrA x) rfl) rfl rfl ?_
  rintro _ _ ⟨b2, rfl, rfl⟩
  refine SL.val (Val.assign rfl) rfl rfl ?_
  refine SL.nil (SE.seq ?_)
  refine SC.seq (SC.region ?_)
  refine SL.val (Val.fieldAddr tabOk rfl rfl rfl rfl rfl) rfl rfl ?_
  refine SL.val (Val.to (C := int x.state) (Val.load1 tabOk rfl rfl (by first|(apply Or.inl;(repeat first|assumption|exact m0|apply m1);done)|(apply Or.inr;(repeat first|assumption|exact m0|apply m1);done)) List.not_mem_nil (by rfl)) rfl) rfl rfl ?_
  refine SL.val (Val.to (C := int state) (Val.load1 tabOk rfl rfl (by first|(apply Or.inl;(repeat first|assumption|exact m0|apply m1);done)|(apply Or.inr;(repeat first|assumption|exact m0|apply m1);done)) List.not_mem_nil (by rfl)) rfl) rfl rfl ?_
  refine SL.val (Val.eqI rfl rfl) rfl rfl ?_
  refine SL.val (Val.assign rfl) rfl rfl ?_
  refine SL.nil (SE.seq ?_)
  refine SC.ret ?_
  refine SE.fin (rs := [.tmp 3]) rfl (RV.tmp rfl RV.nil) (()) (by repeat first|exact s0 _|exact s1 _|apply s2|apply s3) (by simp [It.rids]) ?_
  exact rfl
set_option maxHeartbeats 1000000 in
theorem when_s (he : isIf e1) (hr : isIf e2) (hh : HisIns h) (hro : ∀ b ∈ h, b.length ≤ 10) (hn : h.length ≤ 40) : Spec Tryz.prog 12 [histA h, int n, st name, int state] (globs e1 e2) (fun _ : Unit => []) (fun _ => .tup [int (firstF n h name (fun x => decide (x.state = state))).1, boo (firstF n h name (fun x => decide (x.state = state))).2]) := by
  refine spec_of Tryz.func12 rfl Tryz.ntmps12 rfl fun G w => ?_
  refine SC.seq (SC.region ?_)
  refine SL.eff (Eff.box1 rfl rfl) rfl rfl ?_
  rintro _ _ ⟨b7, rfl, rfl⟩
  refine SL.val (Val.assign rfl) rfl rfl ?_
  refine SL.val (Val.assign rfl) rfl rfl ?_
  refine SL.nil (SE.seq ?_)
  refine SC.seq (SC.region ?_)
  refine SL.re [] Re.blkIn rfl ?_
  refine SL.val (Val.move rfl) rfl rfl ?_
  refine SL.val (Val.move rfl) rfl rfl ?_
  refine SL.val (Val.move rfl) rfl rfl ?_
  refine SL.val (Val.makeFunc rfl rfl) rfl rfl ?_
  refine SL.call (first_s (Ch := blkP b7 3 [int state]) (kH := 27) (capsH := [ptr b7]) (hold := fun x => decide (x.state = state)) (name := name) (n := n) (h := h) he hr (by kernel_rfl) (fun x => Spec.rdP (when1_s (x := x))) hh hro hn) Casts.refl (by kernel_rfl) rfl rfl rfl ?_
  refine After.oneR (ys := (globs e1 e2)) rfl (by repeat first|assumption|exact m0|apply m1) (by intro y hy; simp only [globs, List.mem_cons, List.not_mem_nil, or_false] at hy; rcases hy with rfl | rfl | rfl <;> exact ⟨by repeat first|assumption|exact m0|apply m1, by intro h; cases h⟩) rfl (fun _ => rfl) ?_
  intro _
  refine ⟨_, (by repeat first|assumption|exact Upd.here|apply Upd.there), ?_⟩
  refine SL.val (Val.extract rfl rfl) rfl rfl ?_
  refine SL.val (Val.extract rfl rfl) rfl rfl ?_
  refine SL.val (Val.assign rfl) rfl rfl ?_
  refine SL.val (Val.assign rfl) rfl rfl ?_
  refine SL.nil (SE.seq ?_)
  refine SC.ret ?_
  refine SE.fin (rs := [.tmp 8, .tmp 9]) rfl (RV.tmp rfl (RV.tmp rfl RV.nil)) (()) (by repeat first|exact s0 _|exact s1 _|apply s2|apply s3) (by simp [It.rids]) ?_
  exact rfl
theorem over_s  : Spec Tryz.prog 30 [int state] [] (fun _ : Unit => []) (fun _ => boo (decide (5 ≤ state ∧ state ≤ 7))) := by
  refine spec_of Tryz.func30 rfl Tryz.ntmps30 rfl fun G w => ?_
  refine SC.seq (SC.region ?_)
  refine SL.val (Val.assign rfl) rfl rfl ?_
  refine SL.nil (SE.seq ?_)
  refine SC.seq (SC.region ?_)
  refine SL.val (Val.move rfl) rfl rfl ?_
  refine SL.val (Val.geI rfl rfl) rfl rfl ?_
  refine SL.val (Val.move rfl) rfl rfl ?_
  refine SL.bothP (t := 5) rfl ?_ ?_
  · intro hc5
    refine SL.val (Val.move rfl) rfl rfl ?_
    refine SL.val (Val.leI rfl rfl) rfl rfl ?_
    refine SL.val (Val.pickT rfl rfl) rfl rfl ?_
    refine SL.val (Val.assign rfl) rfl rfl ?_
    refine SL.nil (SE.seq ?_)
    refine SC.ret ?_
    refine SE.fin (rs := [.tmp 2]) rfl (RV.tmp rfl RV.nil) (()) (by repeat first|exact s0 _|exact s1 _|apply s2|apply s3) (by simp [It.rids]) ?_
    first
      | (refine congrArg (fun b => Abs.v (Value.bool b)) ?_; rw [decide_eq_decide]; omega)
      | (refine boo_dec0 fun h => ?_; omega)
  intro hc5
  iterate 2 refine SL.skip rfl rfl ?_
  refine SL.val (Val.pickF rfl rfl) rfl rfl ?_
  refine SL.val (Val.assign rfl) rfl rfl ?_
  refine SL.nil (SE.seq ?_)
  refine SC.ret ?_
  refine SE.fin (rs := [.tmp 2]) rfl (RV.tmp rfl RV.nil) (()) (by repeat first|exact s0 _|exact s1 _|apply s2|apply s3) (by simp [It.rids]) ?_
  first
    | (refine congrArg (fun b => Abs.v (Value.bool b)) ?_; rw [decide_eq_decide]; omega)
    | (refine boo_dec0 fun h => ?_; omega)
theorem took1_s  : Spec Tryz.prog 28 [.agg (ltrA x)] [] (fun _ : Unit => []) (fun _ => boo true) := by
  refine spec_of Tryz.func28 rfl Tryz.ntmps28 rfl fun G w => ?_
  refine SC.seq (SC.region ?_)
  refine SL.eff (Eff.boxA (cs := ltrA x) rfl) rfl rfl ?_
  rintro _ _ ⟨b1, rfl, rfl⟩
  refine SL.val (Val.assign rfl) rfl rfl ?_
  refine SL.nil (SE.seq ?_)
  refine SC.seq (SC.region ?_)
  refine SL.val (Val.assign rfl) rfl rfl ?_
  refine SL.nil (SE.seq ?_)
  refine SC.ret ?_
  refine SE.fin (rs := [.tmp 2]) rfl (RV.tmp rfl RV.nil) (()) (by repeat first|exact s0 _|exact s1 _|apply s2|apply s3) (by simp [It.rids]) ?_
  exact rfl
theorem took2_s  : Spec Tryz.prog 29 [.agg (ltrA x)] [] (fun _ : Unit => []) (fun _ => boo (decide (5 ≤ x.state ∧ x.state ≤ 7))) := by
  refine spec_of Tryz.func29 rfl Tryz.ntmps29 rfl fun G w => ?_
  refine SC.seq (SC.region ?_)
  refine SL.eff (Eff.boxA (cs := ltrA x) rfl) rfl rfl ?_
  rintro _ _ ⟨b1, rfl, rfl⟩
  refine SL.val (Val.assign rfl) rfl rfl ?_
  refine SL.nil (SE.seq ?_)
  refine SC.seq (SC.region ?_)
  refine SL.val (Val.fieldAddr tabOk rfl rfl rfl rfl rfl) rfl rfl ?_
  refine SL.val (Val.to (C := int x.state) (Val.load1 tabOk rfl rfl (by first|(apply Or.inl;(repeat first|assumption|exact m0|apply m1);done)|(apply Or.inr;(repeat first|assumption|exact m0|apply m1);done)) List.not_mem_nil (by rfl)) rfl) rfl rfl ?_
  refine SL.call (over_s (state := x.state)) Casts.refl (by kernel_rfl) rfl rfl rfl ?_
  refine After.pure (by repeat (first | exact Reads.nil | (refine Reads.blk ?_ ?_; focus ((repeat first|assumption|exact m0|apply m1); done)) | (refine Reads.rd ?_ ?_; focus ((repeat first|assumption|exact m0|apply m1); done)) | (refine Reads.pc ?_ ?_; focus ((repeat first|assumption|exact m0|apply m1); done)) | (refine Reads.rdpc ?_ ?_; focus ((repeat first|assumption|exact m0|apply m1); done)))) (fun _ => rfl) ?_
  intro _
  refine SL.val (Val.assign rfl) rfl rfl ?_
  refine SL.nil (SE.seq ?_)
  refine SC.ret ?_
  refine SE.fin (rs := [.tmp 2]) rfl (RV.tmp rfl RV.nil) (()) (by repeat first|exact s0 _|exact s1 _|apply s2|apply s3) (by simp [It.rids]) ?_
  exact rfl
def tookF (n : Int) (h : List (List Ent)) (name : ByteArray) : Int × Bool := if (firstF n h name (fun x => decide (5 ≤ x.state ∧ x.state ≤ 7))).2 = false then (0, false) else ((firstF n h name (fun x => decide (5 ≤ x.state ∧ x.state ≤ 7))).1 - (firstF n h name (fun _ => true)).1, true)
set_option maxHeartbeats 1000000 in
theorem took_s (he : isIf e1) (hr : isIf e2) (hh : HisIns h) (hro : ∀ b ∈ h, b.length ≤ 10) (hn : h.length ≤ 40) (ha : 0 ≤ (firstF n h name (fun _ => true)).1 ∧ (firstF n h name (fun _ => true)).1 ≤ 100000) (hb : 0 ≤ (firstF n h name (fun x => decide (5 ≤ x.state ∧ x.state ≤ 7))).1 ∧ (firstF n h name (fun x => decide (5 ≤ x.state ∧ x.state ≤ 7))).1 ≤ 100000) : Spec Tryz.prog 14 [histA h, int n, st name] (globs e1 e2) (fun _ : Unit => []) (fun _ => .tup [int (tookF n h name).1, boo (tookF n h name).2]) := by
  refine spec_of Tryz.func14 rfl Tryz.ntmps14 rfl fun G w => ?_
  refine SC.seq (SC.region ?_)
  refine SL.val (Val.assign rfl) rfl rfl ?_
  refine SL.val (Val.assign rfl) rfl rfl ?_
  refine SL.nil (SE.seq ?_)
  refine SC.seq (SC.region ?_)
  refine SL.re [] Re.empty rfl ?_
  refine SL.val (Val.move rfl) rfl rfl ?_
  refine SL.val (Val.move rfl) rfl rfl ?_
  refine SL.val (Val.move rfl) rfl rfl ?_
  refine SL.call (first_s (Ch := bigP []) (kH := 28) (capsH := []) (hold := fun _ => true) (name := name) (n := n) (h := h) he hr (by kernel_rfl) (fun x => Spec.rd0 (took1_s (x := x))) hh hro hn) Casts.refl (by kernel_rfl) rfl rfl rfl ?_
  refine After.oneR (ys := (globs e1 e2)) rfl (by repeat first|assumption|exact m0|apply m1) (by intro y hy; simp only [globs, List.mem_cons, List.not_mem_nil, or_false] at hy; rcases hy with rfl | rfl | rfl <;> exact ⟨by repeat first|assumption|exact m0|apply m1, by intro h; cases h⟩) rfl (fun _ => rfl) ?_
  intro _
  refine ⟨_, (by repeat first|assumption|exact Upd.here|apply Upd.there), ?_⟩
  refine SL.val (Val.move rfl) rfl rfl ?_
  refine SL.val (Val.extract rfl rfl) rfl rfl ?_
  refine SL.val (Val.extract rfl rfl) rfl rfl ?_
  refine SL.val (Val.assign rfl) rfl rfl ?_
  refine SL.val (Val.assign rfl) rfl rfl ?_
  refine SL.nil (SE.seq ?_)
  refine SC.seq (SC.region ?_)
  refine SL.val (Val.move rfl) rfl rfl ?_
  refine SL.val (Val.move rfl) rfl rfl ?_
  refine SL.val (Val.move rfl) rfl rfl ?_
  refine SL.call (first_s (Ch := bigP []) (kH := 29) (capsH := []) (hold := fun x => decide (5 ≤ x.state ∧ x.state ≤ 7)) (name := name) (n := n) (h := h) he hr (by kernel_rfl) (fun x => Spec.rd0 (took2_s (x := x))) hh hro hn) Casts.refl (by kernel_rfl) rfl rfl rfl ?_
  refine After.oneR (ys := (globs e1 e2)) rfl (by repeat first|assumption|exact m0|apply m1) (by intro y hy; simp only [globs, List.mem_cons, List.not_mem_nil, or_false] at hy; rcases hy with rfl | rfl | rfl <;> exact ⟨by repeat first|assumption|exact m0|apply m1, by intro h; cases h⟩) rfl (fun _ => rfl) ?_
  intro _
  refine ⟨_, (by repeat first|assumption|exact Upd.here|apply Upd.there), ?_⟩
  refine SL.val (Val.move rfl) rfl rfl ?_
  refine SL.val (Val.extract rfl rfl) rfl rfl ?_
  refine SL.val (Val.extract rfl rfl) rfl rfl ?_
  refine SL.val (Val.assign rfl) rfl rfl ?_
  refine SL.val (Val.assign rfl) rfl rfl ?_
  refine SL.nil (SE.seq ?_)
  refine SC.seq ?_
  refine SC.seq (SC.region ?_)
  refine SL.val (Val.move rfl) rfl rfl ?_
  refine SL.val (Val.notB rfl) rfl rfl ?_
  refine SL.nil (SE.seq ?_)
  refine SC.cond rfl ?_ ?_
  · intro hc27
    refine SC.seq (SC.region ?_)
    refine SL.val (Val.assign rfl) rfl rfl ?_
    refine SL.val (Val.assign rfl) rfl rfl ?_
    refine SL.nil (SE.seq ?_)
    refine SC.ret ?_
    refine SE.then_ (by intro h; cases h) ?_
    refine SE.fin (rs := [.tmp 6, .tmp 7]) rfl (RV.tmp rfl (RV.tmp rfl RV.nil)) (()) (by repeat first|exact s0 _|exact s1 _|apply s2|apply s3) (by simp [It.rids]) ?_
    unfold tookF
    first
      | (rw [if_pos (by simpa using hc27)]; rfl)
      | (rw [if_neg (by simpa using hc27)]; rfl)
  intro hc27
  refine SC.skip ?_
  refine SE.seq ?_
  refine SC.seq (SC.region ?_)
  refine SL.val (Val.move rfl) rfl rfl ?_
  refine SL.val (Val.move rfl) rfl rfl ?_
  first
    | refine SL.val (Val.subI rfl rfl (by simp only [InR, lo, hi]; omega)) rfl rfl ?_
    | refine SL.val (Val.subW rfl rfl) rfl rfl ?_
  refine SL.val (Val.assign rfl) rfl rfl ?_
  refine SL.val (Val.assign rfl) rfl rfl ?_
  refine SL.nil (SE.seq ?_)
  refine SC.ret ?_
  refine SE.fin (rs := [.tmp 6, .tmp 7]) rfl (RV.tmp rfl (RV.tmp rfl RV.nil)) (()) (by repeat first|exact s0 _|exact s1 _|apply s2|apply s3) (by simp [It.rids]) ?_
  unfold tookF
  first
    | (rw [if_pos (by simpa using hc27)]; rfl)
    | (rw [if_neg (by simpa using hc27)]; rfl)
theorem i64_in {a : Int} (h : i64ok a) : intOk a := h
set_option maxHeartbeats 1000000 in
theorem refused1_s {b i : Nat} (hc : CntI i sm) (hi9 : i ≤ 400) (hv : EvIns ev) : Spec Tryz.prog 25 [.agg ev.abs, st nm, ptr p] [.blk p 30 [mapV b], .pc (mapPc b intK cntV intOk sm)] (fun _ : Unit => [.blk p 30 [mapV b], .pc (mapPc b intK cntV intOk (entRe sm ev nm))]) (fun _ => .tup []) := by
  have hk : intOk ev.result := i64_in hv.result
  have hck := hc ev.result
  refine spec_of Tryz.func25 rfl Tryz.ntmps25 rfl fun G w => ?_
  refine SC.seq (SC.region ?_)
  refine SL.eff (Eff.boxA (cs := ev.abs) rfl) rfl rfl ?_
  rintro _ _ ⟨b3, rfl, rfl⟩
  refine SL.nil (SE.seq ?_)
  refine SC.seq (SC.region ?_)
  refine SL.val (Val.fieldAddr tabOk rfl rfl rfl rfl rfl) rfl rfl ?_
  refine SL.val (Val.to (C := int ev.result) (Val.load1 tabOk rfl rfl (by first|(apply Or.inl;(repeat first|assumption|exact m0|apply m1);done)|(apply Or.inr;(repeat first|assumption|exact m0|apply m1);done)) List.not_mem_nil (by rfl)) rfl) rfl rfl ?_
  refine SL.val (Val.neI rfl rfl) rfl rfl ?_
  refine SL.nil (SE.seq ?_)
  refine SC.condP rfl ?_ ?_
  rotate_left
  · intro hc7
    refine SC.skip ?_
    have hen : entRe sm ev nm = sm := if_neg hc7
    refine SE.finN (rs := []) rfl RV.nil (()) (by rw [hen]; repeat (first | exact List.nil_sublist _ | exact List.Sublist.refl _ | apply List.Sublist.cons_cons | apply List.Sublist.cons)) (by simp [It.rids]) ?_
    exact rfl
  intro hc7
  refine SC.region ?_
  refine SL.val (Val.to (C := mapV b) (Val.load1 tabOk rfl rfl (by first|(apply Or.inl;(repeat first|assumption|exact m0|apply m1);done)|(apply Or.inr;(repeat first|assumption|exact m0|apply m1);done)) List.not_mem_nil (by rfl)) rfl) rfl rfl ?_
  refine SL.val (Val.fieldAddr tabOk rfl rfl rfl rfl rfl) rfl rfl ?_
  refine SL.val (Val.to (C := int ev.result) (Val.load1 tabOk rfl rfl (by first|(apply Or.inl;(repeat first|assumption|exact m0|apply m1);done)|(apply Or.inr;(repeat first|assumption|exact m0|apply m1);done)) List.not_mem_nil (by rfl)) rfl) rfl rfl ?_
  refine SL.val (Val.mapGet (a := ev.result) (zv := cntV 0) (C := int ((cg sm ev.result : Nat) : Int)) (int_fit Tryz.underlying32) Tryz.underlying30 zero_int rfl (by first|(apply Or.inl;(repeat first|assumption|exact m0|apply m1);done)|(apply Or.inr;(repeat first|assumption|exact m0|apply m1);done)) List.not_mem_nil rfl is_v hk cg_is) rfl rfl ?_
  refine SL.val (Val.to (C := int ((cg sm ev.result + 1 : Nat) : Int)) (Val.addI rfl rfl (by simp only [InR, lo, hi]; omega)) rfl) rfl rfl ?_
  refine SL.eff (Eff.mapPut (a := ev.result) (v := cg sm ev.result + 1) (m' := inc1 sm ev.result) (int_fit Tryz.underlying32) Tryz.underlying30 rfl (by repeat first|assumption|exact Upd.here|apply Upd.there) rfl is_v hk rfl is_v rfl) rfl rfl ?_
  rintro _ _ ⟨rfl, rfl⟩
  refine SL.nil ?_
  have hen : entRe sm ev nm = inc1 sm ev.result := if_pos hc7
  refine SE.finN (rs := []) rfl RV.nil (()) (by rw [hen]; repeat (first | exact List.nil_sublist _ | exact List.Sublist.refl _ | apply List.Sublist.cons_cons | apply List.Sublist.cons)) (by simp [It.rids]) ?_
  exact rfl
set_option maxHeartbeats 1000000 in
theorem refused_s (he : isIf e1) (hr : isIf e2) (hh : HisIns h) (hro : ∀ b ∈ h, b.length ≤ 10) (hn : h.length ≤ 40) : Spec Tryz.prog 11 [histA h, int n] (globs e1 e2) (fun b : Nat => [.pc (mapPc b intK cntV intOk (refF n h))]) (fun b => mapV b) := by
  refine spec_of Tryz.func11 rfl Tryz.ntmps11 rfl fun G w => ?_
  refine SC.seq (SC.region ?_)
  refine SL.val (Val.assign rfl) rfl rfl ?_
  refine SL.nil (SE.seq ?_)
  refine SC.seq (SC.region ?_)
  refine SL.eff (Eff.makeMap intK cntV intOk (fun ac w => by simp [execOp, Instr.makeMap, newObj, Sem.run, Sem.run_bind, Result.andThen])) rfl rfl ?_
  rintro _ _ ⟨m6, rfl, rfl⟩
  refine SL.eff (Eff.alloc tabOk rfl) rfl rfl ?_
  rintro _ _ ⟨b5, rfl, rfl⟩
  refine SL.eff (Eff.store tabOk rfl rfl rfl (by repeat first|assumption|exact Upd.here|apply Upd.there) (by rfl) (Nat.le_of_ble_eq_true (by rfl)) (by rfl) (by rfl)) rfl rfl ?_
  rintro _ _ ⟨rfl, rfl⟩
  refine SL.nil (SE.seq ?_)
  refine SC.seq (SC.region ?_)
  refine SL.re [] (Re.bigIn (xs := [_, _]) rfl) rfl ?_
  refine SL.val (Val.move rfl) rfl rfl ?_
  refine SL.val (Val.move rfl) rfl rfl ?_
  refine SL.val (Val.makeFunc rfl rfl) rfl rfl ?_
  refine SL.call (tfold_s (C := fun s (_ : Unit) => cMp 30 b5 m6 s) (entS := entRe) (batS := goOn) (Inv := fun i _ s => CntI i s) (k1 := 25) (k2 := 24) (caps1 := [ptr b5]) (caps2 := []) (s0 := []) (v0 := ()) (n := n) (h := h) he hr (by kernel_rfl) (by kernel_rfl) (fun i j s v ev nm hs hi9 hv => Spec.big (refused1_s (sm := s) (b := m6) hs hi9 hv) rfl (fun _ => rfl)) (fun i j s ev nm hs => by show CntI (i + 1) (entRe s ev nm); unfold entRe; split; exact inc1_i hs _; exact hs.more) (fun i j s v q l _ _ _ _ _ _ _ => Spec.stay (all_s (qq := q) (l := l))) (fun i j s q l hs _ => hs) (fun k => Nat.le_refl 0) hh hro hn) Casts.refl (by kernel_rfl) rfl rfl rfl ?_
  refine After.oneR (ys := (globs e1 e2)) rfl (by repeat first|assumption|exact m0|apply m1) (by intro y hy; simp only [globs, List.mem_cons, List.not_mem_nil, or_false] at hy; rcases hy with rfl | rfl | rfl <;> exact ⟨by repeat first|assumption|exact m0|apply m1, by intro h; cases h⟩) rfl (fun _ => rfl) ?_
  intro r10
  refine ⟨_, (by repeat first|assumption|exact Upd.here|apply Upd.there), ?_⟩
  rw [show foldS n entRe goOn 0 [] Lg.zero h = refF n h from foldS_all (batS := goOn) (fun _ _ _ => rfl) _ _ _ _]
  refine SL.re [] (Re.bigOut rfl) rfl ?_
  refine SL.nil (SE.seq ?_)
  refine SC.seq (SC.region ?_)
  refine SL.val (Val.to (C := mapV m6) (Val.load1 tabOk rfl rfl (by first|(apply Or.inl;(repeat first|assumption|exact m0|apply m1);done)|(apply Or.inr;(repeat first|assumption|exact m0|apply m1);done)) List.not_mem_nil (by rfl)) rfl) rfl rfl ?_
  refine SL.val (Val.assign rfl) rfl rfl ?_
  refine SL.nil (SE.seq ?_)
  refine SC.ret ?_
  refine SE.fin (rs := [.tmp 4]) rfl (RV.tmp rfl RV.nil) (m6) (by repeat first|exact s0 _|exact s1 _|apply s2|apply s3) (by simp [It.rids]) ?_
  exact rfl
end
end Go.Proofs.YtnedfcaoggkmnaaGreatDoor.A
/-
  The document's timelines.
-/
set_option maxRecDepth 100000
set_option linter.unusedSimpArgs false
set_option linter.unusedVariables false
namespace Go.Proofs.YtnedfcaoggkmnaaGreatDoor.A
open Go.RowKit

section
variable {name : ByteArray} {n state : Int} {l : Lg} {h : List (List Ent)} {x : Ltr}
end
end Go.Proofs.YtnedfcaoggkmnaaGreatDoor.A
/-
  Timelines, plain: first numbers, states, names, steps, counts.
-/
set_option maxRecDepth 100000
set_option linter.unusedSimpArgs false
set_option linter.unusedVariables false
namespace Go.Proofs.YtnedfcaoggkmnaaGreatDoor.A
open Go.RowKit

section
variable {l : Lg} {e : Ent} {n : Int} {s name : ByteArray} {h : List (List Ent)} {hold : Ltr → Bool}
/-! ### Entries -/
theorem doF_put (hr : (l.doF e n).2 = 0) : (l.doF e n).1.ls = (l.putL (nextL (l.old e.core.letter) e.core)).ls ∧ ltrNext (l.old e.core.letter).state e.core.op ≠ 0 ∧ (nextL (l.old e.core.letter) e.core).state = ltrNext (l.old e.core.letter).state e.core.op := by
  obtain ⟨_, _, _, _, h5, h6⟩ := doF_ok hr
  obtain ⟨g1, g2, g3, g4⟩ := stepped_ok h5
  obtain ⟨k1, k2, k3, k4⟩ := step_ok g1
  refine ⟨?_, k2, ?_⟩
  · rw [h6]
    show ((l.stepped (l.old e.core.letter) e.core).1).ls = _
    rw [g3]
    split <;> rfl
  · show (Ltr.step _ _ _ _ _).1.state = _
    rw [k4]
theorem find_of_ls {l m : Lg} (h : l.ls = m.ls) (s : ByteArray) : l.find s = m.find s := by unfold Lg.find; rw [h]
theorem old_of_ls {l m : Lg} (h : l.ls = m.ls) (s : ByteArray) : l.old s = m.old s := by unfold Lg.old; rw [find_of_ls h]
theorem doF_states (h : l.states) : (l.doF e n).1.states := by
  by_cases hr : (l.doF e n).2 = 0
  · obtain ⟨h1, h2, h3⟩ := doF_put hr
    intro y hy
    rw [h1] at hy
    rcases withG_mem hy with rfl | hy
    · rw [h3]
      exact (next_from h2).2.2.1
    · exact h y hy
  · intro y hy
    rw [(doF_err hr).2] at hy
    exact h y hy
theorem goes_states : ∀ {l : Lg} (es : List Ent), l.states → (Lg.goes n l es).1.states
  | l, [], h => h
  | l, e :: es, h => goes_states es (doF_states h)
theorem ldgAt_states : ∀ {l : Lg} (h : List (List Ent)), l.states → (ldgAt n l h).states
  | l, [], hl => hl
  | l, b :: h, hl => ldgAt_states (l := (l.foldF b n).1) h (goes_states b hl)
theorem zero_states : Lg.zero.states := fun x hx => by cases hx
/-! ### Ledgers of the program, and of the document -/
def rdgAt (n : Int) (l : Lg) (h : List (List Ent)) : Lg := h.foldl (fun l b => lgB n l b) l
theorem ldgAt_at : ∀ (h : List (List Ent)) (l : Lg) (s : Int), ∃ s', ldgAt n (l.at_ s) h = (rdgAt n l h).at_ s'
  | [], l, s => ⟨s, rfl⟩
  | b :: h, l, s => by
    obtain ⟨s', hs⟩ := ldgAt_at h (lgB n l b) ((Lg.goes n (l.at_ s) b).1.seq + 1)
    refine ⟨s', ?_⟩
    rw [rdgAt, List.foldl_cons]
    rw [rdgAt] at hs
    rw [← hs, ldgAt, List.foldl_cons]
    show List.foldl _ _ h = List.foldl _ _ h
    congr 1
    show ({ (Lg.goes n (l.at_ s) b).1 with seq := (Lg.goes n (l.at_ s) b).1.seq + 1 } : Lg) = _
    rw [goes_at]
    rfl
theorem ldgAt_ls (l : Lg) (h : List (List Ent)) : (ldgAt n l h).ls = (rdgAt n l h).ls := by
  obtain ⟨s', hs⟩ := ldgAt_at (n := n) h l l.seq
  have h1 : l.at_ l.seq = l := rfl
  rw [h1] at hs
  rw [hs]
  rfl
/-- Whether something holds of a letter. -/
def hitL (name : ByteArray) (hold : Ltr → Bool) (l : Lg) : Bool := (l.find name).isSome && hold (l.old name)
theorem hitL_ls {l m : Lg} (h : l.ls = m.ls) : hitL name hold l = hitL name hold m := by
  unfold hitL
  rw [find_of_ls h, old_of_ls h]
theorem batFi_hit (hh : hitL name hold l = true) (q : Int) : batFi name hold (0, false) q l = ((q, true), false) := if_pos (by simpa [hitL] using hh)
theorem batFi_no (hh : hitL name hold l = false) (q : Int) : batFi name hold (0, false) q l = ((0, false), true) := by
  have h1 : ¬ ((l.find name).isSome = true ∧ hold (l.old name) = true) := fun h1 => by
    unfold hitL at hh
    rw [h1.1, h1.2] at hh
    cases hh
  unfold batFi
  rw [if_neg h1]
  rfl
theorem first_hit : ∀ (h : List (List Ent)) (i : Nat) (l : Lg) (z : Nat), z < h.length → (∀ j, j < z → hitL name hold (rdgAt n l (h.take (j + 1))) = false) → hitL name hold (rdgAt n l (h.take (z + 1))) = true → foldS n quietS (batFi name hold) i (0, false) l h = ((i : Int) + z + 1, true)
  | [], _, _, z, hz, _, _ => by simp at hz
  | b :: h, i, l, z, hz, hn, hh => by
    rw [foldS, rowS_quiet (entS := quietS) (fun _ _ _ => rfl)]
    cases z with
    | zero =>
      have hh : hitL name hold (lgB n l b) = true := hh
      rw [batFi_hit hh, if_neg (fun h => by cases h)]
      show ((i : Int) + 1, true) = ((i : Int) + 0 + 1, true)
      rw [Int.add_zero]
    | succ z =>
      have h0 : hitL name hold (lgB n l b) = false := hn 0 (by omega)
      rw [batFi_no h0, if_pos rfl]
      have := first_hit h (i + 1) (lgB n l b) z (by simpa using hz) (fun j hj => hn (j + 1) (by omega)) hh
      rw [this]
      refine Prod.ext ?_ rfl
      show ((i + 1 : Nat) : Int) + z + 1 = (i : Int) + ((z + 1 : Nat) : Int) + 1
      omega
theorem first_no : ∀ (h : List (List Ent)) (i : Nat) (l : Lg), (∀ j, j < h.length → hitL name hold (rdgAt n l (h.take (j + 1))) = false) → foldS n quietS (batFi name hold) i (0, false) l h = (0, false)
  | [], _, _, _ => rfl
  | b :: h, i, l, hn => by
    have h0 : hitL name hold (lgB n l b) = false := hn 0 (by simp)
    rw [foldS, rowS_quiet (entS := quietS) (fun _ _ _ => rfl), batFi_no h0, if_pos rfl]
    exact first_no h (i + 1) (lgB n l b) (fun j hj => hn (j + 1) (by simpa using hj))
theorem first_bd : ∀ (h : List (List Ent)) (i : Nat) (l : Lg), 0 ≤ (foldS n quietS (batFi name hold) i (0, false) l h).1 ∧ (foldS n quietS (batFi name hold) i (0, false) l h).1 ≤ (i : Int) + h.length
  | [], i, _ => ⟨Int.le_refl _, by show (0 : Int) ≤ _; omega⟩
  | b :: h, i, l => by
    rw [foldS, rowS_quiet (entS := quietS) (fun _ _ _ => rfl), List.length_cons]
    cases hb : hitL name hold (lgB n l b) with
    | true =>
      rw [batFi_hit hb, if_neg (fun h => by cases h)]
      show 0 ≤ (i : Int) + 1 ∧ (i : Int) + 1 ≤ _
      omega
    | false =>
      rw [batFi_no hb, if_pos rfl]
      have h9 := first_bd h (i + 1) (lgB n l b)
      dsimp only
      omega
/-- Whether it holds behind so many batches. -/
def hitD (n : Int) (h : List (List Ent)) (name : ByteArray) (hold : Ltr → Bool) (j : Nat) : Bool := hitL name hold (ldgAt n Lg.zero (h.take j))
theorem hitD_r (j : Nat) : hitD n h name hold j = hitL name hold (rdgAt n Lg.zero (h.take j)) := hitL_ls (ldgAt_ls _ _)
theorem hitD_zero : hitD n h name hold 0 = false := rfl
theorem firstF_hit {z : Nat} (hz : z ≤ h.length) (hn : ∀ j, j < z → hitD n h name hold j = false) (hh : hitD n h name hold z = true) : firstF n h name hold = ((z : Int), true) := by
  cases z with
  | zero => rw [hitD_zero] at hh; cases hh
  | succ z =>
    unfold firstF
    rw [first_hit h 0 Lg.zero z (by omega) (fun j hj => by rw [← hitD_r]; exact hn (j + 1) (by omega)) (by rw [← hitD_r]; exact hh)]
    refine Prod.ext ?_ rfl
    show ((0 : Nat) : Int) + z + 1 = ((z + 1 : Nat) : Int)
    omega
theorem firstF_no (hn : ∀ j, j ≤ h.length → hitD n h name hold j = false) : firstF n h name hold = (0, false) := first_no h 0 Lg.zero (fun j hj => by rw [← hitD_r]; exact hn (j + 1) (by omega))
theorem firstF_bd : 0 ≤ (firstF n h name hold).1 ∧ (firstF n h name hold).1 ≤ h.length := by
  have := first_bd (n := n) (name := name) (hold := hold) h 0 Lg.zero
  unfold firstF
  omega
theorem ldgs_get {n : Int} : ∀ {l : Lg} {h : List (List Ent)} {z : Nat} (hz : z < (ldgs n l h).length), (ldgs n l h)[z] = ldgAt n l (h.take z)
  | l, [], 0, hz => rfl
  | l, [], z + 1, hz => by simp [ldgs] at hz
  | l, b :: h, 0, hz => rfl
  | l, b :: h, z + 1, hz => ldgs_get (l := (l.foldF b n).1) (h := h) (z := z) (by simpa [ldgs] using hz)
theorem hitD_at {z : Nat} (hz : z < (ldgs n Lg.zero h).length) : hitD n h name hold z = (((ldgs n Lg.zero h)[z].find name).isSome && hold ((ldgs n Lg.zero h)[z].old name)) := by
  rw [ldgs_get hz]
  rfl
theorem over_eq {z : Nat} : hitD n h name (fun x => decide (5 ≤ x.state ∧ x.state ≤ 7)) z = hitD n h name (fun x => decide (5 ≤ x.state)) z := by
  unfold hitD hitL
  have h1 := ldgAt_states (n := n) (h.take z) zero_states
  cases hf : (ldgAt n Lg.zero (h.take z)).find name with
  | none => rfl
  | some y =>
    have h2 := h1 y (find_some hf).1
    have h3 : (ldgAt n Lg.zero (h.take z)).old name = y := by unfold Lg.old; rw [hf]; rfl
    rw [h3, Bool.eq_iff_iff]
    simp only [Option.isSome_some, Bool.true_and, decide_eq_true_eq]
    omega
/-- The first one so far. -/
def FirstI (f : Nat → Bool) (s z : Nat) : Prop := (s = 0 ∧ ∀ j, j < z → f j = false) ∨ (s < z ∧ (∀ j, j < s → f j = false) ∧ f s = true)
theorem FirstI.no {f : Nat → Bool} {s z : Nat} (h : FirstI f s z) (hf : f z = false) : FirstI f s (z + 1) := by
  rcases h with ⟨h1, h2⟩ | ⟨h1, h2, h3⟩
  · refine .inl ⟨h1, fun j hj => ?_⟩
    rcases Nat.lt_or_ge j z with h3 | h3
    · exact h2 j h3
    · obtain rfl : j = z := by omega
      exact hf
  · exact .inr ⟨by omega, h2, h3⟩
theorem FirstI.new {f : Nat → Bool} {s z : Nat} (h : FirstI f s z) (h0 : s = 0) (h1 : f 0 = false) (hf : f z = true) : FirstI f z (z + 1) := by
  rcases h with ⟨_, h2⟩ | ⟨_, _, h3⟩
  · exact .inr ⟨by omega, h2, hf⟩
  · rw [h0, h1] at h3; cases h3
theorem FirstI.old {f : Nat → Bool} {s z : Nat} (h : FirstI f s z) (h0 : s ≠ 0) : FirstI f s (z + 1) := by
  rcases h with ⟨h1, _⟩ | ⟨h1, h2, h3⟩
  · exact absurd h1 h0
  · exact .inr ⟨by omega, h2, h3⟩
theorem tookF_hit {s z : Nat} (h1 : FirstI (hitD n h name (fun _ => true)) s (z + 1)) (h2 : hitD n h name (fun x => decide (5 ≤ x.state)) z = true) (h3 : ∀ j, j < z → hitD n h name (fun x => decide (5 ≤ x.state)) j = false) (hz : z ≤ h.length) : tookF n h name = ((z : Int) - s, true) := by
  have hB : firstF n h name (fun x => decide (5 ≤ x.state ∧ x.state ≤ 7)) = ((z : Int), true) := firstF_hit hz (fun j hj => by rw [over_eq]; exact h3 j hj) (by rw [over_eq]; exact h2)
  have hf : hitD n h name (fun _ => true) z = true := by
    unfold hitD hitL at h2 ⊢
    rw [Bool.and_eq_true] at h2 ⊢
    exact ⟨h2.1, rfl⟩
  have hA : firstF n h name (fun _ => true) = ((s : Int), true) := by
    rcases h1 with ⟨_, g2⟩ | ⟨g1, g2, g3⟩
    · rw [g2 z (by omega)] at hf; cases hf
    · exact firstF_hit (by omega) g2 g3
  unfold tookF
  rw [hB, hA, if_neg (fun h => by cases h)]
theorem tookF_no (h3 : ∀ j, j ≤ h.length → hitD n h name (fun x => decide (5 ≤ x.state)) j = false) : tookF n h name = (0, false) := by
  unfold tookF
  rw [firstF_no (hold := fun x => decide (5 ≤ x.state ∧ x.state ≤ 7)) (fun j hj => by rw [over_eq]; exact h3 j hj), if_pos rfl]
/-! ### Names -/
theorem foldS_names : ∀ (h : List (List Ent)) (i : Nat) (l : Lg) (m : Nat), m = i + h.length → h ≠ [] → ∀ s, foldS n quietS (batNm m) i s l h = s ++ (rdgAt n l h).ls.map (·.name)
  | [], _, _, _, _, hn, _ => absurd rfl hn
  | b :: h, i, l, m, hm, _, s => by
    rw [foldS, rowS_quiet (entS := quietS) (fun _ _ _ => rfl)]
    rw [List.length_cons] at hm
    cases h with
    | nil =>
      have h1 : batNm m s ((i : Int) + 1) (lgB n l b) = (s ++ (lgB n l b).ls.map (·.name), true) := by
        unfold batNm
        rw [if_pos (by simp at hm; omega)]
      rw [h1, if_pos rfl]
      rfl
    | cons c h =>
      have h1 : batNm m s ((i : Int) + 1) (lgB n l b) = (s, true) := by
        unfold batNm
        rw [if_neg (by simp at hm; omega)]
      rw [h1, if_pos rfl]
      exact foldS_names (c :: h) (i + 1) (lgB n l b) m (by rw [hm]; simp; omega) (by simp) s
theorem names_eq : foldS n quietS (batNm h.length) 0 [] Lg.zero h = (ldgAt n Lg.zero h).ls.map (·.name) := by
  rw [ldgAt_ls]
  cases h with
  | nil => rfl
  | cons b h => rw [foldS_names (b :: h) 0 Lg.zero _ (by omega) (by simp), List.nil_append]
/-! ### Steps -/
end
/-! ### Events as they come in -/
section
variable {m : List (Int × Nat)} {k : Int}
theorem cg_put (x : Nat) (j : Int) : cg (aput m k x) j = if j = k then x else cg m j := by
  unfold cg
  rw [aget_putE]
  split <;> rfl
/-- How many come to this. -/
def nRe (P : List (Ev × ByteArray)) (k : Int) : Nat := (P.filter fun p => decide (p.1.result ≠ 0 ∧ p.1.result = k)).length
theorem nRe_cons (p : Ev × ByteArray) (P : List (Ev × ByteArray)) (k : Int) : nRe (p :: P) k = (if p.1.result ≠ 0 ∧ p.1.result = k then 1 else 0) + nRe P k := by
  unfold nRe
  by_cases h : p.1.result ≠ 0 ∧ p.1.result = k
  · rw [if_pos h, List.filter_cons_of_pos (by simpa using h), List.length_cons, Nat.add_comm]
  · rw [if_neg h, List.filter_cons_of_neg (by simpa using h), Nat.zero_add]
theorem nRe_step {P : List (Ev × ByteArray)} {z : Nat} (hz : z < P.length) (k : Int) : nRe (P.drop z) k = (if P[z].1.result ≠ 0 ∧ P[z].1.result = k then 1 else 0) + nRe (P.drop (z + 1)) k := by
  rw [List.drop_eq_getElem_cons hz, nRe_cons]
/-- One less. -/
def dec1 (m : List (Int × Nat)) (k : Int) : List (Int × Nat) := aput m k (cg m k - 1)
theorem dec1_nodup (hn : (m.map (·.1)).Nodup) (k : Int) : ((dec1 m k).map (·.1)).Nodup := aput_nodup hn k _
theorem dec1_cg (j : Int) : cg (dec1 m k) j = if j = k then cg m k - 1 else cg m j := cg_put _ _
/-- A row of counts that is gone down, and what is still to come. -/
structure Left (M : List (Int × Nat)) (f : Int → Nat) : Prop where
  nd : (M.map (·.1)).Nodup
  eq_ : ∀ k, cg M k = f k
theorem Left.put {M : List (Int × Nat)} {P : List (Ev × ByteArray)} {z : Nat} (hz : z < P.length) (h : Left M (nRe (P.drop z))) (hr : P[z].1.result ≠ 0) : Left (dec1 M P[z].1.result) (nRe (P.drop (z + 1))) ∧ 1 ≤ cg M P[z].1.result := by
  have h1 := h.eq_ P[z].1.result
  rw [nRe_step hz, if_pos ⟨hr, rfl⟩] at h1
  refine ⟨⟨dec1_nodup h.nd _, fun k => ?_⟩, by omega⟩
  rw [dec1_cg]
  by_cases hk : k = P[z].1.result
  · subst hk
    rw [if_pos rfl]
    omega
  · have h2 := h.eq_ k
    rw [nRe_step hz, if_neg (fun h => hk h.2.symm)] at h2
    rw [if_neg hk]
    omega
theorem Left.stay {M : List (Int × Nat)} {P : List (Ev × ByteArray)} {z : Nat} (hz : z < P.length) (h : Left M (nRe (P.drop z))) (hr : ¬ P[z].1.result ≠ 0) : Left M (nRe (P.drop (z + 1))) := ⟨h.nd, fun k => by
  have h2 := h.eq_ k
  rw [nRe_step hz, if_neg (fun h => hr h.1)] at h2
  omega⟩
variable {n : Int} {h : List (List Ent)}
end
end Go.Proofs.YtnedfcaoggkmnaaGreatDoor.A
/-
  The document's timelines: when, how long.
-/
set_option maxRecDepth 100000
set_option linter.unusedSimpArgs false
set_option linter.unusedVariables false
namespace Go.Proofs.YtnedfcaoggkmnaaGreatDoor.A
open Go.RowKit

section
variable {name : ByteArray} {n state : Int} {l : Lg} {h : List (List Ent)} {x : Ltr} {e1 e2 : Value}
set_option maxHeartbeats 2000000 in
theorem few42_s  : Spec Tryz.prog 8 [histA h] [] (fun _ : Unit => []) (fun _ => boo (decide (FewH h))) := by
  refine spec_of Tryz.func8 rfl Tryz.ntmps8 rfl fun G w => ?_
  refine SC.seq (SC.region ?_)
  refine SL.val (Val.assign rfl) rfl rfl ?_
  refine SL.nil (SE.seq ?_)
  refine SC.seq ?_
  refine SC.seq (SC.region ?_)
  refine SL.val (Val.move rfl) rfl rfl ?_
  first
    | refine SL.val (Val.lenSl rfl Tryz.underlying22 (List.length_map _)) rfl rfl ?_
    | refine SL.val (Val.lenOwn rfl (by repeat first|assumption|exact m0|apply m1) Tryz.underlying22 (List.length_map _)) rfl rfl ?_
    | refine SL.val (Val.lenNil rfl Tryz.underlying22) rfl rfl ?_
  refine SL.val (Val.move rfl) rfl rfl ?_
  refine SL.nil (SE.seq ?_)
  refine SC.block ?_
  refine SC.rowLe (i := 7) rfl fun hrow => ?_
  rw [List.length_map] at hrow
  unfold maxLen at hrow
  refine SC.loop (ι := Nat) (fun z => []) (fun z => [(0, histA h), (7, histA h), (8, int (h.length : Nat)), (9, int (z : Nat))]) (fun z => z ≤ h.length ∧ ∀ j (hj : j < h.length), j < z → (∀ i (hi : i < h[j].length), h[j][i].core.letter.size ≤ 30 ∧ h[j][i].core.text.size ≤ 210) ∧ h[j].length ≤ 10) (fun z => h.length - z) (0) (⟨Nat.zero_le _, fun j h h2 => by omega⟩) (by exact ⟨rfl, rfl, rfl, rfl, trivial⟩) (by repeat first|exact s0 _|exact s1 _|apply s2|apply s3) ?_
  intro z hz
  refine SC.seq (SC.region ?_)
  refine SL.val (Val.ltI rfl rfl) rfl rfl ?_
  refine SL.nil (SE.seq ?_)
  refine SC.seq ?_
  refine SC.condP rfl ?_ ?_
  rotate_left
  · intro hc10
    refine SC.exit ?_
    refine SE.then_ (by intro h; cases h) ?_
    refine SE.then_ (by intro h; cases h) ?_
    refine SE.exit ?_
    refine SE.seq ?_
    refine SC.seq (SC.region ?_)
    refine SL.val (Val.move rfl) rfl rfl ?_
    first
      | refine SL.val (Val.lenSl rfl Tryz.underlying22 (List.length_map _)) rfl rfl ?_
      | refine SL.val (Val.lenOwn rfl (by repeat first|assumption|exact m0|apply m1) Tryz.underlying22 (List.length_map _)) rfl rfl ?_
      | refine SL.val (Val.lenNil rfl Tryz.underlying22) rfl rfl ?_
    refine SL.val (Val.leI rfl rfl) rfl rfl ?_
    refine SL.val (Val.assign rfl) rfl rfl ?_
    refine SL.nil (SE.seq ?_)
    refine SC.ret ?_
    refine SE.fin (rs := [.tmp 2]) rfl (RV.tmp rfl RV.nil) (()) (by repeat first|exact s0 _|exact s1 _|apply s2|apply s3) (by simp [It.rids]) ?_
    refine congrArg (fun b => Abs.v (Value.bool b)) ?_
    rw [decide_eq_decide]
    exact ⟨fun h9 => ⟨fun j h1 => hz.2 j h1 (by omega), by omega⟩, fun h9 => by have := h9.len; omega⟩
  intro hc10
  have hzl : z < h.length := by omega
  refine SC.skip ?_
  refine SE.seq ?_
  refine SC.seq ?_
  refine SC.block ?_
  refine SC.seq (SC.region ?_)
  refine SL.val (Val.indexSl tabOk Tryz.underlying22 rfl rfl rfl rfl (at_map (by omega)) rfl rfl) rfl rfl ?_
  refine SL.val (Val.load1R tabOk rfl rfl rfl) rfl rfl ?_
  refine SL.val (Val.assign rfl) rfl rfl ?_
  refine SL.nil (SE.seq ?_)
  refine SC.seq ?_
  refine SC.seq (SC.region ?_)
  refine SL.val (Val.move rfl) rfl rfl ?_
  first
    | refine SL.val (Val.lenSl rfl Tryz.underlying59 (List.length_map _)) rfl rfl ?_
    | refine SL.val (Val.lenOwn rfl (by repeat first|assumption|exact m0|apply m1) Tryz.underlying59 (List.length_map _)) rfl rfl ?_
    | refine SL.val (Val.lenNil rfl Tryz.underlying59) rfl rfl ?_
  refine SL.val (Val.move rfl) rfl rfl ?_
  refine SL.nil (SE.seq ?_)
  refine SC.block ?_
  refine SC.rowLe (i := 13) rfl fun hro2 => ?_
  rw [List.length_map] at hro2
  unfold maxLen at hro2
  refine SC.loop (ι := Nat) (fun y => []) (fun y => [(0, histA h), (7, histA h), (8, int (h.length : Nat)), (9, int (z : Nat)), (4, entsR (h[z]'hzl)), (13, entsR (h[z]'hzl)), (14, int ((h[z]'hzl).length : Nat)), (15, int (y : Nat))]) (fun y => y ≤ (h[z]'hzl).length ∧ ∀ i (hi : i < (h[z]'hzl).length), i < y → (h[z]'hzl)[i].core.letter.size ≤ 30 ∧ (h[z]'hzl)[i].core.text.size ≤ 210) (fun y => (h[z]'hzl).length - y) (0) (⟨Nat.zero_le _, fun j h h2 => by omega⟩) (by exact ⟨rfl, rfl, rfl, rfl, rfl, rfl, rfl, rfl, trivial⟩) (by repeat first|exact s0 _|exact s1 _|apply s2|apply s3) ?_
  intro y hy
  refine SC.seq (SC.region ?_)
  refine SL.val (Val.ltI rfl rfl) rfl rfl ?_
  refine SL.nil (SE.seq ?_)
  refine SC.seq ?_
  refine SC.condP rfl ?_ ?_
  rotate_left
  · intro hc16
    refine SC.exit ?_
    refine SE.then_ (by intro h; cases h) ?_
    refine SE.then_ (by intro h; cases h) ?_
    refine SE.exit ?_
    refine SE.seq ?_
    refine SC.seq (SC.region ?_)
    refine SL.val (Val.move rfl) rfl rfl ?_
    first
      | refine SL.val (Val.lenSl rfl Tryz.underlying59 (List.length_map _)) rfl rfl ?_
      | refine SL.val (Val.lenOwn rfl (by repeat first|assumption|exact m0|apply m1) Tryz.underlying59 (List.length_map _)) rfl rfl ?_
      | refine SL.val (Val.lenNil rfl Tryz.underlying59) rfl rfl ?_
    refine SL.val (Val.gtI rfl rfl) rfl rfl ?_
    refine SL.nil (SE.seq ?_)
    refine SC.condP rfl ?_ ?_
    rotate_left
    · intro hc34
      refine SC.skip ?_
      refine SE.inBlock ?_
      refine SE.seq ?_
      refine SC.region ?_
      first
        | refine SL.val (Val.addI rfl rfl (by simp only [InR, lo, hi]; omega)) rfl rfl ?_
        | refine SL.val (Val.addW rfl rfl) rfl rfl ?_
      refine SL.val (Val.move rfl) rfl rfl ?_
      refine SL.nil ?_
      refine SE.round (z + 1) (by first | omega | (dsimp only; omega)) (⟨by omega, fun j h1 h2 => by rcases Nat.lt_or_ge j z with h3 | h3; exact hz.2 j h1 h3; obtain rfl : j = z := (by omega); exact ⟨fun i h4 => hy.2 i h4 (by omega), by omega⟩⟩) (by exact ⟨rfl, rfl, rfl, rfl, trivial⟩) (by repeat first|exact s0 _|exact s1 _|apply s2|apply s3)
    intro hc34
    refine SC.seq (SC.region ?_)
    refine SL.val (Val.assign rfl) rfl rfl ?_
    refine SL.nil (SE.seq ?_)
    refine SC.ret ?_
    refine SE.ret ?_
    refine SE.then_ (by intro h; cases h) ?_
    refine SE.then_ (by intro h; cases h) ?_
    refine SE.ret ?_
    refine SE.then_ (by intro h; cases h) ?_
    refine SE.fin (rs := [.tmp 2]) rfl (RV.tmp rfl RV.nil) (()) (by repeat first|exact s0 _|exact s1 _|apply s2|apply s3) (by simp [It.rids]) ?_
    refine boo_dec0 fun he => ?_
    have := (he.en z hzl).2
    omega
  intro hc16
  have hyl : y < (h[z]'hzl).length := by omega
  refine SC.skip ?_
  refine SE.seq ?_
  refine SC.seq ?_
  refine SC.block ?_
  refine SC.seq (SC.region ?_)
  refine SL.val (Val.indexSl tabOk Tryz.underlying59 rfl rfl rfl rfl (at_map (by omega)) rfl rfl) rfl rfl ?_
  refine SL.val (Val.loadAR tabOk rfl rfl rfl (by rfl)) rfl rfl ?_
  refine SL.eff (Eff.alloc tabOk rfl) rfl rfl ?_
  rintro _ _ ⟨b6, rfl, rfl⟩
  refine SL.eff (Eff.store (L' := entA ((h[z]'hzl)[y]'hyl)) tabOk rfl rfl rfl (by repeat first|assumption|exact Upd.here|apply Upd.there) rfl (Nat.le_of_ble_eq_true (by rfl)) rfl (by exact putL_whole rfl)) rfl rfl ?_
  rintro _ _ ⟨rfl, rfl⟩
  refine SL.nil (SE.seq ?_)
  refine SC.seq (SC.region ?_)
  refine SL.val (Val.fieldAddr tabOk rfl rfl rfl rfl rfl) rfl rfl ?_
  refine SL.val (Val.fieldAddr tabOk rfl rfl rfl rfl rfl) rfl rfl ?_
  refine SL.val (Val.to (C := st ((h[z]'hzl)[y]'hyl).core.letter) (Val.load1 tabOk rfl rfl (by first|(apply Or.inl;(repeat first|assumption|exact m0|apply m1);done)|(apply Or.inr;(repeat first|assumption|exact m0|apply m1);done)) List.not_mem_nil (by rfl)) rfl) rfl rfl ?_
  refine SL.val (Val.lenSt rfl Tryz.underlying9) rfl rfl ?_
  refine SL.val (Val.gtI rfl rfl) rfl rfl ?_
  refine SL.val (Val.move rfl) rfl rfl ?_
  refine SL.bothP (t := 24) rfl ?_ ?_
  · intro hc24
    iterate 5 refine SL.skip rfl rfl ?_
    refine SL.val (Val.pickT rfl rfl) rfl rfl ?_
    refine SL.nil (SE.seq ?_)
    refine SC.condT rfl ?_
    refine SC.seq (SC.region ?_)
    refine SL.val (Val.assign rfl) rfl rfl ?_
    refine SL.nil (SE.seq ?_)
    refine SC.ret ?_
    refine SE.ret ?_
    refine SE.then_ (by intro h; cases h) ?_
    refine SE.then_ (by intro h; cases h) ?_
    refine SE.ret ?_
    refine SE.then_ (by intro h; cases h) ?_
    refine SE.ret ?_
    refine SE.then_ (by intro h; cases h) ?_
    refine SE.then_ (by intro h; cases h) ?_
    refine SE.ret ?_
    refine SE.then_ (by intro h; cases h) ?_
    refine SE.fin (rs := [.tmp 2]) rfl (RV.tmp rfl RV.nil) (()) (by repeat first|exact s0 _|exact s1 _|apply s2|apply s3) (by simp [It.rids]) ?_
    refine boo_dec0 fun he => ?_
    have := (he.en z hzl).1 y hyl
    omega
  intro hc24
  refine SL.val (Val.fieldAddr tabOk rfl rfl rfl rfl rfl) rfl rfl ?_
  refine SL.val (Val.fieldAddr tabOk rfl rfl rfl rfl rfl) rfl rfl ?_
  refine SL.val (Val.to (C := st ((h[z]'hzl)[y]'hyl).core.text) (Val.load1 tabOk rfl rfl (by first|(apply Or.inl;(repeat first|assumption|exact m0|apply m1);done)|(apply Or.inr;(repeat first|assumption|exact m0|apply m1);done)) List.not_mem_nil (by rfl)) rfl) rfl rfl ?_
  refine SL.val (Val.lenSt rfl Tryz.underlying9) rfl rfl ?_
  refine SL.val (Val.gtI rfl rfl) rfl rfl ?_
  refine SL.val (Val.pickF rfl rfl) rfl rfl ?_
  refine SL.nil (SE.seq ?_)
  refine SC.condP rfl ?_ ?_
  rotate_left
  · intro hc30
    refine SC.skip ?_
    refine SE.inBlock ?_
    refine SE.seq ?_
    refine SC.region ?_
    first
      | refine SL.val (Val.addI rfl rfl (by simp only [InR, lo, hi]; omega)) rfl rfl ?_
      | refine SL.val (Val.addW rfl rfl) rfl rfl ?_
    refine SL.val (Val.move rfl) rfl rfl ?_
    refine SL.nil ?_
    refine SE.round (y + 1) (by first | omega | (dsimp only; omega)) (⟨by omega, fun j h1 h2 => by rcases Nat.lt_or_ge j y with h3 | h3; exact hy.2 j h1 h3; obtain rfl : j = y := (by omega); omega⟩) (by exact ⟨rfl, rfl, rfl, rfl, rfl, rfl, rfl, rfl, trivial⟩) (by repeat first|exact s0 _|exact s1 _|apply s2|apply s3)
  intro hc30
  refine SC.seq (SC.region ?_)
  refine SL.val (Val.assign rfl) rfl rfl ?_
  refine SL.nil (SE.seq ?_)
  refine SC.ret ?_
  refine SE.ret ?_
  refine SE.then_ (by intro h; cases h) ?_
  refine SE.then_ (by intro h; cases h) ?_
  refine SE.ret ?_
  refine SE.then_ (by intro h; cases h) ?_
  refine SE.ret ?_
  refine SE.then_ (by intro h; cases h) ?_
  refine SE.then_ (by intro h; cases h) ?_
  refine SE.ret ?_
  refine SE.then_ (by intro h; cases h) ?_
  refine SE.fin (rs := [.tmp 2]) rfl (RV.tmp rfl RV.nil) (()) (by repeat first|exact s0 _|exact s1 _|apply s2|apply s3) (by simp [It.rids]) ?_
  refine boo_dec0 fun he => ?_
  have := (he.en z hzl).1 y hyl
  omega
set_option maxHeartbeats 2000000 in
theorem rwhen_s (hh : HisIns h) (hro : ∀ b ∈ h, b.length ≤ 10) (hn : h.length ≤ 40) (hss : ∀ b ∈ h, ∀ e ∈ b, e.core.letter.size ≤ lots) : Spec Tryz.prog 13 [histA h, int n, st name, int state] [] (fun _ : Unit => []) (fun _ => .tup [int (firstF n h name (fun x => decide (x.state = state))).1, boo (firstF n h name (fun x => decide (x.state = state))).2]) := by
  have hll := ldgs_len n Lg.zero h
  refine spec_of Tryz.func13 rfl Tryz.ntmps13 rfl fun G w => ?_
  refine SC.seq (SC.region ?_)
  refine SL.val (Val.assign rfl) rfl rfl ?_
  refine SL.val (Val.assign rfl) rfl rfl ?_
  refine SL.nil (SE.seq ?_)
  refine SC.seq ?_
  refine SC.seq (SC.region ?_)
  refine SL.val (Val.move rfl) rfl rfl ?_
  refine SL.val (Val.move rfl) rfl rfl ?_
  refine SL.call (rledgers_s hh hro hss hn) Casts.refl (by kernel_rfl) rfl rfl rfl ?_
  refine After.pure (by repeat (first | exact Reads.nil | (refine Reads.blk ?_ ?_; focus ((repeat first|assumption|exact m0|apply m1); done)) | (refine Reads.rd ?_ ?_; focus ((repeat first|assumption|exact m0|apply m1); done)) | (refine Reads.pc ?_ ?_; focus ((repeat first|assumption|exact m0|apply m1); done)) | (refine Reads.rdpc ?_ ?_; focus ((repeat first|assumption|exact m0|apply m1); done)))) (fun _ => rfl) ?_
  intro _
  first
    | refine SL.val (Val.lenSl rfl Tryz.underlying39 (List.length_map _)) rfl rfl ?_
    | refine SL.val (Val.lenOwn rfl (by repeat first|assumption|exact m0|apply m1) Tryz.underlying39 (List.length_map _)) rfl rfl ?_
    | refine SL.val (Val.lenNil rfl Tryz.underlying39) rfl rfl ?_
  refine SL.val (Val.move rfl) rfl rfl ?_
  refine SL.nil (SE.seq ?_)
  refine SC.block ?_
  refine SC.rowLe (i := 16) rfl fun hrow => ?_
  rw [List.length_map] at hrow
  unfold maxLen at hrow
  refine SC.loop (ι := Nat) (fun z => []) (fun z => [(2, st name), (3, int state), (16, .sl 4 ((ldgs n Lg.zero h).map Lg.abs)), (17, int ((ldgs n Lg.zero h).length : Nat)), (18, int (z : Nat))]) (fun z => z ≤ (ldgs n Lg.zero h).length ∧ ∀ j, j < z → hitD n h name (fun x => decide (x.state = state)) j = false) (fun z => (ldgs n Lg.zero h).length - z) (0) (⟨Nat.zero_le _, fun j h => by omega⟩) (by exact ⟨rfl, rfl, rfl, rfl, rfl, trivial⟩) (by repeat first|exact s0 _|exact s1 _|apply s2|apply s3) ?_
  intro z hz
  refine SC.seq (SC.region ?_)
  refine SL.val (Val.ltI rfl rfl) rfl rfl ?_
  refine SL.nil (SE.seq ?_)
  refine SC.seq ?_
  refine SC.condP rfl ?_ ?_
  rotate_left
  · intro hc19
    refine SC.exit ?_
    refine SE.then_ (by intro h; cases h) ?_
    refine SE.then_ (by intro h; cases h) ?_
    refine SE.exit ?_
    refine SE.seq ?_
    refine SC.seq (SC.region ?_)
    refine SL.val (Val.assign rfl) rfl rfl ?_
    refine SL.val (Val.assign rfl) rfl rfl ?_
    refine SL.nil (SE.seq ?_)
    refine SC.ret ?_
    refine SE.fin (rs := [.tmp 8, .tmp 9]) rfl (RV.tmp rfl (RV.tmp rfl RV.nil)) (()) (by repeat first|exact s0 _|exact s1 _|apply s2|apply s3) (by simp [It.rids]) ?_
    rw [firstF_no (fun j hj => hz.2 j (by omega))]
    rfl
  intro hc19
  have hlt : z < (ldgs n Lg.zero h).length := by omega
  refine SC.skip ?_
  refine SE.seq ?_
  refine SC.seq ?_
  refine SC.block ?_
  refine SC.seq (SC.region ?_)
  refine SL.val (Val.move rfl) rfl rfl ?_
  refine SL.val (Val.indexSl tabOk Tryz.underlying39 rfl rfl rfl rfl (at_map (by omega)) rfl rfl) rfl rfl ?_
  refine SL.val (Val.loadAR tabOk rfl rfl rfl (by rfl)) rfl rfl ?_
  refine SL.eff (Eff.alloc tabOk rfl) rfl rfl ?_
  rintro _ _ ⟨b11, rfl, rfl⟩
  refine SL.val (Val.assign rfl) rfl rfl ?_
  refine SL.eff (Eff.store (L' := ((ldgs n Lg.zero h)[z]'hlt).abs) tabOk rfl rfl rfl (by repeat first|assumption|exact Upd.here|apply Upd.there) rfl (Nat.le_of_ble_eq_true (by rfl)) rfl (by exact putL_whole rfl)) rfl rfl ?_
  rintro _ _ ⟨rfl, rfl⟩
  refine SL.nil (SE.seq ?_)
  refine SC.seq (SC.region ?_)
  refine SL.val (Val.to (C := .agg ((ldgs n Lg.zero h)[z]'hlt).abs) (Val.loadP tabOk rfl rfl rfl (by first|(apply Or.inl;(repeat first|assumption|exact m0|apply m1);done)|(apply Or.inr;(repeat first|assumption|exact m0|apply m1);done)) List.not_mem_nil (Nat.le_of_ble_eq_true (by rfl))) rfl) rfl rfl ?_
  refine SL.val (Val.move rfl) rfl rfl ?_
  refine SL.call (rfind_s (l := ((ldgs n Lg.zero h)[z]'hlt)) (s := name)) Casts.refl (by kernel_rfl) rfl rfl rfl ?_
  refine After.pure (by repeat (first | exact Reads.nil | (refine Reads.blk ?_ ?_; focus ((repeat first|assumption|exact m0|apply m1); done)) | (refine Reads.rd ?_ ?_; focus ((repeat first|assumption|exact m0|apply m1); done)) | (refine Reads.pc ?_ ?_; focus ((repeat first|assumption|exact m0|apply m1); done)) | (refine Reads.rdpc ?_ ?_; focus ((repeat first|assumption|exact m0|apply m1); done)))) (fun _ => rfl) ?_
  intro _
  rw [find_old]
  refine SL.val (Val.move rfl) rfl rfl ?_
  refine SL.val (Val.extract rfl rfl) rfl rfl ?_
  refine SL.val (Val.extract rfl rfl) rfl rfl ?_
  refine SL.eff (Eff.alloc tabOk rfl) rfl rfl ?_
  rintro _ _ ⟨b12, rfl, rfl⟩
  refine SL.eff (Eff.store (L' := ltrA (((ldgs n Lg.zero h)[z]'hlt).old name)) tabOk rfl rfl rfl (by repeat first|assumption|exact Upd.here|apply Upd.there) rfl (Nat.le_of_ble_eq_true (by rfl)) rfl (by exact putL_whole rfl)) rfl rfl ?_
  rintro _ _ ⟨rfl, rfl⟩
  refine SL.val (Val.assign rfl) rfl rfl ?_
  refine SL.nil (SE.seq ?_)
  refine SC.seq (SC.region ?_)
  refine SL.val (Val.move rfl) rfl rfl ?_
  refine SL.val (Val.gtI rfl rfl) rfl rfl ?_
  refine SL.val (Val.move rfl) rfl rfl ?_
  refine SL.bothP (t := 31) rfl ?_ ?_
  rotate_left
  · intro hc31
    refine SL.skip rfl rfl ?_
    refine SL.val (Val.pickF rfl rfl) rfl rfl ?_
    refine SL.val (Val.move rfl) rfl rfl ?_
    iterate 4 refine SL.skip rfl rfl ?_
    refine SL.val (Val.pickF rfl rfl) rfl rfl ?_
    refine SL.nil (SE.seq ?_)
    refine SC.condF rfl ?_
    refine SC.skip ?_
    refine SE.inBlock ?_
    refine SE.seq ?_
    refine SC.region ?_
    first
      | refine SL.val (Val.addI rfl rfl (by simp only [InR, lo, hi]; omega)) rfl rfl ?_
      | refine SL.val (Val.addW rfl rfl) rfl rfl ?_
    refine SL.val (Val.move rfl) rfl rfl ?_
    refine SL.nil ?_
    refine SE.round (z + 1) (by first | omega | (dsimp only; omega)) (⟨by omega, fun j h1 => by rcases Nat.lt_or_ge j z with h3 | h3; exact hz.2 j h3; obtain rfl : j = z := (by omega); first | (simp [hitD_at hlt, hc34]; done) | (simp [hitD_at hlt, hc34, hc39]; done) | (have h5 : j = 0 := (by omega); rw [h5]; exact hitD_zero)⟩) (by exact ⟨rfl, rfl, rfl, rfl, rfl, trivial⟩) (by repeat first|exact s0 _|exact s1 _|apply s2|apply s3)
  intro hc31
  refine SL.val (Val.move rfl) rfl rfl ?_
  refine SL.val (Val.pickT rfl rfl) rfl rfl ?_
  refine SL.val (Val.move rfl) rfl rfl ?_
  refine SL.both (t := 34) rfl ?_ ?_
  rotate_left
  · intro hc34
    iterate 4 refine SL.skip rfl rfl ?_
    refine SL.val (Val.pickF rfl rfl) rfl rfl ?_
    refine SL.nil (SE.seq ?_)
    refine SC.condF rfl ?_
    refine SC.skip ?_
    refine SE.inBlock ?_
    refine SE.seq ?_
    refine SC.region ?_
    first
      | refine SL.val (Val.addI rfl rfl (by simp only [InR, lo, hi]; omega)) rfl rfl ?_
      | refine SL.val (Val.addW rfl rfl) rfl rfl ?_
    refine SL.val (Val.move rfl) rfl rfl ?_
    refine SL.nil ?_
    refine SE.round (z + 1) (by first | omega | (dsimp only; omega)) (⟨by omega, fun j h1 => by rcases Nat.lt_or_ge j z with h3 | h3; exact hz.2 j h3; obtain rfl : j = z := (by omega); first | (simp [hitD_at hlt, hc34]; done) | (simp [hitD_at hlt, hc34, hc39]; done) | (have h5 : j = 0 := (by omega); rw [h5]; exact hitD_zero)⟩) (by exact ⟨rfl, rfl, rfl, rfl, rfl, trivial⟩) (by repeat first|exact s0 _|exact s1 _|apply s2|apply s3)
  intro hc34
  refine SL.val (Val.fieldAddr tabOk rfl rfl rfl rfl rfl) rfl rfl ?_
  refine SL.val (Val.to (C := int (((ldgs n Lg.zero h)[z]'hlt).old name).state) (Val.load1 tabOk rfl rfl (by first|(apply Or.inl;(repeat first|assumption|exact m0|apply m1);done)|(apply Or.inr;(repeat first|assumption|exact m0|apply m1);done)) List.not_mem_nil (by rfl)) rfl) rfl rfl ?_
  refine SL.val (Val.move rfl) rfl rfl ?_
  refine SL.val (Val.eqI rfl rfl) rfl rfl ?_
  refine SL.val (Val.pickT rfl rfl) rfl rfl ?_
  refine SL.nil (SE.seq ?_)
  refine SC.condP rfl ?_ ?_
  rotate_left
  · intro hc39
    refine SC.skip ?_
    refine SE.inBlock ?_
    refine SE.seq ?_
    refine SC.region ?_
    first
      | refine SL.val (Val.addI rfl rfl (by simp only [InR, lo, hi]; omega)) rfl rfl ?_
      | refine SL.val (Val.addW rfl rfl) rfl rfl ?_
    refine SL.val (Val.move rfl) rfl rfl ?_
    refine SL.nil ?_
    refine SE.round (z + 1) (by first | omega | (dsimp only; omega)) (⟨by omega, fun j h1 => by rcases Nat.lt_or_ge j z with h3 | h3; exact hz.2 j h3; obtain rfl : j = z := (by omega); first | (simp [hitD_at hlt, hc34]; done) | (simp [hitD_at hlt, hc34, hc39]; done) | (have h5 : j = 0 := (by omega); rw [h5]; exact hitD_zero)⟩) (by exact ⟨rfl, rfl, rfl, rfl, rfl, trivial⟩) (by repeat first|exact s0 _|exact s1 _|apply s2|apply s3)
  intro hc39
  refine SC.seq (SC.region ?_)
  refine SL.val (Val.move rfl) rfl rfl ?_
  refine SL.val (Val.assign rfl) rfl rfl ?_
  refine SL.val (Val.assign rfl) rfl rfl ?_
  refine SL.nil (SE.seq ?_)
  refine SC.ret ?_
  refine SE.ret ?_
  refine SE.then_ (by intro h; cases h) ?_
  refine SE.then_ (by intro h; cases h) ?_
  refine SE.ret ?_
  refine SE.then_ (by intro h; cases h) ?_
  refine SE.fin (rs := [.tmp 8, .tmp 9]) rfl (RV.tmp rfl (RV.tmp rfl RV.nil)) (()) (by repeat first|exact s0 _|exact s1 _|apply s2|apply s3) (by simp [It.rids]) ?_
  rw [firstF_hit (z := z) (by omega) hz.2 (by simp [hitD_at hlt, hc34, hc39])]
  rfl
set_option maxHeartbeats 2000000 in
theorem rtook_s (hh : HisIns h) (hro : ∀ b ∈ h, b.length ≤ 10) (hn : h.length ≤ 40) (hss : ∀ b ∈ h, ∀ e ∈ b, e.core.letter.size ≤ lots) : Spec Tryz.prog 15 [histA h, int n, st name] [] (fun _ : Unit => []) (fun _ => .tup [int (tookF n h name).1, boo (tookF n h name).2]) := by
  have hll := ldgs_len n Lg.zero h
  refine spec_of Tryz.func15 rfl Tryz.ntmps15 rfl fun G w => ?_
  refine SC.seq (SC.region ?_)
  refine SL.val (Val.assign rfl) rfl rfl ?_
  refine SL.val (Val.assign rfl) rfl rfl ?_
  refine SL.nil (SE.seq ?_)
  refine SC.seq (SC.region ?_)
  refine SL.val (Val.assign rfl) rfl rfl ?_
  refine SL.nil (SE.seq ?_)
  refine SC.seq ?_
  refine SC.seq (SC.region ?_)
  refine SL.val (Val.move rfl) rfl rfl ?_
  refine SL.val (Val.move rfl) rfl rfl ?_
  refine SL.call (rledgers_s hh hro hss hn) Casts.refl (by kernel_rfl) rfl rfl rfl ?_
  refine After.pure (by repeat (first | exact Reads.nil | (refine Reads.blk ?_ ?_; focus ((repeat first|assumption|exact m0|apply m1); done)) | (refine Reads.rd ?_ ?_; focus ((repeat first|assumption|exact m0|apply m1); done)) | (refine Reads.pc ?_ ?_; focus ((repeat first|assumption|exact m0|apply m1); done)) | (refine Reads.rdpc ?_ ?_; focus ((repeat first|assumption|exact m0|apply m1); done)))) (fun _ => rfl) ?_
  intro _
  first
    | refine SL.val (Val.lenSl rfl Tryz.underlying39 (List.length_map _)) rfl rfl ?_
    | refine SL.val (Val.lenOwn rfl (by repeat first|assumption|exact m0|apply m1) Tryz.underlying39 (List.length_map _)) rfl rfl ?_
    | refine SL.val (Val.lenNil rfl Tryz.underlying39) rfl rfl ?_
  refine SL.val (Val.move rfl) rfl rfl ?_
  refine SL.nil (SE.seq ?_)
  refine SC.block ?_
  refine SC.rowLe (i := 15) rfl fun hrow => ?_
  rw [List.length_map] at hrow
  unfold maxLen at hrow
  refine SC.loop (ι := Nat × Nat) (fun z => []) (fun z => [(2, st name), (8, int (z.2 : Nat)), (15, .sl 4 ((ldgs n Lg.zero h).map Lg.abs)), (16, int ((ldgs n Lg.zero h).length : Nat)), (17, int (z.1 : Nat))]) (fun z => z.1 ≤ (ldgs n Lg.zero h).length ∧ FirstI (hitD n h name (fun _ : Ltr => true)) z.2 z.1 ∧ ∀ j, j < z.1 → hitD n h name (fun x : Ltr => decide (5 ≤ x.state)) j = false) (fun z => (ldgs n Lg.zero h).length - z.1) (0, 0) (⟨Nat.zero_le _, .inl ⟨rfl, fun j h => by omega⟩, fun j h => by omega⟩) (by exact ⟨rfl, rfl, rfl, rfl, rfl, trivial⟩) (by repeat first|exact s0 _|exact s1 _|apply s2|apply s3) ?_
  intro z hz
  refine SC.seq (SC.region ?_)
  refine SL.val (Val.ltI rfl rfl) rfl rfl ?_
  refine SL.nil (SE.seq ?_)
  refine SC.seq ?_
  refine SC.condP rfl ?_ ?_
  rotate_left
  · intro hc18
    refine SC.exit ?_
    refine SE.then_ (by intro h; cases h) ?_
    refine SE.then_ (by intro h; cases h) ?_
    refine SE.exit ?_
    refine SE.seq ?_
    refine SC.seq (SC.region ?_)
    refine SL.val (Val.assign rfl) rfl rfl ?_
    refine SL.val (Val.assign rfl) rfl rfl ?_
    refine SL.nil (SE.seq ?_)
    refine SC.ret ?_
    refine SE.fin (rs := [.tmp 6, .tmp 7]) rfl (RV.tmp rfl (RV.tmp rfl RV.nil)) (()) (by repeat first|exact s0 _|exact s1 _|apply s2|apply s3) (by simp [It.rids]) ?_
    rw [tookF_no (fun j hj => hz.2.2 j (by omega))]
    rfl
  intro hc18
  have hlt : z.1 < (ldgs n Lg.zero h).length := by omega
  refine SC.skip ?_
  refine SE.seq ?_
  refine SC.seq ?_
  refine SC.block ?_
  refine SC.seq (SC.region ?_)
  refine SL.val (Val.move rfl) rfl rfl ?_
  refine SL.val (Val.indexSl tabOk Tryz.underlying39 rfl rfl rfl rfl (at_map (by omega)) rfl rfl) rfl rfl ?_
  refine SL.val (Val.loadAR tabOk rfl rfl rfl (by rfl)) rfl rfl ?_
  refine SL.eff (Eff.alloc tabOk rfl) rfl rfl ?_
  rintro _ _ ⟨b10, rfl, rfl⟩
  refine SL.val (Val.assign rfl) rfl rfl ?_
  refine SL.eff (Eff.store (L' := ((ldgs n Lg.zero h)[z.1]'hlt).abs) tabOk rfl rfl rfl (by repeat first|assumption|exact Upd.here|apply Upd.there) rfl (Nat.le_of_ble_eq_true (by rfl)) rfl (by exact putL_whole rfl)) rfl rfl ?_
  rintro _ _ ⟨rfl, rfl⟩
  refine SL.nil (SE.seq ?_)
  refine SC.seq (SC.region ?_)
  refine SL.val (Val.to (C := .agg ((ldgs n Lg.zero h)[z.1]'hlt).abs) (Val.loadP tabOk rfl rfl rfl (by first|(apply Or.inl;(repeat first|assumption|exact m0|apply m1);done)|(apply Or.inr;(repeat first|assumption|exact m0|apply m1);done)) List.not_mem_nil (Nat.le_of_ble_eq_true (by rfl))) rfl) rfl rfl ?_
  refine SL.val (Val.move rfl) rfl rfl ?_
  refine SL.call (rfind_s (l := ((ldgs n Lg.zero h)[z.1]'hlt)) (s := name)) Casts.refl (by kernel_rfl) rfl rfl rfl ?_
  refine After.pure (by repeat (first | exact Reads.nil | (refine Reads.blk ?_ ?_; focus ((repeat first|assumption|exact m0|apply m1); done)) | (refine Reads.rd ?_ ?_; focus ((repeat first|assumption|exact m0|apply m1); done)) | (refine Reads.pc ?_ ?_; focus ((repeat first|assumption|exact m0|apply m1); done)) | (refine Reads.rdpc ?_ ?_; focus ((repeat first|assumption|exact m0|apply m1); done)))) (fun _ => rfl) ?_
  intro _
  rw [find_old]
  refine SL.val (Val.move rfl) rfl rfl ?_
  refine SL.val (Val.extract rfl rfl) rfl rfl ?_
  refine SL.val (Val.extract rfl rfl) rfl rfl ?_
  refine SL.eff (Eff.alloc tabOk rfl) rfl rfl ?_
  rintro _ _ ⟨b11, rfl, rfl⟩
  refine SL.eff (Eff.store (L' := ltrA (((ldgs n Lg.zero h)[z.1]'hlt).old name)) tabOk rfl rfl rfl (by repeat first|assumption|exact Upd.here|apply Upd.there) rfl (Nat.le_of_ble_eq_true (by rfl)) rfl (by exact putL_whole rfl)) rfl rfl ?_
  rintro _ _ ⟨rfl, rfl⟩
  refine SL.val (Val.assign rfl) rfl rfl ?_
  refine SL.nil (SE.seq ?_)
  refine SC.cutS (ι := Nat) (fun s => [.blk b11 47 (ltrA (((ldgs n Lg.zero h)[z.1]'hlt).old name))]) (fun s => [(2, st name), (8, int (s : Nat)), (9, int (z.1 : Nat)), (11, ptr b11), (12, boo (((ldgs n Lg.zero h)[z.1]'hlt).find name).isSome), (15, .sl 4 ((ldgs n Lg.zero h).map Lg.abs)), (16, int ((ldgs n Lg.zero h).length : Nat)), (17, int (z.1 : Nat))]) (fun s => FirstI (hitD n h name (fun _ : Ltr => true)) s (z.1 + 1)) ?_ ?_
  · skip
    refine SC.seq (SC.region ?_)
    refine SL.val (Val.move rfl) rfl rfl ?_
    refine SL.val (Val.move rfl) rfl rfl ?_
    refine SL.both (t := 29) rfl ?_ ?_
    rotate_left
    · intro hc29
      iterate 2 refine SL.skip rfl rfl ?_
      refine SL.val (Val.pickF rfl rfl) rfl rfl ?_
      refine SL.nil (SE.seq ?_)
      refine SC.condF rfl ?_
      refine SC.skip ?_
      refine SE.meet (z.2) (hz.2.1.no (by simp [hitD_at hlt, hc29])) (by exact ⟨rfl, rfl, rfl, rfl, rfl, rfl, rfl, rfl, trivial⟩) (by repeat first|exact s0 _|exact s1 _|apply s2|apply s3)
    intro hc29
    refine SL.val (Val.move rfl) rfl rfl ?_
    refine SL.val (Val.eqI rfl rfl) rfl rfl ?_
    refine SL.val (Val.pickT rfl rfl) rfl rfl ?_
    refine SL.nil (SE.seq ?_)
    refine SC.condP rfl ?_ ?_
    rotate_left
    · intro hc32
      refine SC.skip ?_
      refine SE.meet (z.2) (hz.2.1.old (by omega)) (by exact ⟨rfl, rfl, rfl, rfl, rfl, rfl, rfl, rfl, trivial⟩) (by repeat first|exact s0 _|exact s1 _|apply s2|apply s3)
    intro hc32
    refine SC.region ?_
    refine SL.val (Val.move rfl) rfl rfl ?_
    refine SL.val (Val.assign rfl) rfl rfl ?_
    refine SL.nil ?_
    refine SE.meet (z.1) (hz.2.1.new (by omega) rfl (by simp [hitD_at hlt, hc29])) (by exact ⟨rfl, rfl, rfl, rfl, rfl, rfl, rfl, rfl, trivial⟩) (by repeat first|exact s0 _|exact s1 _|apply s2|apply s3)
  · intro s hs
    refine SC.seq (SC.region ?_)
    refine SL.val (Val.move rfl) rfl rfl ?_
    refine SL.val (Val.move rfl) rfl rfl ?_
    refine SL.both (t := 35) rfl ?_ ?_
    rotate_left
    · intro hc35
      iterate 3 refine SL.skip rfl rfl ?_
      refine SL.val (Val.pickF rfl rfl) rfl rfl ?_
      refine SL.nil (SE.seq ?_)
      refine SC.condF rfl ?_
      refine SC.skip ?_
      refine SE.inBlock ?_
      refine SE.seq ?_
      refine SC.region ?_
      first
        | refine SL.val (Val.addI rfl rfl (by simp only [InR, lo, hi]; omega)) rfl rfl ?_
        | refine SL.val (Val.addW rfl rfl) rfl rfl ?_
      refine SL.val (Val.move rfl) rfl rfl ?_
      refine SL.nil ?_
      refine SE.round (z.1 + 1, s) (by first | omega | (dsimp only; omega)) (⟨by dsimp only; omega, hs, fun j h1 => by rcases Nat.lt_or_ge j z.1 with h3 | h3; exact hz.2.2 j h3; obtain rfl : j = z.1 := (by omega); first | (simp [hitD_at hlt, hc35]; done) | (simp [hitD_at hlt, hc35, hc39]; done)⟩) (by exact ⟨rfl, rfl, rfl, rfl, rfl, trivial⟩) (by repeat first|exact s0 _|exact s1 _|apply s2|apply s3)
    intro hc35
    refine SL.val (Val.fieldAddr tabOk rfl rfl rfl rfl rfl) rfl rfl ?_
    refine SL.val (Val.to (C := int (((ldgs n Lg.zero h)[z.1]'hlt).old name).state) (Val.load1 tabOk rfl rfl (by first|(apply Or.inl;(repeat first|assumption|exact m0|apply m1);done)|(apply Or.inr;(repeat first|assumption|exact m0|apply m1);done)) List.not_mem_nil (by rfl)) rfl) rfl rfl ?_
    refine SL.val (Val.geI rfl rfl) rfl rfl ?_
    refine SL.val (Val.pickT rfl rfl) rfl rfl ?_
    refine SL.nil (SE.seq ?_)
    refine SC.condP rfl ?_ ?_
    rotate_left
    · intro hc39
      refine SC.skip ?_
      refine SE.inBlock ?_
      refine SE.seq ?_
      refine SC.region ?_
      first
        | refine SL.val (Val.addI rfl rfl (by simp only [InR, lo, hi]; omega)) rfl rfl ?_
        | refine SL.val (Val.addW rfl rfl) rfl rfl ?_
      refine SL.val (Val.move rfl) rfl rfl ?_
      refine SL.nil ?_
      refine SE.round (z.1 + 1, s) (by first | omega | (dsimp only; omega)) (⟨by dsimp only; omega, hs, fun j h1 => by rcases Nat.lt_or_ge j z.1 with h3 | h3; exact hz.2.2 j h3; obtain rfl : j = z.1 := (by omega); first | (simp [hitD_at hlt, hc35]; done) | (simp [hitD_at hlt, hc35, hc39]; done)⟩) (by exact ⟨rfl, rfl, rfl, rfl, rfl, trivial⟩) (by repeat first|exact s0 _|exact s1 _|apply s2|apply s3)
    intro hc39
    refine SC.seq (SC.region ?_)
    refine SL.val (Val.move rfl) rfl rfl ?_
    refine SL.val (Val.move rfl) rfl rfl ?_
    have hsb : s ≤ z.1 := by rcases hs with ⟨g1, _⟩ | ⟨g1, _⟩ <;> omega
    refine SL.val (Val.to (C := int ((z.1 : Int) - (s : Int))) (Val.subI rfl rfl (by simp only [InR, lo, hi]; omega)) rfl) rfl rfl ?_
    refine SL.val (Val.assign rfl) rfl rfl ?_
    refine SL.val (Val.assign rfl) rfl rfl ?_
    refine SL.nil (SE.seq ?_)
    refine SC.ret ?_
    refine SE.ret ?_
    refine SE.then_ (by intro h; cases h) ?_
    refine SE.then_ (by intro h; cases h) ?_
    refine SE.ret ?_
    refine SE.then_ (by intro h; cases h) ?_
    refine SE.fin (rs := [.tmp 6, .tmp 7]) rfl (RV.tmp rfl (RV.tmp rfl RV.nil)) (()) (by repeat first|exact s0 _|exact s1 _|apply s2|apply s3) (by simp [It.rids]) ?_
    rw [tookF_hit (z := z.1) hs (by simp [hitD_at hlt, hc35, hc39]) hz.2.2 (by omega)]
    rfl
end
end Go.Proofs.YtnedfcaoggkmnaaGreatDoor.A
/-
  Timelines: fixed answers.
-/
set_option maxRecDepth 100000
set_option linter.unusedSimpArgs false
set_option linter.unusedVariables false
namespace Go.Proofs.YtnedfcaoggkmnaaGreatDoor.A
open Go.RowKit

noncomputable instance : DecidableEq Ev := fun _ _ => Classical.propDecidable _
def nmF : ByteArray := ⟨#[97]⟩
def coF1 : Core := ⟨4, 1, 1, nmF, 5, 0, ⟨#[48]⟩⟩
def coF2 : Core := ⟨4, 2, 9, nmF, 0, 0, ⟨#[]⟩⟩
def hF : List (List Ent) := [[⟨coF1, 1⟩], [⟨coF2, 1⟩]]
theorem hF_rows : ∀ b ∈ hF, b.length ≤ 10 := by
  intro b hb
  rcases List.mem_cons.1 hb with rfl | hb
  · decide
  · rw [List.mem_singleton.1 hb]; decide
theorem hF_ins : HisIns hF := by
  intro b hb e he
  rcases List.mem_cons.1 hb with rfl | hb
  · rw [List.mem_singleton.1 he]
    exact ⟨by show i64ok 4; unfold i64ok; omega, by show i64ok 1; unfold i64ok; omega, by show i64ok 1; unfold i64ok; omega, by show i64ok 5; unfold i64ok; omega, by show i64ok 0; unfold i64ok; omega, by show (1 : Nat) ≤ _; unfold maxLen; omega, by show (1 : Nat) ≤ _; unfold maxLen; omega, by decide⟩
  · rw [List.mem_singleton.1 hb] at he
    rw [List.mem_singleton.1 he]
    exact ⟨by show i64ok 4; unfold i64ok; omega, by show i64ok 2; unfold i64ok; omega, by show i64ok 9; unfold i64ok; omega, by show i64ok 0; unfold i64ok; omega, by show i64ok 0; unfold i64ok; omega, by show (1 : Nat) ≤ _; unfold maxLen; omega, by show (0 : Nat) ≤ _; omega, by decide⟩
theorem fx1 : firstF 4 hF nmF (fun x => decide (x.state = 1)) = (1, true) := by kernel_rfl
theorem fx2 : tookF 4 hF nmF = (1, true) := by kernel_rfl
theorem fx3 : evN 4 hF nmF = [⟨1, 4, 1, 1, 0, 1⟩, ⟨2, 4, 2, 9, 0, 7⟩] := by kernel_rfl
theorem fx4 : foldS 4 quietS (batNm hF.length) 0 [] Lg.zero hF = [nmF] := by kernel_rfl
theorem fx5 : refF 4 hF = [] := by kernel_rfl
section
variable {name : ByteArray} {n state : Int} {l : Lg} {h : List (List Ent)} {x : Ltr} {e1 e2 : Value}
set_option maxHeartbeats 2000000 in
theorem fixed42_s (he : isIf e1) (hr : isIf e2) : Spec Tryz.prog 7 [] (globs e1 e2) (fun _ : Unit => []) (fun _ => boo true) := by
  refine spec_of Tryz.func7 rfl Tryz.ntmps7 rfl fun G w => ?_
  refine SC.seq (SC.region ?_)
  refine SL.val (Val.assign rfl) rfl rfl ?_
  refine SL.nil (SE.seq ?_)
  refine SC.seq (SC.region ?_)
  refine SL.val (Val.buildS (L := coF1.cells.map .v) tabOk rfl rfl rfl (by rfl)) rfl rfl ?_
  refine SL.val (Val.buildS (L := entA ⟨coF1, 1⟩) tabOk rfl rfl rfl (by rfl)) rfl rfl ?_
  refine SL.eff (Eff.buildSl tabOk Tryz.underlying59 rfl rfl rfl rfl rfl rfl rfl) rfl rfl ?_
  rintro _ _ ⟨rfl, rfl⟩
  refine SL.val (Val.buildS (L := coF2.cells.map .v) tabOk rfl rfl rfl (by rfl)) rfl rfl ?_
  refine SL.val (Val.buildS (L := entA ⟨coF2, 1⟩) tabOk rfl rfl rfl (by rfl)) rfl rfl ?_
  refine SL.eff (Eff.buildSl tabOk Tryz.underlying59 rfl rfl rfl rfl rfl rfl rfl) rfl rfl ?_
  rintro _ _ ⟨rfl, rfl⟩
  refine SL.eff (Eff.buildSl tabOk Tryz.underlying22 rfl rfl rfl rfl rfl rfl rfl) rfl rfl ?_
  rintro _ _ ⟨rfl, rfl⟩
  refine SL.val (Val.assign rfl) rfl rfl ?_
  refine SL.nil (SE.seq ?_)
  refine SC.seq (SC.region ?_)
  refine SL.val (Val.move rfl) rfl rfl ?_
  refine SL.call (when_s (name := nmF) (state := 1) (n := 4) (h := hF) he hr hF_ins hF_rows (by decide)) Casts.refl (by kernel_rfl) rfl rfl rfl ?_
  refine After.pure (by repeat (first | exact Reads.nil | (refine Reads.blk ?_ ?_; focus ((repeat first|assumption|exact m0|apply m1); done)) | (refine Reads.rd ?_ ?_; focus ((repeat first|assumption|exact m0|apply m1); done)) | (refine Reads.pc ?_ ?_; focus ((repeat first|assumption|exact m0|apply m1); done)) | (refine Reads.rdpc ?_ ?_; focus ((repeat first|assumption|exact m0|apply m1); done)))) (fun _ => rfl) ?_
  intro _
  rw [fx1]
  refine SL.val (Val.move rfl) rfl rfl ?_
  refine SL.val (Val.to (C := int 1) (Val.extract rfl rfl) rfl) rfl rfl ?_
  refine SL.val (Val.to (C := boo true) (Val.extract rfl rfl) rfl) rfl rfl ?_
  refine SL.val (Val.assign rfl) rfl rfl ?_
  refine SL.val (Val.assign rfl) rfl rfl ?_
  refine SL.nil (SE.seq ?_)
  refine SC.seq (SC.region ?_)
  refine SL.val (Val.move rfl) rfl rfl ?_
  refine SL.call (took_s (name := nmF) (n := 4) (h := hF) he hr hF_ins hF_rows (by decide) ⟨firstF_bd.1, Int.le_trans firstF_bd.2 (by decide)⟩ ⟨firstF_bd.1, Int.le_trans firstF_bd.2 (by decide)⟩) Casts.refl (by kernel_rfl) rfl rfl rfl ?_
  refine After.pure (by repeat (first | exact Reads.nil | (refine Reads.blk ?_ ?_; focus ((repeat first|assumption|exact m0|apply m1); done)) | (refine Reads.rd ?_ ?_; focus ((repeat first|assumption|exact m0|apply m1); done)) | (refine Reads.pc ?_ ?_; focus ((repeat first|assumption|exact m0|apply m1); done)) | (refine Reads.rdpc ?_ ?_; focus ((repeat first|assumption|exact m0|apply m1); done)))) (fun _ => rfl) ?_
  intro _
  rw [fx2]
  refine SL.val (Val.move rfl) rfl rfl ?_
  refine SL.val (Val.to (C := int 1) (Val.extract rfl rfl) rfl) rfl rfl ?_
  refine SL.val (Val.to (C := boo true) (Val.extract rfl rfl) rfl) rfl rfl ?_
  refine SL.val (Val.assign rfl) rfl rfl ?_
  refine SL.val (Val.assign rfl) rfl rfl ?_
  refine SL.nil (SE.seq ?_)
  refine SC.seq (SC.region ?_)
  refine SL.val (Val.move rfl) rfl rfl ?_
  refine SL.call (events_s (name := nmF) (n := 4) (h := hF) he hr hF_ins hF_rows (by decide)) Casts.refl (by kernel_rfl) rfl rfl rfl ?_
  refine After.pure (by repeat (first | exact Reads.nil | (refine Reads.blk ?_ ?_; focus ((repeat first|assumption|exact m0|apply m1); done)) | (refine Reads.rd ?_ ?_; focus ((repeat first|assumption|exact m0|apply m1); done)) | (refine Reads.pc ?_ ?_; focus ((repeat first|assumption|exact m0|apply m1); done)) | (refine Reads.rdpc ?_ ?_; focus ((repeat first|assumption|exact m0|apply m1); done)))) (fun _ => rfl) ?_
  intro _
  rw [fx3]
  refine SL.val (Val.assign rfl) rfl rfl ?_
  refine SL.nil (SE.seq ?_)
  refine SC.seq (SC.region ?_)
  refine SL.val (Val.move rfl) rfl rfl ?_
  refine SL.val (Val.move rfl) rfl rfl ?_
  refine SL.val (Val.move rfl) rfl rfl ?_
  refine SL.val (Val.to (C := boo true) (Val.eqI rfl rfl) (congrArg (fun b => Abs.v (Value.bool b)) (decide_eq_true (rfl)))) rfl rfl ?_
  refine SL.val (Val.pickT rfl rfl) rfl rfl ?_
  refine SL.val (Val.move rfl) rfl rfl ?_
  refine SL.val (Val.move rfl) rfl rfl ?_
  refine SL.val (Val.pickT rfl rfl) rfl rfl ?_
  refine SL.val (Val.move rfl) rfl rfl ?_
  refine SL.val (Val.move rfl) rfl rfl ?_
  refine SL.val (Val.to (C := boo true) (Val.eqI rfl rfl) (congrArg (fun b => Abs.v (Value.bool b)) (decide_eq_true (rfl)))) rfl rfl ?_
  refine SL.val (Val.pickT rfl rfl) rfl rfl ?_
  refine SL.val (Val.move rfl) rfl rfl ?_
  refine SL.val (Val.move rfl) rfl rfl ?_
  first
    | refine SL.val (Val.lenSl rfl Tryz.underlying25 (List.length_map _)) rfl rfl ?_
    | refine SL.val (Val.lenOwn rfl (by repeat first|assumption|exact m0|apply m1) Tryz.underlying25 (List.length_map _)) rfl rfl ?_
    | refine SL.val (Val.lenNil rfl Tryz.underlying25) rfl rfl ?_
  refine SL.val (Val.to (C := boo true) (Val.eqI rfl rfl) (congrArg (fun b => Abs.v (Value.bool b)) (decide_eq_true (rfl)))) rfl rfl ?_
  refine SL.val (Val.pickT rfl rfl) rfl rfl ?_
  refine SL.val (Val.move rfl) rfl rfl ?_
  refine SL.val (Val.move rfl) rfl rfl ?_
  refine SL.val (Val.indexSl (q := 1) (cs := Ev.abs ⟨2, 4, 2, 9, 0, 7⟩) tabOk Tryz.underlying25 rfl rfl rfl rfl (by rfl) rfl rfl) rfl rfl ?_
  first
    | refine SL.val (Val.fieldAddr tabOk rfl rfl rfl rfl rfl) rfl rfl ?_
    | refine SL.val (Val.fieldAddrR tabOk rfl rfl rfl rfl rfl) rfl rfl ?_
  refine SL.val (Val.to (C := int 7) (Val.load1R tabOk rfl rfl rfl) rfl) rfl rfl ?_
  refine SL.val (Val.to (C := boo true) (Val.eqI rfl rfl) (congrArg (fun b => Abs.v (Value.bool b)) (decide_eq_true (rfl)))) rfl rfl ?_
  refine SL.val (Val.pickT rfl rfl) rfl rfl ?_
  refine SL.val (Val.move rfl) rfl rfl ?_
  refine SL.val (Val.move rfl) rfl rfl ?_
  refine SL.call (names_s (n := 4) (h := hF) he hr hF_ins hF_rows (by decide)) Casts.refl (by kernel_rfl) rfl rfl rfl ?_
  refine After.pure (by repeat (first | exact Reads.nil | (refine Reads.blk ?_ ?_; focus ((repeat first|assumption|exact m0|apply m1); done)) | (refine Reads.rd ?_ ?_; focus ((repeat first|assumption|exact m0|apply m1); done)) | (refine Reads.pc ?_ ?_; focus ((repeat first|assumption|exact m0|apply m1); done)) | (refine Reads.rdpc ?_ ?_; focus ((repeat first|assumption|exact m0|apply m1); done)))) (fun _ => rfl) ?_
  intro _
  rw [fx4]
  first
    | refine SL.val (Val.lenSl rfl Tryz.underlying26 (List.length_map _)) rfl rfl ?_
    | refine SL.val (Val.lenOwn rfl (by repeat first|assumption|exact m0|apply m1) Tryz.underlying26 (List.length_map _)) rfl rfl ?_
    | refine SL.val (Val.lenNil rfl Tryz.underlying26) rfl rfl ?_
  refine SL.val (Val.to (C := boo true) (Val.eqI rfl rfl) (congrArg (fun b => Abs.v (Value.bool b)) (decide_eq_true (rfl)))) rfl rfl ?_
  refine SL.val (Val.pickT rfl rfl) rfl rfl ?_
  refine SL.val (Val.move rfl) rfl rfl ?_
  refine SL.val (Val.move rfl) rfl rfl ?_
  refine SL.call (refused_s (n := 4) (h := hF) he hr hF_ins hF_rows (by decide)) Casts.refl (by kernel_rfl) rfl rfl rfl ?_
  refine After.make (by repeat (first | exact Reads.nil | (refine Reads.blk ?_ ?_; focus ((repeat first|assumption|exact m0|apply m1); done)) | (refine Reads.rd ?_ ?_; focus ((repeat first|assumption|exact m0|apply m1); done)) | (refine Reads.pc ?_ ?_; focus ((repeat first|assumption|exact m0|apply m1); done)) | (refine Reads.rdpc ?_ ?_; focus ((repeat first|assumption|exact m0|apply m1); done)))) (fun _ => rfl) ?_
  intro mR
  refine SL.val (Val.to (C := int 0) (Val.lenMap Tryz.underlying30 rfl (by first|(apply Or.inl;(repeat first|assumption|exact m0|apply m1);done)|(apply Or.inr;(repeat first|assumption|exact m0|apply m1);done)) List.not_mem_nil) (by rw [fx5]; rfl)) rfl rfl ?_
  refine SL.val (Val.to (C := boo true) (Val.eqI rfl rfl) (congrArg (fun b => Abs.v (Value.bool b)) (decide_eq_true (rfl)))) rfl rfl ?_
  refine SL.val (Val.pickT rfl rfl) rfl rfl ?_
  refine SL.val (Val.assign rfl) rfl rfl ?_
  refine SL.nil (SE.seq ?_)
  refine SC.ret ?_
  refine SE.fin (rs := [.tmp 0]) rfl (RV.tmp rfl RV.nil) (()) (by repeat first|exact s0 _|exact s1 _|apply s2|apply s3) (by simp [It.rids]) ?_
  exact rfl
end
end Go.Proofs.YtnedfcaoggkmnaaGreatDoor.A
/-
  TimelineSteps: the law.
-/
set_option maxRecDepth 100000
set_option linter.unusedSimpArgs false
set_option linter.unusedVariables false
namespace Go.Proofs.YtnedfcaoggkmnaaGreatDoor.A
open Go.RowKit

theorem FewH.szs {h : List (List Ent)} (hf : FewH h) : ∀ b ∈ h, ∀ e ∈ b, e.core.letter.size ≤ lots := by
  intro b hb e he
  obtain ⟨j, hj, rfl⟩ := List.getElem_of_mem hb
  obtain ⟨i, hi2, rfl⟩ := List.getElem_of_mem he
  have := ((hf.en j hj).1 i hi2).1
  unfold lots
  omega
section
variable {name : ByteArray} {n state : Int} {l : Lg} {h : List (List Ent)} {x : Ltr} {e1 e2 : Value}
end
end Go.Proofs.YtnedfcaoggkmnaaGreatDoor.A
/-
  TimelineWhen: the law.
-/
set_option maxRecDepth 100000
set_option linter.unusedSimpArgs false
set_option linter.unusedVariables false
namespace Go.Proofs.YtnedfcaoggkmnaaGreatDoor.A
open Go.RowKit

theorem ldgs_last {n : Int} : ∀ {l : Lg} {h : List (List Ent)}, (ldgs n l h)[h.length]? = some (ldgAt n l h)
  | l, [] => rfl
  | l, b :: h => by
    rw [ldgs, List.length_cons, List.getElem?_cons_succ]
    exact ldgs_last (l := (l.foldF b n).1) (h := h)
section
variable {name : ByteArray} {n state : Int} {l : Lg} {h : List (List Ent)} {x : Ltr} {e1 e2 : Value}
set_option maxHeartbeats 2000000 in
theorem twhen_s (he : isIf e1) (hr : isIf e2) (hh : HisIns h) : Spec Tryz.prog 4 [histA h, int n, st name, int state] (globs e1 e2) (fun _ : Unit => []) (fun _ => boo true) := by
  refine spec_of Tryz.func4 rfl Tryz.ntmps4 rfl fun G w => ?_
  refine SC.seq (SC.region ?_)
  refine SL.val (Val.assign rfl) rfl rfl ?_
  refine SL.nil (SE.seq ?_)
  refine SC.seq ?_
  refine SC.seq (SC.region ?_)
  refine SL.call (fixed42_s he hr) Casts.refl (by kernel_rfl) rfl rfl rfl ?_
  refine After.pure (by repeat (first | exact Reads.nil | (refine Reads.blk ?_ ?_; focus ((repeat first|assumption|exact m0|apply m1); done)) | (refine Reads.rd ?_ ?_; focus ((repeat first|assumption|exact m0|apply m1); done)) | (refine Reads.pc ?_ ?_; focus ((repeat first|assumption|exact m0|apply m1); done)) | (refine Reads.rdpc ?_ ?_; focus ((repeat first|assumption|exact m0|apply m1); done)))) (fun _ => rfl) ?_
  intro _
  refine SL.val (Val.notT rfl) rfl rfl ?_
  refine SL.nil (SE.seq ?_)
  refine SC.condF rfl ?_
  refine SC.skip ?_
  refine SE.seq ?_
  refine SC.seq ?_
  refine SC.seq (SC.region ?_)
  refine SL.val (Val.move rfl) rfl rfl ?_
  refine SL.call (few42_s (h := h)) Casts.refl (by kernel_rfl) rfl rfl rfl ?_
  refine After.pure (by repeat (first | exact Reads.nil | (refine Reads.blk ?_ ?_; focus ((repeat first|assumption|exact m0|apply m1); done)) | (refine Reads.rd ?_ ?_; focus ((repeat first|assumption|exact m0|apply m1); done)) | (refine Reads.pc ?_ ?_; focus ((repeat first|assumption|exact m0|apply m1); done)) | (refine Reads.rdpc ?_ ?_; focus ((repeat first|assumption|exact m0|apply m1); done)))) (fun _ => rfl) ?_
  intro _
  refine SL.val (Val.notP rfl) rfl rfl ?_
  refine SL.nil (SE.seq ?_)
  refine SC.condP rfl ?_ ?_
  · intro hc26
    refine SC.seq (SC.region ?_)
    refine SL.val (Val.assign rfl) rfl rfl ?_
    refine SL.nil (SE.seq ?_)
    refine SC.ret ?_
    refine SE.then_ (by intro h; cases h) ?_
    refine SE.fin (rs := [.tmp 8]) rfl (RV.tmp rfl RV.nil) (()) (by repeat first|exact s0 _|exact s1 _|apply s2|apply s3) (by simp [It.rids]) ?_
    exact rfl
  intro hc26
  have hfw : FewH h := Classical.byContradiction hc26
  have hro : ∀ b ∈ h, b.length ≤ 10 := fun b hb => hfw.row hb
  have hn40 : h.length ≤ 40 := hfw.len
  have hss := hfw.szs
  refine SC.skip ?_
  refine SE.seq ?_
  refine SC.seq (SC.region ?_)
  refine SL.val (Val.move rfl) rfl rfl ?_
  refine SL.val (Val.move rfl) rfl rfl ?_
  refine SL.val (Val.move rfl) rfl rfl ?_
  refine SL.val (Val.move rfl) rfl rfl ?_
  refine SL.call (when_s (name := name) (state := state) (n := n) (h := h) he hr hh hro hn40) Casts.refl (by kernel_rfl) rfl rfl rfl ?_
  refine After.pure (by repeat (first | exact Reads.nil | (refine Reads.blk ?_ ?_; focus ((repeat first|assumption|exact m0|apply m1); done)) | (refine Reads.rd ?_ ?_; focus ((repeat first|assumption|exact m0|apply m1); done)) | (refine Reads.pc ?_ ?_; focus ((repeat first|assumption|exact m0|apply m1); done)) | (refine Reads.rdpc ?_ ?_; focus ((repeat first|assumption|exact m0|apply m1); done)))) (fun _ => rfl) ?_
  intro _
  refine SL.val (Val.move rfl) rfl rfl ?_
  refine SL.val (Val.extract rfl rfl) rfl rfl ?_
  refine SL.val (Val.extract rfl rfl) rfl rfl ?_
  refine SL.val (Val.assign rfl) rfl rfl ?_
  refine SL.val (Val.assign rfl) rfl rfl ?_
  refine SL.nil (SE.seq ?_)
  refine SC.seq (SC.region ?_)
  refine SL.val (Val.move rfl) rfl rfl ?_
  refine SL.val (Val.move rfl) rfl rfl ?_
  refine SL.val (Val.move rfl) rfl rfl ?_
  refine SL.val (Val.move rfl) rfl rfl ?_
  refine SL.call (rwhen_s (name := name) (state := state) (n := n) (h := h) hh hro hn40 hss) Casts.refl (by kernel_rfl) rfl rfl rfl ?_
  refine After.pure (by repeat (first | exact Reads.nil | (refine Reads.blk ?_ ?_; focus ((repeat first|assumption|exact m0|apply m1); done)) | (refine Reads.rd ?_ ?_; focus ((repeat first|assumption|exact m0|apply m1); done)) | (refine Reads.pc ?_ ?_; focus ((repeat first|assumption|exact m0|apply m1); done)) | (refine Reads.rdpc ?_ ?_; focus ((repeat first|assumption|exact m0|apply m1); done)))) (fun _ => rfl) ?_
  intro _
  refine SL.val (Val.move rfl) rfl rfl ?_
  refine SL.val (Val.extract rfl rfl) rfl rfl ?_
  refine SL.val (Val.extract rfl rfl) rfl rfl ?_
  refine SL.val (Val.assign rfl) rfl rfl ?_
  refine SL.val (Val.assign rfl) rfl rfl ?_
  refine SL.nil (SE.seq ?_)
  refine SC.seq (SC.region ?_)
  refine SL.val (Val.move rfl) rfl rfl ?_
  refine SL.val (Val.move rfl) rfl rfl ?_
  refine SL.val (Val.move rfl) rfl rfl ?_
  refine SL.call (took_s (name := name) (n := n) (h := h) he hr hh hro hn40 ⟨firstF_bd.1, Int.le_trans firstF_bd.2 (by omega)⟩ ⟨firstF_bd.1, Int.le_trans firstF_bd.2 (by omega)⟩) Casts.refl (by kernel_rfl) rfl rfl rfl ?_
  refine After.pure (by repeat (first | exact Reads.nil | (refine Reads.blk ?_ ?_; focus ((repeat first|assumption|exact m0|apply m1); done)) | (refine Reads.rd ?_ ?_; focus ((repeat first|assumption|exact m0|apply m1); done)) | (refine Reads.pc ?_ ?_; focus ((repeat first|assumption|exact m0|apply m1); done)) | (refine Reads.rdpc ?_ ?_; focus ((repeat first|assumption|exact m0|apply m1); done)))) (fun _ => rfl) ?_
  intro _
  refine SL.val (Val.move rfl) rfl rfl ?_
  refine SL.val (Val.extract rfl rfl) rfl rfl ?_
  refine SL.val (Val.extract rfl rfl) rfl rfl ?_
  refine SL.val (Val.assign rfl) rfl rfl ?_
  refine SL.val (Val.assign rfl) rfl rfl ?_
  refine SL.nil (SE.seq ?_)
  refine SC.seq (SC.region ?_)
  refine SL.val (Val.move rfl) rfl rfl ?_
  refine SL.val (Val.move rfl) rfl rfl ?_
  refine SL.val (Val.move rfl) rfl rfl ?_
  refine SL.call (rtook_s (name := name) (n := n) (h := h) hh hro hn40 hss) Casts.refl (by kernel_rfl) rfl rfl rfl ?_
  refine After.pure (by repeat (first | exact Reads.nil | (refine Reads.blk ?_ ?_; focus ((repeat first|assumption|exact m0|apply m1); done)) | (refine Reads.rd ?_ ?_; focus ((repeat first|assumption|exact m0|apply m1); done)) | (refine Reads.pc ?_ ?_; focus ((repeat first|assumption|exact m0|apply m1); done)) | (refine Reads.rdpc ?_ ?_; focus ((repeat first|assumption|exact m0|apply m1); done)))) (fun _ => rfl) ?_
  intro _
  refine SL.val (Val.move rfl) rfl rfl ?_
  refine SL.val (Val.extract rfl rfl) rfl rfl ?_
  refine SL.val (Val.extract rfl rfl) rfl rfl ?_
  refine SL.val (Val.assign rfl) rfl rfl ?_
  refine SL.val (Val.assign rfl) rfl rfl ?_
  refine SL.nil (SE.seq ?_)
  refine SC.seq (SC.region ?_)
  refine SL.val (Val.move rfl) rfl rfl ?_
  refine SL.val (Val.move rfl) rfl rfl ?_
  refine SL.call (rledgers_s (n := n) hh hro hss hn40) Casts.refl (by kernel_rfl) rfl rfl rfl ?_
  refine After.pure (by repeat (first | exact Reads.nil | (refine Reads.blk ?_ ?_; focus ((repeat first|assumption|exact m0|apply m1); done)) | (refine Reads.rd ?_ ?_; focus ((repeat first|assumption|exact m0|apply m1); done)) | (refine Reads.pc ?_ ?_; focus ((repeat first|assumption|exact m0|apply m1); done)) | (refine Reads.rdpc ?_ ?_; focus ((repeat first|assumption|exact m0|apply m1); done)))) (fun _ => rfl) ?_
  intro _
  refine SL.val (Val.assign rfl) rfl rfl ?_
  refine SL.nil (SE.seq ?_)
  refine SC.seq (SC.region ?_)
  refine SL.val (Val.move rfl) rfl rfl ?_
  refine SL.val (Val.move rfl) rfl rfl ?_
  refine SL.val (Val.to (C := int ((h.length + 1 : Nat) : Int)) (Val.lenSl (m := h.length + 1) rfl Tryz.underlying39 (by rw [List.length_map, ldgs_len])) rfl) rfl rfl ?_
  refine SL.val (Val.to (C := int (h.length : Nat)) (Val.subI rfl rfl (by simp only [InR, lo, hi]; omega)) (by refine congrArg int ?_; omega)) rfl rfl ?_
  refine SL.val (Val.indexSl (q := h.length) (cs := (ldgAt n Lg.zero h).abs) tabOk Tryz.underlying39 rfl rfl rfl rfl (by rw [List.getElem?_map, ldgs_last]; rfl) rfl rfl) rfl rfl ?_
  first
    | refine SL.val (Val.fieldAddr tabOk rfl rfl rfl rfl rfl) rfl rfl ?_
    | refine SL.val (Val.fieldAddrR tabOk rfl rfl rfl rfl rfl) rfl rfl ?_
  refine SL.val (Val.to (C := ltrsA (ldgAt n Lg.zero h).ls) (Val.load1R tabOk rfl rfl rfl) rfl) rfl rfl ?_
  refine SL.val (Val.assign rfl) rfl rfl ?_
  refine SL.nil (SE.seq ?_)
  refine SC.seq (SC.region ?_)
  refine SL.val (Val.move rfl) rfl rfl ?_
  refine SL.val (Val.move rfl) rfl rfl ?_
  refine SL.call (names_s (n := n) (h := h) he hr hh hro hn40) Casts.refl (by kernel_rfl) rfl rfl rfl ?_
  refine After.pure (by repeat (first | exact Reads.nil | (refine Reads.blk ?_ ?_; focus ((repeat first|assumption|exact m0|apply m1); done)) | (refine Reads.rd ?_ ?_; focus ((repeat first|assumption|exact m0|apply m1); done)) | (refine Reads.pc ?_ ?_; focus ((repeat first|assumption|exact m0|apply m1); done)) | (refine Reads.rdpc ?_ ?_; focus ((repeat first|assumption|exact m0|apply m1); done)))) (fun _ => rfl) ?_
  intro _
  rw [names_eq]
  refine SL.val (Val.assign rfl) rfl rfl ?_
  refine SL.nil (SE.seq ?_)
  refine SC.seq ?_
  refine SC.seq (SC.region ?_)
  refine SL.val (Val.move rfl) rfl rfl ?_
  first
    | refine SL.val (Val.lenSl rfl Tryz.underlying41 (List.length_map _)) rfl rfl ?_
    | refine SL.val (Val.lenOwn rfl (by repeat first|assumption|exact m0|apply m1) Tryz.underlying41 (List.length_map _)) rfl rfl ?_
    | refine SL.val (Val.lenNil rfl Tryz.underlying41) rfl rfl ?_
  refine SL.val (Val.move rfl) rfl rfl ?_
  refine SL.nil (SE.seq ?_)
  refine SC.block ?_
  refine SC.rowLe (i := 70) rfl fun hrow => ?_
  rw [List.length_map] at hrow
  unfold maxLen at hrow
  refine SC.loop (ι := Nat) (fun z => (globs e1 e2)) (fun z => [(9, int (firstF n h name (fun x => decide (x.state = state))).1), (10, boo (firstF n h name (fun x => decide (x.state = state))).2), (11, int (firstF n h name (fun x => decide (x.state = state))).1), (12, boo (firstF n h name (fun x => decide (x.state = state))).2), (13, int (tookF n h name).1), (14, boo (tookF n h name).2), (15, int (tookF n h name).1), (16, boo (tookF n h name).2), (18, ltrsA (ldgAt n Lg.zero h).ls), (19, .sl 1 (((ldgAt n Lg.zero h).ls.map (·.name)).map fun x => [st x])), (70, ltrsA (ldgAt n Lg.zero h).ls), (71, int ((ldgAt n Lg.zero h).ls.length : Nat)), (72, int (z : Nat))]) (fun z => z ≤ (ldgAt n Lg.zero h).ls.length) (fun z => (ldgAt n Lg.zero h).ls.length - z) (0) (Nat.zero_le _) (by exact ⟨rfl, rfl, rfl, rfl, rfl, rfl, rfl, rfl, rfl, rfl, rfl, rfl, rfl, trivial⟩) (by repeat first|exact s0 _|exact s1 _|apply s2|apply s3) ?_
  intro z hz
  refine SC.seq (SC.region ?_)
  refine SL.val (Val.ltI rfl rfl) rfl rfl ?_
  refine SL.nil (SE.seq ?_)
  refine SC.seq ?_
  refine SC.condP rfl ?_ ?_
  · intro hc73
    have hlt : z < (ldgAt n Lg.zero h).ls.length := by omega
    refine SC.skip ?_
    refine SE.seq ?_
    refine SC.seq ?_
    refine SC.block ?_
    refine SC.seq (SC.region ?_)
    refine SL.val (Val.move rfl) rfl rfl ?_
    refine SL.val (Val.indexSl tabOk Tryz.underlying41 rfl rfl rfl rfl (at_map (by omega)) rfl rfl) rfl rfl ?_
    refine SL.val (Val.loadAR tabOk rfl rfl rfl (by rfl)) rfl rfl ?_
    refine SL.eff (Eff.alloc tabOk rfl) rfl rfl ?_
    rintro _ _ ⟨b21, rfl, rfl⟩
    refine SL.val (Val.assign rfl) rfl rfl ?_
    refine SL.eff (Eff.store (L' := ltrA ((ldgAt n Lg.zero h).ls[z]'hlt)) tabOk rfl rfl rfl (by repeat first|assumption|exact Upd.here|apply Upd.there) rfl (Nat.le_of_ble_eq_true (by rfl)) rfl (by exact putL_whole rfl)) rfl rfl ?_
    rintro _ _ ⟨rfl, rfl⟩
    refine SL.nil (SE.seq ?_)
    refine SC.seq ?_
    refine SC.draw [] (.q 0 (.q 1 (.q 2 (.q 3 (.q 4 (.q 5 (.q 6 (.q 7 (.q 8 (.q 9 (.q 10 (.q 11 (.q 12 .nil))))))))))))) (by kernel_rfl) (by kernel_rfl) ?_
    refine SX.val rfl (Val.move rfl) (by simp) rfl rfl ?_
    refine SX.val rfl (Val.move rfl) (by simp) rfl rfl ?_
    refine SX.hx (by first|(simp[mids,It.mids,ownPc];done)|(intro k hk;simp[mids,It.mids,ownPc] at hk ⊢;grind)) fun hx9 => ?_
    refine SX.val rfl (Val.to (C := int ((ldgAt n Lg.zero h).ls.length : Nat)) (Val.lenSl (m := (ldgAt n Lg.zero h).ls.length) rfl Tryz.underlying26 (by rw [List.length_map, List.length_map])) rfl) hx9 rfl rfl ?_
    refine SX.val rfl (Val.to (C := boo false) (Val.geI rfl rfl) (congrArg (fun b => Abs.v (Value.bool b)) (decide_eq_false (by omega)))) hx9 rfl rfl ?_
    refine SX.val rfl (Val.move rfl) (by simp) rfl rfl ?_
    refine SX.val rfl (Val.move rfl) (by simp) rfl rfl ?_
    refine SX.val rfl (Val.move rfl) (by simp) rfl rfl ?_
    refine SX.val rfl (Val.indexSl (q := z) (cs := [st ((ldgAt n Lg.zero h).ls[z]'hlt).name]) tabOk Tryz.underlying26 rfl rfl rfl rfl (by rw [List.getElem?_map, List.getElem?_map, List.getElem?_eq_getElem hlt]; rfl) rfl rfl) hx9 rfl rfl ?_
    refine SX.val rfl (Val.to (C := st ((ldgAt n Lg.zero h).ls[z]'hlt).name) (Val.load1R tabOk rfl rfl rfl) rfl) hx9 rfl rfl ?_
    refine SX.val rfl (Val.fieldAddr tabOk rfl rfl rfl rfl rfl) (by simp) rfl rfl ?_
    refine SX.val rfl (Val.to (C := st ((ldgAt n Lg.zero h).ls[z]'hlt).name) (Val.load1 tabOk rfl rfl (by first|(apply Or.inl;(repeat first|assumption|exact m0|apply m1);done)|(apply Or.inr;(repeat first|assumption|exact m0|apply m1);done)) List.not_mem_nil (by rfl)) rfl) hx9 rfl rfl ?_
    refine SX.val rfl (Val.to (C := boo false) (Val.neS rfl rfl) (congrArg (fun b => Abs.v (Value.bool b)) (decide_eq_false (by simp)))) hx9 rfl rfl ?_
    refine SX.val rfl (Val.pickF rfl rfl) (by simp) rfl rfl ?_
    refine SX.nil (SE.seq ?_)
    refine SC.condF rfl ?_
    refine SC.skip ?_
    refine SE.inBlock ?_
    refine SE.seq ?_
    refine SC.region ?_
    first
      | refine SL.val (Val.addI rfl rfl (by simp only [InR, lo, hi]; omega)) rfl rfl ?_
      | refine SL.val (Val.addW rfl rfl) rfl rfl ?_
    refine SL.val (Val.move rfl) rfl rfl ?_
    refine SL.nil ?_
    refine SE.round (z + 1) (by first | omega | (dsimp only; omega)) (by first | omega | (dsimp only; omega)) (by exact ⟨rfl, rfl, rfl, rfl, rfl, rfl, rfl, rfl, rfl, rfl, rfl, rfl, rfl, trivial⟩) (by repeat first|exact s0 _|exact s1 _|apply s2|apply s3)
  intro hc73
  refine SC.exit ?_
  refine SE.then_ (by intro h; cases h) ?_
  refine SE.then_ (by intro h; cases h) ?_
  refine SE.exit ?_
  refine SE.seq ?_
  refine SC.seq (SC.region ?_)
  refine SL.val (Val.move rfl) rfl rfl ?_
  refine SL.val (Val.move rfl) rfl rfl ?_
  refine SL.val (Val.to (C := boo true) (Val.eqI rfl rfl) (congrArg (fun b => Abs.v (Value.bool b)) (decide_eq_true (rfl)))) rfl rfl ?_
  refine SL.val (Val.move rfl) rfl rfl ?_
  refine SL.val (Val.move rfl) rfl rfl ?_
  refine SL.val (Val.move rfl) rfl rfl ?_
  refine SL.val (Val.to (C := boo true) (Val.eqB rfl rfl (by kernel_rfl)) (congrArg (fun b => Abs.v (Value.bool b)) (by simp))) rfl rfl ?_
  refine SL.val (Val.pickT rfl rfl) rfl rfl ?_
  refine SL.val (Val.move rfl) rfl rfl ?_
  refine SL.val (Val.move rfl) rfl rfl ?_
  refine SL.val (Val.move rfl) rfl rfl ?_
  refine SL.val (Val.to (C := boo true) (Val.eqB rfl rfl (by kernel_rfl)) (congrArg (fun b => Abs.v (Value.bool b)) (by simp))) rfl rfl ?_
  refine SL.val (Val.pickT rfl rfl) rfl rfl ?_
  refine SL.val (Val.move rfl) rfl rfl ?_
  refine SL.val (Val.move rfl) rfl rfl ?_
  refine SL.val (Val.notB rfl) rfl rfl ?_
  refine SL.val (Val.move rfl) rfl rfl ?_
  refine SL.both (t := 107) rfl ?_ ?_
  · intro hc107
    iterate 3 refine SL.skip rfl rfl ?_
    refine SL.val (Val.pickT rfl rfl) rfl rfl ?_
    refine SL.val (Val.pickT rfl rfl) rfl rfl ?_
    refine SL.val (Val.move rfl) rfl rfl ?_
    refine SL.val (Val.move rfl) rfl rfl ?_
    first
      | refine SL.val (Val.lenSl rfl Tryz.underlying26 (List.length_map _)) rfl rfl ?_
      | refine SL.val (Val.lenOwn rfl (by repeat first|assumption|exact m0|apply m1) Tryz.underlying26 (List.length_map _)) rfl rfl ?_
      | refine SL.val (Val.lenNil rfl Tryz.underlying26) rfl rfl ?_
    refine SL.val (Val.move rfl) rfl rfl ?_
    first
      | refine SL.val (Val.lenSl rfl Tryz.underlying41 (List.length_map _)) rfl rfl ?_
      | refine SL.val (Val.lenOwn rfl (by repeat first|assumption|exact m0|apply m1) Tryz.underlying41 (List.length_map _)) rfl rfl ?_
      | refine SL.val (Val.lenNil rfl Tryz.underlying41) rfl rfl ?_
    refine SL.val (Val.to (C := boo true) (Val.eqI rfl rfl) (congrArg (fun b => Abs.v (Value.bool b)) (decide_eq_true (by simp)))) rfl rfl ?_
    refine SL.val (Val.pickT rfl rfl) rfl rfl ?_
    refine SL.val (Val.assign rfl) rfl rfl ?_
    refine SL.nil (SE.seq ?_)
    refine SC.ret ?_
    refine SE.fin (rs := [.tmp 8]) rfl (RV.tmp rfl RV.nil) (()) (by repeat first|exact s0 _|exact s1 _|apply s2|apply s3) (by simp [It.rids]) ?_
    exact rfl
  intro hc107
  refine SL.val (Val.move rfl) rfl rfl ?_
  refine SL.val (Val.move rfl) rfl rfl ?_
  refine SL.val (Val.to (C := boo true) (Val.eqI rfl rfl) (congrArg (fun b => Abs.v (Value.bool b)) (decide_eq_true (rfl)))) rfl rfl ?_
  refine SL.val (Val.pickF rfl rfl) rfl rfl ?_
  refine SL.val (Val.pickT rfl rfl) rfl rfl ?_
  refine SL.val (Val.move rfl) rfl rfl ?_
  refine SL.val (Val.move rfl) rfl rfl ?_
  first
    | refine SL.val (Val.lenSl rfl Tryz.underlying26 (List.length_map _)) rfl rfl ?_
    | refine SL.val (Val.lenOwn rfl (by repeat first|assumption|exact m0|apply m1) Tryz.underlying26 (List.length_map _)) rfl rfl ?_
    | refine SL.val (Val.lenNil rfl Tryz.underlying26) rfl rfl ?_
  refine SL.val (Val.move rfl) rfl rfl ?_
  first
    | refine SL.val (Val.lenSl rfl Tryz.underlying41 (List.length_map _)) rfl rfl ?_
    | refine SL.val (Val.lenOwn rfl (by repeat first|assumption|exact m0|apply m1) Tryz.underlying41 (List.length_map _)) rfl rfl ?_
    | refine SL.val (Val.lenNil rfl Tryz.underlying41) rfl rfl ?_
  refine SL.val (Val.to (C := boo true) (Val.eqI rfl rfl) (congrArg (fun b => Abs.v (Value.bool b)) (decide_eq_true (by simp)))) rfl rfl ?_
  refine SL.val (Val.pickT rfl rfl) rfl rfl ?_
  refine SL.val (Val.assign rfl) rfl rfl ?_
  refine SL.nil (SE.seq ?_)
  refine SC.ret ?_
  refine SE.fin (rs := [.tmp 8]) rfl (RV.tmp rfl RV.nil) (()) (by repeat first|exact s0 _|exact s1 _|apply s2|apply s3) (by simp [It.rids]) ?_
  exact rfl
end
end Go.Proofs.YtnedfcaoggkmnaaGreatDoor.A
