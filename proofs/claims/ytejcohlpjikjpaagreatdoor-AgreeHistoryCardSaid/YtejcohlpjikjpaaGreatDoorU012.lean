/-
  Packed out of the texts: CT1, TM2, TRow, TPar, TDoc.
-/
import Derived.Test.YtejcohlpjikjpaaGreatDoorU011
/-
  The document's ledgers: what is told last, and put in.
-/
set_option maxRecDepth 100000
set_option linter.unusedSimpArgs false
set_option linter.unusedVariables false
namespace Go.Proofs.YtejcohlpjikjpaaGreatDoor.A
open Go.RowKit

section
variable {l : Lg} {k n : Int} {s : ByteArray} {c : Core} {e : Ent} {es : List Ent} {e1 e2 : Value}
theorem rlast_s  : Spec Tryz.prog 67 [.agg l.abs, int k] [] (fun _ : Unit => []) (fun _ => .tup [.agg (Oc.abs ((l.last k).getD Oc.zero)), boo (l.last k).isSome]) := by
 refine spec_of Tryz.func67 rfl Tryz.ntmps67 rfl fun G w => ?_
 refine SC.seq (SC.region ?_)
 refine SL.eff (Eff.boxA (cs := l.abs) rfl) rfl rfl ?_
 rintro _ _ ⟨b2, rfl, rfl⟩
 refine SL.eff (Eff.alloc tabOk rfl) rfl rfl ?_
 rintro _ _ ⟨b4, rfl, rfl⟩
 refine SL.val (Val.assign rfl) rfl rfl ?_
 refine SL.nil (SE.seq ?_)
 refine SC.seq ?_
 refine SC.seq (SC.region ?_)
 refine SL.val (Val.fieldAddr tabOk rfl rfl rfl rfl rfl) rfl rfl ?_
 refine SL.val (Val.to (C := .sl 3 (l.os.map Oc.abs)) (Val.load1 tabOk rfl rfl (by repeat first|assumption|exact o0_|exact o1_|apply o2_) List.not_mem_nil (by rfl)) rfl) rfl rfl ?_
 first
  | refine SL.val (Val.lenSl rfl Tryz.underlying64 (List.length_map _)) rfl rfl ?_
  | refine SL.val (Val.lenOwn rfl (by repeat first|assumption|exact m0|apply m1) Tryz.underlying64 (List.length_map _)) rfl rfl ?_
  | refine SL.val (Val.lenNil rfl Tryz.underlying64) rfl rfl ?_
 refine SL.val (Val.move rfl) rfl rfl ?_
 refine SL.nil (SE.seq ?_)
 refine SC.block ?_
 refine SC.rowLe (i := 9) rfl fun hrow => ?_
 rw [List.length_map] at hrow
 unfold maxLen at hrow
 refine SC.loop (ι := Nat) (fun z => [.blk b4 76 (Oc.abs Oc.zero)]) (fun z => [(1, int k), (4, ptr b4), (9, outA l.os), (10, int (l.os.length : Nat)), (11, int (z : Nat))]) (fun z => z ≤ l.os.length ∧ ∀ j (h : j < l.os.length), j < z → ¬ l.os[j].client = k) (fun z => l.os.length - z) (0) (⟨Nat.zero_le _, fun j h h2 => by omega⟩) (by exact ⟨rfl, rfl, rfl, rfl, rfl, trivial⟩) (by repeat first|exact s0 _|exact s1 _|apply s2|apply s3) ?_
 intro z hz
 refine SC.seq (SC.region ?_)
 refine SL.val (Val.ltI rfl rfl) rfl rfl ?_
 refine SL.nil (SE.seq ?_)
 refine SC.seq ?_
 refine SC.condP rfl ?_ ?_
 rotate_left
 ·intro hc12
  refine SC.exit ?_
  refine SE.then_ nofun ?_
  refine SE.then_ nofun ?_
  refine SE.exit ?_
  refine SE.seq ?_
  refine SC.seq (SC.region ?_)
  refine SL.val (Val.buildS tabOk rfl rfl rfl rfl) rfl rfl ?_
  refine SL.eff (Eff.store (L' := Oc.abs Oc.zero) tabOk rfl rfl rfl (by repeat first|assumption|exact Upd.here|apply Upd.there) rfl (lb_ (by rfl)) rfl (by exact putL_whole rfl)) rfl rfl ?_
  rintro _ _ ⟨rfl, rfl⟩
  refine SL.val (Val.assign rfl) rfl rfl ?_
  refine SL.nil (SE.seq ?_)
  refine SC.ret ?_
  have hfn : l.last k = none := by
   unfold Lg.last
   rw [List.find?_eq_none]
   intro y hy
   obtain ⟨j, hj, rfl⟩ := List.getElem_of_mem hy
   simpa using hz.2 j hj (by omega)
  refine SE.fin (rs := [.cell 4 76, .tmp 5]) rfl (RV.cell rfl (RV.cellA tabOk rfl rfl (by repeat first|assumption|exact o0_|exact o1_|apply o2_) (by rfl)) (RV.tmp rfl RV.nil)) (()) (by repeat first|exact s0 _|exact s1 _|apply s2|apply s3) (by simp [It.rids]) ?_
  rw [hfn]
  rfl
 intro hc12
 have hlt : z < l.os.length := by omega
 refine SC.skip ?_
 refine SE.seq ?_
 refine SC.seq ?_
 refine SC.block ?_
 refine SC.seq (SC.region ?_)
 refine SL.val (Val.indexSl tabOk Tryz.underlying64 rfl rfl rfl rfl (at_map (by omega)) rfl rfl) rfl rfl ?_
 refine SL.val (Val.loadAR tabOk rfl rfl rfl (by rfl)) rfl rfl ?_
 refine SL.eff (Eff.alloc tabOk rfl) rfl rfl ?_
 rintro _ _ ⟨b7, rfl, rfl⟩
 refine SL.eff (Eff.store (L' := Oc.abs (l.os[z]'hlt)) tabOk rfl rfl rfl (by repeat first|assumption|exact Upd.here|apply Upd.there) rfl (lb_ (by rfl)) rfl (by exact putL_whole rfl)) rfl rfl ?_
 rintro _ _ ⟨rfl, rfl⟩
 refine SL.nil (SE.seq ?_)
 refine SC.seq (SC.region ?_)
 refine SL.val (Val.fieldAddr tabOk rfl rfl rfl rfl rfl) rfl rfl ?_
 refine SL.val (Val.to (C := int (l.os[z]'hlt).client) (Val.load1 tabOk rfl rfl (by repeat first|assumption|exact o0_|exact o1_|apply o2_) List.not_mem_nil (by rfl)) rfl) rfl rfl ?_
 refine SL.val (Val.move rfl) rfl rfl ?_
 refine SL.val (Val.eqI rfl rfl) rfl rfl ?_
 refine SL.nil (SE.seq ?_)
 refine SC.condP rfl ?_ ?_
 rotate_left
 ·intro hc18
  refine SC.skip ?_
  refine SE.inBlock ?_
  refine SE.seq ?_
  refine SC.region ?_
  first
   | refine SL.val (Val.addI rfl rfl (by simp only [InR, lo, hi]; omega)) rfl rfl ?_
   | refine SL.val (Val.addW rfl rfl) rfl rfl ?_
  refine SL.val (Val.move rfl) rfl rfl ?_
  refine SL.nil ?_
  refine SE.round (z + 1) (by first | omega | (dsimp only; omega)) (⟨by omega, fun j h h2 => by rcases Nat.lt_or_ge j z with h3 | h3; exact hz.2 j h h3; obtain rfl : j = z := (by omega); exact hc18⟩) (by exact ⟨rfl, rfl, rfl, rfl, rfl, trivial⟩) (by repeat first|exact s0 _|exact s1 _|apply s2|apply s3)
 intro hc18
 refine SC.seq (SC.region ?_)
 refine SL.val (Val.loadA tabOk rfl rfl rfl (by repeat first|assumption|exact o0_|exact o1_|apply o2_) List.not_mem_nil (by rfl)) rfl rfl ?_
 refine SL.eff (Eff.store (L' := Oc.abs (l.os[z]'hlt)) tabOk rfl rfl rfl (by repeat first|assumption|exact Upd.here|apply Upd.there) rfl (lb_ (by rfl)) rfl (by exact putL_whole rfl)) rfl rfl ?_
 rintro _ _ ⟨rfl, rfl⟩
 refine SL.val (Val.assign rfl) rfl rfl ?_
 refine SL.nil (SE.seq ?_)
 refine SC.ret ?_
 refine SE.ret ?_
 refine SE.then_ nofun ?_
 refine SE.then_ nofun ?_
 refine SE.ret ?_
 refine SE.then_ nofun ?_
 have hfs : l.last k = some (l.os[z]'hlt) := by
  unfold Lg.last
  rw [List.find?_eq_some_iff_getElem]
  exact ⟨decide_eq_true hc18, z, hlt, rfl, fun j hj => by simpa using hz.2 j (by omega) hj⟩
 refine SE.fin (rs := [.cell 4 76, .tmp 5]) rfl (RV.cell rfl (RV.cellA tabOk rfl rfl (by repeat first|assumption|exact o0_|exact o1_|apply o2_) (by rfl)) (RV.tmp rfl RV.nil)) (()) (by repeat first|exact s0 _|exact s1 _|apply s2|apply s3) (by simp [It.rids]) ?_
 rw [hfs]
 rfl
end
section
variable {l : Lg} {x : Oc}
set_option maxHeartbeats 4000000 in
theorem rtold_s (hf : l.Few) : Spec Tryz.prog 55 [.agg l.abs, .agg x.abs] [] (fun _ : Unit => []) (fun _ => .agg (l.told x).abs) := by
 have hf1 := hf.ls
 have hf2 := hf.os
 refine spec_of Tryz.func55 rfl Tryz.ntmps55 rfl fun G w => ?_
 refine SC.seq (SC.region ?_)
 refine SL.eff (Eff.boxA (cs := l.abs) rfl) rfl rfl ?_
 rintro _ _ ⟨b2, rfl, rfl⟩
 refine SL.eff (Eff.boxA (cs := x.abs) rfl) rfl rfl ?_
 rintro _ _ ⟨b3, rfl, rfl⟩
 refine SL.eff (Eff.alloc tabOk rfl) rfl rfl ?_
 rintro _ _ ⟨b4, rfl, rfl⟩
 refine SL.nil (SE.seq ?_)
 refine SC.seq (SC.region ?_)
 refine SL.val (Val.assign rfl) rfl rfl ?_
 refine SL.nil (SE.seq ?_)
 refine SC.seq (SC.region ?_)
 refine SL.val (Val.to (C := .agg l.abs) (Val.loadP tabOk rfl rfl rfl (by repeat first|assumption|exact o0_|exact o1_|apply o2_) List.not_mem_nil (lb_ (by rfl))) rfl) rfl rfl ?_
 refine SL.val (Val.fieldAddr tabOk rfl rfl rfl rfl rfl) rfl rfl ?_
 refine SL.val (Val.to (C := int x.client) (Val.load1 tabOk rfl rfl (by repeat first|assumption|exact o0_|exact o1_|apply o2_) List.not_mem_nil (by rfl)) rfl) rfl rfl ?_
 refine SL.call (rlast_s (l := l) (k := x.client)) Casts.refl (by kernel_rfl) rfl rfl rfl ?_
 refine ap_ ?_
 intro _
 rw [show (l.last x.client).isSome = l.os.any (eqO x.client) from find_isSome]
 refine SL.val (Val.move rfl) rfl rfl ?_
 refine SL.val (Val.extract rfl rfl) rfl rfl ?_
 refine SL.val (Val.extract rfl rfl) rfl rfl ?_
 refine SL.eff (Eff.alloc tabOk rfl) rfl rfl ?_
 rintro _ _ ⟨b6, rfl, rfl⟩
 refine SL.eff (Eff.store (L' := Oc.abs ((l.last x.client).getD Oc.zero)) tabOk rfl rfl rfl (by repeat first|assumption|exact Upd.here|apply Upd.there) rfl (lb_ (by rfl)) rfl (by exact putL_whole rfl)) rfl rfl ?_
 rintro _ _ ⟨rfl, rfl⟩
 refine SL.val (Val.assign rfl) rfl rfl ?_
 refine SL.nil (SE.seq ?_)
 refine SC.seq (SC.region ?_)
 refine SL.val (Val.assign rfl) rfl rfl ?_
 refine SL.nil (SE.seq ?_)
 refine SC.seq ?_
 refine SC.seq (SC.region ?_)
 refine SL.val (Val.fieldAddr tabOk rfl rfl rfl rfl rfl) rfl rfl ?_
 refine SL.val (Val.to (C := .sl 3 (l.os.map Oc.abs)) (Val.load1 tabOk rfl rfl (by repeat first|assumption|exact o0_|exact o1_|apply o2_) List.not_mem_nil (by rfl)) rfl) rfl rfl ?_
 first
  | refine SL.val (Val.lenSl rfl Tryz.underlying64 (List.length_map _)) rfl rfl ?_
  | refine SL.val (Val.lenOwn rfl (by repeat first|assumption|exact m0|apply m1) Tryz.underlying64 (List.length_map _)) rfl rfl ?_
  | refine SL.val (Val.lenNil rfl Tryz.underlying64) rfl rfl ?_
 refine SL.val (Val.move rfl) rfl rfl ?_
 refine SL.nil (SE.seq ?_)
 refine SC.block ?_
 refine SC.rowLe (i := 19) rfl fun hrow => ?_
 rw [List.length_map] at hrow
 unfold maxLen at hrow
 refine SC.own0 76 3 ?_
 refine SC.loop (ι := Nat × Value) (fun u => (own 76 3 u.2 (((gAt (eqO x.client) (gtO x.client) (l.os.any (eqO x.client)) x l.os (u.1)).1).map Oc.abs) :: [.blk b6 76 (Oc.abs ((l.last x.client).getD Oc.zero)), .blk b4 66 (zabs [.int .i64 0, .int .i64 0, .slice none 0 0, .slice none 0 0]), .blk b3 76 x.abs, .blk b2 66 l.abs])) (fun u => [(2, ptr b2), (3, ptr b3), (4, ptr b4), (7, boo (l.os.any (eqO x.client))), (5, .v u.2), (8, boo (gAt (eqO x.client) (gtO x.client) (l.os.any (eqO x.client)) x l.os (u.1)).2), (19, .sl 3 (l.os.map Oc.abs)), (20, int (l.os.length : Nat)), (21, int (u.1 : Nat))]) (fun u => u.1 ≤ l.os.length) (fun u => l.os.length - u.1) (0, .slice none 0 0) (Nat.zero_le _) (by exact ⟨rfl, rfl, rfl, rfl, rfl, rfl, rfl, rfl, rfl, trivial⟩) (by repeat first|exact s0 _|exact s1 _|apply s2|apply s3) ?_
 intro u hu
 refine SC.seq (SC.region ?_)
 refine SL.val (Val.ltI rfl rfl) rfl rfl ?_
 refine SL.nil (SE.seq ?_)
 refine SC.seq ?_
 refine SC.condP rfl ?_ ?_
 rotate_left
 ·intro hc22
  have hal := gAt_len (eq := eqO x.client) (gt := gtO x.client) (th := (l.os.any (eqO x.client))) (x := x) (l := l.os) u.1
  refine SC.exit ?_
  refine SE.then_ nofun ?_
  refine SE.then_ nofun ?_
  refine SE.exit ?_
  refine SE.seq ?_
  refine SC.cutS (ι := Value) (fun z => (own 76 3 z ((withG (eqO x.client) (gtO x.client) x l.os).map Oc.abs) :: [.blk b6 76 (Oc.abs ((l.last x.client).getD Oc.zero)), .blk b4 66 (zabs [.int .i64 0, .int .i64 0, .slice none 0 0, .slice none 0 0]), .blk b3 76 x.abs, .blk b2 66 l.abs])) (fun z => [(2, ptr b2), (3, ptr b3), (4, ptr b4), (5, .v z)]) (fun z => True) ?_ ?_
  ·skip
   refine SC.seq (SC.region ?_)
   refine SL.val (Val.move rfl) rfl rfl ?_
   refine SL.val (Val.notB rfl) rfl rfl ?_
   refine SL.nil (SE.seq ?_)
   refine SC.cond rfl ?_ ?_
   rotate_left
   ·intro hc59
    refine SC.skip ?_
    have hge : gFin x (gAt (eqO x.client) (gtO x.client) (l.os.any (eqO x.client)) x l.os (u.1)) = _ := gAt_end (by omega)
    unfold gFin at hge
    rw [if_pos (by simpa using hc59)] at hge
    refine SE.meet (u.2) (trivial) (by exact ⟨rfl, rfl, rfl, rfl, trivial⟩) (by rw [← hge]; repeat (first | exact List.nil_sublist _ | exact List.Sublist.refl _ | apply List.Sublist.cons_cons | apply List.Sublist.cons))
   intro hc59
   refine SC.region ?_
   refine SL.val (Val.move rfl) rfl rfl ?_
   refine SL.val (Val.loadA tabOk rfl rfl rfl (by repeat first|assumption|exact o0_|exact o1_|apply o2_) List.not_mem_nil (by rfl)) rfl rfl ?_
   refine SL.eff (Eff.buildSl tabOk Tryz.underlying64 rfl rfl rfl rfl rfl rfl rfl) rfl rfl ?_
   rintro _ _ ⟨rfl, rfl⟩
   refine SL.eff (Eff.appendE (zs := ((gAt (eqO x.client) (gtO x.client) (l.os.any (eqO x.client)) x l.os (u.1)).1 ++ [x]).map Oc.abs) tabOk [] (by simp only [List.map_append]; rfl) Tryz.underlying64 rfl rfl rfl rfl rfl rfl (by intro c hc; rw [List.mem_singleton] at hc; subst hc; rfl) (by unfold maxLen; simp only [List.length_map, List.length_append, List.length_cons, List.length_nil]; omega) (by rw [show Tryz.prog.bytesOf 76 = 24 by kernel_rfl]; simp only [List.length_map, List.length_append, List.length_cons, List.length_nil]; omega)) rfl rfl ?_
   rintro _ _ ⟨r63, rfl, rfl⟩
   refine SL.val (Val.assign rfl) rfl rfl ?_
   refine SL.nil ?_
   have hge : gFin x (gAt (eqO x.client) (gtO x.client) (l.os.any (eqO x.client)) x l.os (u.1)) = _ := gAt_end (by omega)
   unfold gFin at hge
   rw [if_neg (by simpa using hc59)] at hge
   refine SE.meet (r63) (trivial) (by exact ⟨rfl, rfl, rfl, rfl, trivial⟩) (by rw [← hge]; repeat (first | exact List.nil_sublist _ | exact List.Sublist.refl _ | apply List.Sublist.cons_cons | apply List.Sublist.cons))
  ·intro z hz
   refine SC.freeze [] (t := 5) rfl rfl ?_
   refine SC.seq (SC.region ?_)
   refine SL.val (Val.move rfl) rfl rfl ?_
   refine SL.val (Val.fieldAddr tabOk rfl rfl rfl rfl rfl) rfl rfl ?_
   refine SL.eff (Eff.store (L' := (l.told x).abs) tabOk rfl rfl rfl (by repeat first|assumption|exact Upd.here|apply Upd.there) rfl (lb_ (by rfl)) rfl (by rfl)) rfl rfl ?_
   rintro _ _ ⟨rfl, rfl⟩
   refine SL.nil (SE.seq ?_)
   refine SC.seq (SC.region ?_)
   refine SL.val (Val.to (C := .agg (l.told x).abs) (Val.loadP tabOk rfl rfl rfl (by repeat first|assumption|exact o0_|exact o1_|apply o2_) List.not_mem_nil (lb_ (by rfl))) rfl) rfl rfl ?_
   refine SL.eff (Eff.store (L' := (l.told x).abs) tabOk rfl rfl rfl (by repeat first|assumption|exact Upd.here|apply Upd.there) rfl (lb_ (by rfl)) rfl (by exact putL_whole rfl)) rfl rfl ?_
   rintro _ _ ⟨rfl, rfl⟩
   refine SL.nil (SE.seq ?_)
   refine SC.ret ?_
   refine SE.fin (rs := [.cell 4 66]) rfl (RV.cell rfl (RV.cellA tabOk rfl rfl (by repeat first|assumption|exact o0_|exact o1_|apply o2_) (by rfl)) RV.nil) (()) (by repeat first|exact s0 _|exact s1 _|apply s2|apply s3) (by simp [It.rids]) ?_
   exact rfl
 intro hc22
 have hlt : u.1 < l.os.length := by omega
 have hal := gAt_len (eq := eqO x.client) (gt := gtO x.client) (th := (l.os.any (eqO x.client))) (x := x) (l := l.os) u.1
 refine SC.skip ?_
 refine SE.seq ?_
 refine SC.seq ?_
 refine SC.block ?_
 refine SC.seq (SC.region ?_)
 refine SL.val (Val.indexSl tabOk Tryz.underlying64 rfl rfl rfl rfl (at_map (by omega)) rfl rfl) rfl rfl ?_
 refine SL.val (Val.loadAR tabOk rfl rfl rfl (by rfl)) rfl rfl ?_
 refine SL.eff (Eff.alloc tabOk rfl) rfl rfl ?_
 rintro _ _ ⟨b10, rfl, rfl⟩
 refine SL.eff (Eff.store (L' := Oc.abs (l.os[u.1]'hlt)) tabOk rfl rfl rfl (by repeat first|assumption|exact Upd.here|apply Upd.there) rfl (lb_ (by rfl)) rfl (by exact putL_whole rfl)) rfl rfl ?_
 rintro _ _ ⟨rfl, rfl⟩
 refine SL.nil (SE.seq ?_)
 refine SC.seq ?_
 refine SC.cutS (ι := Unit) (fun z => (.blk b10 76 (Oc.abs (l.os[u.1]'hlt)) :: own 76 3 u.2 (((gAt (eqO x.client) (gtO x.client) (l.os.any (eqO x.client)) x l.os (u.1)).1).map Oc.abs) :: [.blk b6 76 (Oc.abs ((l.last x.client).getD Oc.zero)), .blk b4 66 (zabs [.int .i64 0, .int .i64 0, .slice none 0 0, .slice none 0 0]), .blk b3 76 x.abs, .blk b2 66 l.abs])) (fun z => [(2, ptr b2), (3, ptr b3), (4, ptr b4), (7, boo (l.os.any (eqO x.client))), (5, .v u.2), (8, boo (gAt (eqO x.client) (gtO x.client) (l.os.any (eqO x.client)) x l.os (u.1)).2), (19, .sl 3 (l.os.map Oc.abs)), (20, int (l.os.length : Nat)), (21, int (u.1 : Nat)), (47, boo (!(gAt (eqO x.client) (gtO x.client) (l.os.any (eqO x.client)) x l.os (u.1)).2 && pickP (l.os.any (eqO x.client)) (eqO x.client) (gtO x.client) (l.os[u.1]'hlt))), (10, ptr b10)]) (fun z => True) ?_ ?_
 ·skip
  refine SC.region ?_
  refine SL.val (Val.move rfl) rfl rfl ?_
  refine SL.val (Val.notB rfl) rfl rfl ?_
  refine SL.val (Val.move rfl) rfl rfl ?_
  refine SL.both (t := 27) rfl ?_ ?_
  rotate_left
  ·intro hc27
   iterate 19 refine SL.skip rfl rfl ?_
   refine SL.val (Val.pickF rfl rfl) rfl rfl ?_
   refine SL.nil ?_
   refine SE.meet (()) (trivial) (by exact ⟨rfl, rfl, rfl, rfl, rfl, rfl, rfl, rfl, rfl, congrArg (fun b : Bool => some (boo b)) (show _ = (!(gAt (eqO x.client) (gtO x.client) (l.os.any (eqO x.client)) x l.os (u.1)).2 && pickP (l.os.any (eqO x.client)) (eqO x.client) (gtO x.client) (l.os[u.1]'hlt)) by (obtain ⟨P, hP⟩ : ∃ P, (gAt (eqO x.client) (gtO x.client) (l.os.any (eqO x.client)) x l.os (u.1)).2 = P := ⟨_, rfl⟩; rw [hP] at hc27; rw [hP]; clear hP hal; obtain ⟨T, hT⟩ : ∃ T, (l.os.any (eqO x.client)) = T := ⟨_, rfl⟩; (try rw [hT] at hc29); (try rw [hT] at hc39); rw [hT]; clear hT; cases P <;> cases T <;> simp_all [pickP])), rfl, trivial⟩) (by repeat first|exact s0 _|exact s1 _|apply s2|apply s3)
  intro hc27
  iterate 2 refine SL.val (Val.move rfl) rfl rfl ?_
  refine SL.both (t := 29) rfl ?_ ?_
  rotate_left
  ·intro hc29
   iterate 5 refine SL.skip rfl rfl ?_
   refine SL.val (Val.pickF rfl rfl) rfl rfl ?_
   iterate 2 refine SL.val (Val.move rfl) rfl rfl ?_
   refine SL.val (Val.notB rfl) rfl rfl ?_
   refine SL.val (Val.move rfl) rfl rfl ?_
   refine SL.both (t := 39) rfl ?_ ?_
   ·intro hc39
    refine SL.val (Val.fieldAddr tabOk rfl rfl rfl rfl rfl) rfl rfl ?_
    refine SL.val (Val.to (C := int (l.os[u.1]'hlt).client) (Val.load1 tabOk rfl rfl (by repeat first|assumption|exact o0_|exact o1_|apply o2_) List.not_mem_nil (by rfl)) rfl) rfl rfl ?_
    refine SL.val (Val.fieldAddr tabOk rfl rfl rfl rfl rfl) rfl rfl ?_
    refine SL.val (Val.to (C := int x.client) (Val.load1 tabOk rfl rfl (by repeat first|assumption|exact o0_|exact o1_|apply o2_) List.not_mem_nil (by rfl)) rfl) rfl rfl ?_
    refine SL.val (Val.gtI rfl rfl) rfl rfl ?_
    refine SL.val (Val.pickT rfl rfl) rfl rfl ?_
    refine SL.val (Val.pickF rfl rfl) rfl rfl ?_
    refine SL.val (Val.pickT rfl rfl) rfl rfl ?_
    refine SL.nil ?_
    refine SE.meet (()) (trivial) (by exact ⟨rfl, rfl, rfl, rfl, rfl, rfl, rfl, rfl, rfl, congrArg (fun b : Bool => some (boo b)) (show _ = (!(gAt (eqO x.client) (gtO x.client) (l.os.any (eqO x.client)) x l.os (u.1)).2 && pickP (l.os.any (eqO x.client)) (eqO x.client) (gtO x.client) (l.os[u.1]'hlt)) by (obtain ⟨P, hP⟩ : ∃ P, (gAt (eqO x.client) (gtO x.client) (l.os.any (eqO x.client)) x l.os (u.1)).2 = P := ⟨_, rfl⟩; rw [hP] at hc27; rw [hP]; clear hP hal; obtain ⟨T, hT⟩ : ∃ T, (l.os.any (eqO x.client)) = T := ⟨_, rfl⟩; (try rw [hT] at hc29); (try rw [hT] at hc39); rw [hT]; clear hT; cases P <;> cases T <;> simp_all [pickP])), rfl, trivial⟩) (by repeat first|exact s0 _|exact s1 _|apply s2|apply s3)
   intro hc39
   iterate 5 refine SL.skip rfl rfl ?_
   refine SL.val (Val.pickF rfl rfl) rfl rfl ?_
   refine SL.val (Val.pickF rfl rfl) rfl rfl ?_
   refine SL.val (Val.pickT rfl rfl) rfl rfl ?_
   refine SL.nil ?_
   refine SE.meet (()) (trivial) (by exact ⟨rfl, rfl, rfl, rfl, rfl, rfl, rfl, rfl, rfl, congrArg (fun b : Bool => some (boo b)) (show _ = (!(gAt (eqO x.client) (gtO x.client) (l.os.any (eqO x.client)) x l.os (u.1)).2 && pickP (l.os.any (eqO x.client)) (eqO x.client) (gtO x.client) (l.os[u.1]'hlt)) by (obtain ⟨P, hP⟩ : ∃ P, (gAt (eqO x.client) (gtO x.client) (l.os.any (eqO x.client)) x l.os (u.1)).2 = P := ⟨_, rfl⟩; rw [hP] at hc27; rw [hP]; clear hP hal; obtain ⟨T, hT⟩ : ∃ T, (l.os.any (eqO x.client)) = T := ⟨_, rfl⟩; (try rw [hT] at hc29); (try rw [hT] at hc39); rw [hT]; clear hT; cases P <;> cases T <;> simp_all [pickP])), rfl, trivial⟩) (by repeat first|exact s0 _|exact s1 _|apply s2|apply s3)
  intro hc29
  refine SL.val (Val.fieldAddr tabOk rfl rfl rfl rfl rfl) rfl rfl ?_
  refine SL.val (Val.to (C := int (l.os[u.1]'hlt).client) (Val.load1 tabOk rfl rfl (by repeat first|assumption|exact o0_|exact o1_|apply o2_) List.not_mem_nil (by rfl)) rfl) rfl rfl ?_
  refine SL.val (Val.fieldAddr tabOk rfl rfl rfl rfl rfl) rfl rfl ?_
  refine SL.val (Val.to (C := int x.client) (Val.load1 tabOk rfl rfl (by repeat first|assumption|exact o0_|exact o1_|apply o2_) List.not_mem_nil (by rfl)) rfl) rfl rfl ?_
  refine SL.val (Val.eqI rfl rfl) rfl rfl ?_
  refine SL.val (Val.pickT rfl rfl) rfl rfl ?_
  refine SL.val (Val.move rfl) rfl rfl ?_
  refine SL.bothP (t := 36) rfl ?_ ?_
  ·intro hc36
   iterate 9 refine SL.skip rfl rfl ?_
   refine SL.val (Val.pickT rfl rfl) rfl rfl ?_
   refine SL.val (Val.pickT rfl rfl) rfl rfl ?_
   refine SL.nil ?_
   refine SE.meet (()) (trivial) (by exact ⟨rfl, rfl, rfl, rfl, rfl, rfl, rfl, rfl, rfl, congrArg (fun b : Bool => some (boo b)) (show _ = (!(gAt (eqO x.client) (gtO x.client) (l.os.any (eqO x.client)) x l.os (u.1)).2 && pickP (l.os.any (eqO x.client)) (eqO x.client) (gtO x.client) (l.os[u.1]'hlt)) by (obtain ⟨P, hP⟩ : ∃ P, (gAt (eqO x.client) (gtO x.client) (l.os.any (eqO x.client)) x l.os (u.1)).2 = P := ⟨_, rfl⟩; rw [hP] at hc27; rw [hP]; clear hP hal; obtain ⟨T, hT⟩ : ∃ T, (l.os.any (eqO x.client)) = T := ⟨_, rfl⟩; (try rw [hT] at hc29); (try rw [hT] at hc39); rw [hT]; clear hT; cases P <;> cases T <;> simp_all [pickP])), rfl, trivial⟩) (by repeat first|exact s0 _|exact s1 _|apply s2|apply s3)
  intro hc36
  refine SL.val (Val.move rfl) rfl rfl ?_
  refine SL.val (Val.notB rfl) rfl rfl ?_
  refine SL.val (Val.move rfl) rfl rfl ?_
  refine SL.both (t := 39) rfl ?_ ?_
  ·intro hc39
   refine SL.val (Val.fieldAddr tabOk rfl rfl rfl rfl rfl) rfl rfl ?_
   refine SL.val (Val.to (C := int (l.os[u.1]'hlt).client) (Val.load1 tabOk rfl rfl (by repeat first|assumption|exact o0_|exact o1_|apply o2_) List.not_mem_nil (by rfl)) rfl) rfl rfl ?_
   refine SL.val (Val.fieldAddr tabOk rfl rfl rfl rfl rfl) rfl rfl ?_
   refine SL.val (Val.to (C := int x.client) (Val.load1 tabOk rfl rfl (by repeat first|assumption|exact o0_|exact o1_|apply o2_) List.not_mem_nil (by rfl)) rfl) rfl rfl ?_
   refine SL.val (Val.gtI rfl rfl) rfl rfl ?_
   refine SL.val (Val.pickT rfl rfl) rfl rfl ?_
   refine SL.val (Val.pickF rfl rfl) rfl rfl ?_
   refine SL.val (Val.pickT rfl rfl) rfl rfl ?_
   refine SL.nil ?_
   refine SE.meet (()) (trivial) (by exact ⟨rfl, rfl, rfl, rfl, rfl, rfl, rfl, rfl, rfl, congrArg (fun b : Bool => some (boo b)) (show _ = (!(gAt (eqO x.client) (gtO x.client) (l.os.any (eqO x.client)) x l.os (u.1)).2 && pickP (l.os.any (eqO x.client)) (eqO x.client) (gtO x.client) (l.os[u.1]'hlt)) by (obtain ⟨P, hP⟩ : ∃ P, (gAt (eqO x.client) (gtO x.client) (l.os.any (eqO x.client)) x l.os (u.1)).2 = P := ⟨_, rfl⟩; rw [hP] at hc27; rw [hP]; clear hP hal; obtain ⟨T, hT⟩ : ∃ T, (l.os.any (eqO x.client)) = T := ⟨_, rfl⟩; (try rw [hT] at hc29); (try rw [hT] at hc39); rw [hT]; clear hT; cases P <;> cases T <;> simp_all [pickP])), rfl, trivial⟩) (by repeat first|exact s0 _|exact s1 _|apply s2|apply s3)
  intro hc39
  iterate 5 refine SL.skip rfl rfl ?_
  refine SL.val (Val.pickF rfl rfl) rfl rfl ?_
  refine SL.val (Val.pickF rfl rfl) rfl rfl ?_
  refine SL.val (Val.pickT rfl rfl) rfl rfl ?_
  refine SL.nil ?_
  refine SE.meet (()) (trivial) (by exact ⟨rfl, rfl, rfl, rfl, rfl, rfl, rfl, rfl, rfl, congrArg (fun b : Bool => some (boo b)) (show _ = (!(gAt (eqO x.client) (gtO x.client) (l.os.any (eqO x.client)) x l.os (u.1)).2 && pickP (l.os.any (eqO x.client)) (eqO x.client) (gtO x.client) (l.os[u.1]'hlt)) by (obtain ⟨P, hP⟩ : ∃ P, (gAt (eqO x.client) (gtO x.client) (l.os.any (eqO x.client)) x l.os (u.1)).2 = P := ⟨_, rfl⟩; rw [hP] at hc27; rw [hP]; clear hP hal; obtain ⟨T, hT⟩ : ∃ T, (l.os.any (eqO x.client)) = T := ⟨_, rfl⟩; (try rw [hT] at hc29); (try rw [hT] at hc39); rw [hT]; clear hT; cases P <;> cases T <;> simp_all [pickP])), rfl, trivial⟩) (by repeat first|exact s0 _|exact s1 _|apply s2|apply s3)
 ·intro z hz
  refine SC.cond rfl ?_ ?_
  rotate_left
  ·intro hc47
   have hg : (gAt (eqO x.client) (gtO x.client) (l.os.any (eqO x.client)) x l.os (u.1 + 1)) = _ := gAt_step hlt
   unfold gStep at hg
   rw [if_neg (by rw [hc47]; decide)] at hg
   refine SC.skip ?_
   refine SE.seq ?_
   refine SC.region ?_
   refine SL.val (Val.move rfl) rfl rfl ?_
   refine SL.val (Val.loadA tabOk rfl rfl rfl (by repeat first|assumption|exact o0_|exact o1_|apply o2_) List.not_mem_nil (by rfl)) rfl rfl ?_
   refine SL.eff (Eff.buildSl tabOk Tryz.underlying64 rfl rfl rfl rfl rfl rfl rfl) rfl rfl ?_
   rintro _ _ ⟨rfl, rfl⟩
   refine SL.eff (Eff.appendE (zs := ((gAt (eqO x.client) (gtO x.client) (l.os.any (eqO x.client)) x l.os (u.1)).1 ++ [(l.os[u.1]'hlt)]).map Oc.abs) tabOk [_] (by simp only [List.map_append]; rfl) Tryz.underlying64 rfl rfl rfl rfl rfl rfl (by intro c hc; rw [List.mem_singleton] at hc; subst hc; rfl) (by unfold maxLen; simp only [List.length_map, List.length_append, List.length_cons, List.length_nil]; omega) (by rw [show Tryz.prog.bytesOf 76 = 24 by kernel_rfl]; simp only [List.length_map, List.length_append, List.length_cons, List.length_nil]; omega)) rfl rfl ?_
   rintro _ _ ⟨r56, rfl, rfl⟩
   refine SL.val (Val.assign rfl) rfl rfl ?_
   refine SL.nil ?_
   refine SE.inBlock ?_
   refine SE.seq ?_
   refine SC.region ?_
   first
    | refine SL.val (Val.addI rfl rfl (by simp only [InR, lo, hi]; omega)) rfl rfl ?_
    | refine SL.val (Val.addW rfl rfl) rfl rfl ?_
   refine SL.val (Val.move rfl) rfl rfl ?_
   refine SL.nil ?_
   refine SE.round (u.1 + 1, r56) (by first | omega | (dsimp only; omega)) (by dsimp only; omega) (by exact ⟨rfl, rfl, rfl, rfl, rfl, congrArg (fun b : Bool => some (boo b)) (by rw [hg]), rfl, rfl, rfl, trivial⟩) (by rw [hg]; repeat (first | exact List.nil_sublist _ | exact List.Sublist.refl _ | apply List.Sublist.cons_cons | apply List.Sublist.cons))
  intro hc47
  have hg : (gAt (eqO x.client) (gtO x.client) (l.os.any (eqO x.client)) x l.os (u.1 + 1)) = _ := gAt_step hlt
  unfold gStep at hg
  rw [if_pos hc47] at hg
  refine SC.seq (SC.region ?_)
  refine SL.val (Val.move rfl) rfl rfl ?_
  refine SL.val (Val.loadA tabOk rfl rfl rfl (by repeat first|assumption|exact o0_|exact o1_|apply o2_) List.not_mem_nil (by rfl)) rfl rfl ?_
  refine SL.eff (Eff.buildSl tabOk Tryz.underlying64 rfl rfl rfl rfl rfl rfl rfl) rfl rfl ?_
  rintro _ _ ⟨rfl, rfl⟩
  refine SL.eff (Eff.appendE (zs := ((gAt (eqO x.client) (gtO x.client) (l.os.any (eqO x.client)) x l.os (u.1)).1 ++ [x]).map Oc.abs) tabOk [_] (by simp only [List.map_append]; rfl) Tryz.underlying64 rfl rfl rfl rfl rfl rfl (by intro c hc; rw [List.mem_singleton] at hc; subst hc; rfl) (by unfold maxLen; simp only [List.length_map, List.length_append, List.length_cons, List.length_nil]; omega) (by rw [show Tryz.prog.bytesOf 76 = 24 by kernel_rfl]; simp only [List.length_map, List.length_append, List.length_cons, List.length_nil]; omega)) rfl rfl ?_
  rintro _ _ ⟨r51, rfl, rfl⟩
  refine SL.val (Val.assign rfl) rfl rfl ?_
  refine SL.nil (SE.seq ?_)
  refine SC.seq (SC.region ?_)
  refine SL.val (Val.assign rfl) rfl rfl ?_
  refine SL.nil (SE.seq ?_)
  refine SC.seq (SC.region ?_)
  refine SL.val (Val.move rfl) rfl rfl ?_
  refine SL.nil (SE.seq ?_)
  refine SC.cond rfl ?_ ?_
  ·intro hc52
   refine SC.exit ?_
   refine SE.then_ nofun ?_
   refine SE.exit ?_
   refine SE.seq ?_
   refine SC.region ?_
   first
    | refine SL.val (Val.addI rfl rfl (by simp only [InR, lo, hi]; omega)) rfl rfl ?_
    | refine SL.val (Val.addW rfl rfl) rfl rfl ?_
   refine SL.val (Val.move rfl) rfl rfl ?_
   refine SL.nil ?_
   rw [if_pos hc52] at hg
   refine SE.round (u.1 + 1, r51) (by first | omega | (dsimp only; omega)) (by dsimp only; omega) (by exact ⟨rfl, rfl, rfl, rfl, rfl, congrArg (fun b : Bool => some (boo b)) (by rw [hg]), rfl, rfl, rfl, trivial⟩) (by rw [hg]; repeat (first | exact List.nil_sublist _ | exact List.Sublist.refl _ | apply List.Sublist.cons_cons | apply List.Sublist.cons))
  intro hc52
  refine SC.skip ?_
  refine SE.seq ?_
  refine SC.region ?_
  refine SL.val (Val.move rfl) rfl rfl ?_
  refine SL.val (Val.loadA tabOk rfl rfl rfl (by repeat first|assumption|exact o0_|exact o1_|apply o2_) List.not_mem_nil (by rfl)) rfl rfl ?_
  refine SL.eff (Eff.buildSl tabOk Tryz.underlying64 rfl rfl rfl rfl rfl rfl rfl) rfl rfl ?_
  rintro _ _ ⟨rfl, rfl⟩
  refine SL.eff (Eff.appendE (zs := ((gAt (eqO x.client) (gtO x.client) (l.os.any (eqO x.client)) x l.os (u.1)).1 ++ [x] ++ [(l.os[u.1]'hlt)]).map Oc.abs) tabOk [_] (by simp only [List.map_append]; rfl) Tryz.underlying64 rfl rfl rfl rfl rfl rfl (by intro c hc; rw [List.mem_singleton] at hc; subst hc; rfl) (by unfold maxLen; simp only [List.length_map, List.length_append, List.length_cons, List.length_nil]; omega) (by rw [show Tryz.prog.bytesOf 76 = 24 by kernel_rfl]; simp only [List.length_map, List.length_append, List.length_cons, List.length_nil]; omega)) rfl rfl ?_
  rintro _ _ ⟨r56, rfl, rfl⟩
  refine SL.val (Val.assign rfl) rfl rfl ?_
  refine SL.nil ?_
  refine SE.inBlock ?_
  refine SE.seq ?_
  refine SC.region ?_
  first
   | refine SL.val (Val.addI rfl rfl (by simp only [InR, lo, hi]; omega)) rfl rfl ?_
   | refine SL.val (Val.addW rfl rfl) rfl rfl ?_
  refine SL.val (Val.move rfl) rfl rfl ?_
  refine SL.nil ?_
  rw [if_neg (by rw [hc52]; decide)] at hg
  refine SE.round (u.1 + 1, r56) (by first | omega | (dsimp only; omega)) (by dsimp only; omega) (by exact ⟨rfl, rfl, rfl, rfl, rfl, congrArg (fun b : Bool => some (boo b)) (by rw [hg]), rfl, rfl, rfl, trivial⟩) (by rw [hg]; repeat (first | exact List.nil_sublist _ | exact List.Sublist.refl _ | apply List.Sublist.cons_cons | apply List.Sublist.cons))
end
section
variable {l : Lg} {x : Ltr}
set_option maxHeartbeats 4000000 in
theorem rwith_s (hf : l.Few) (hs : x.name.size ≤ lots) : Spec Tryz.prog 73 [.agg l.abs, .agg (ltrA x)] [] (fun _ : Unit => []) (fun _ => .tup [.agg (l.with_ x).1.abs, int (l.with_ x).2]) := by
 have hf1 := hf.ls
 have hf2 := hf.os
 have hwl := withG_length (eq := eqL x.name) (gt := gtL x.name) (x := x) l.ls
 refine spec_of Tryz.func73 rfl Tryz.ntmps73 rfl fun G w => ?_
 refine SC.seq (SC.region ?_)
 refine SL.eff (Eff.boxA (cs := l.abs) rfl) rfl rfl ?_
 rintro _ _ ⟨b2, rfl, rfl⟩
 refine SL.eff (Eff.boxA (cs := ltrA x) rfl) rfl rfl ?_
 rintro _ _ ⟨b3, rfl, rfl⟩
 refine SL.eff (Eff.alloc tabOk rfl) rfl rfl ?_
 rintro _ _ ⟨b4, rfl, rfl⟩
 refine SL.val (Val.assign rfl) rfl rfl ?_
 refine SL.nil (SE.seq ?_)
 refine SC.seq ?_
 refine SC.seq (SC.region ?_)
 refine SL.val (Val.fieldAddr tabOk rfl rfl rfl rfl rfl) rfl rfl ?_
 refine SL.val (Val.to (C := st x.name) (Val.load1 tabOk rfl rfl (by repeat first|assumption|exact o0_|exact o1_|apply o2_) List.not_mem_nil (by rfl)) rfl) rfl rfl ?_
 refine SL.call (risname_s (s := x.name) hs) Casts.refl (by kernel_rfl) rfl rfl rfl ?_
 refine ap_ ?_
 intro _
 refine SL.val (Val.notB rfl) rfl rfl ?_
 refine SL.nil (SE.seq ?_)
 refine SC.cond rfl ?_ ?_
 ·intro hc15
  have hnb : nameB x.name = false := by simpa using hc15
  refine SC.seq (SC.region ?_)
  refine SL.val (Val.buildS tabOk rfl rfl rfl rfl) rfl rfl ?_
  refine SL.eff (Eff.store (L' := (zabs [.int .i64 0, .int .i64 0, .slice none 0 0, .slice none 0 0])) tabOk rfl rfl rfl (by repeat first|assumption|exact Upd.here|apply Upd.there) rfl (lb_ (by rfl)) rfl (by exact putL_whole rfl)) rfl rfl ?_
  rintro _ _ ⟨rfl, rfl⟩
  refine SL.val (Val.assign rfl) rfl rfl ?_
  refine SL.nil (SE.seq ?_)
  refine SC.ret ?_
  refine SE.then_ nofun ?_
  refine SE.finC (rs := [.cell 4 66, .tmp 5]) rfl (RV.cell rfl (RV.cellA tabOk rfl rfl (by repeat first|assumption|exact o0_|exact o1_|apply o2_) (by rfl)) (RV.tmp rfl RV.nil)) (Casts.cons (cast_agg (Casts.keep (Casts.keep (Casts.nils (s := 6) (Casts.nils (s := 3) Casts.refl))))) Casts.refl) (()) (by repeat first|exact s0 _|exact s1 _|apply s2|apply s3) (by simp [It.rids]) ?_
  unfold Lg.with_
  rw [if_pos hnb]
  rfl
 intro hc15
 have hnb : ¬ nameB x.name = false := by simpa using hc15
 refine SC.skip ?_
 refine SE.seq ?_
 refine SC.seq (SC.region ?_)
 refine SL.val (Val.assign rfl) rfl rfl ?_
 refine SL.nil (SE.seq ?_)
 refine SC.seq (SC.region ?_)
 refine SL.val (Val.to (C := .agg l.abs) (Val.loadP tabOk rfl rfl rfl (by repeat first|assumption|exact o0_|exact o1_|apply o2_) List.not_mem_nil (lb_ (by rfl))) rfl) rfl rfl ?_
 refine SL.val (Val.fieldAddr tabOk rfl rfl rfl rfl rfl) rfl rfl ?_
 refine SL.val (Val.to (C := st x.name) (Val.load1 tabOk rfl rfl (by repeat first|assumption|exact o0_|exact o1_|apply o2_) List.not_mem_nil (by rfl)) rfl) rfl rfl ?_
 refine SL.call (rfind_s (l := l) (s := x.name)) Casts.refl (by kernel_rfl) rfl rfl rfl ?_
 refine ap_ ?_
 intro _
 rw [show (l.find x.name).isSome = l.ls.any (eqL x.name) from find_isSome]
 refine SL.val (Val.move rfl) rfl rfl ?_
 refine SL.val (Val.extract rfl rfl) rfl rfl ?_
 refine SL.val (Val.extract rfl rfl) rfl rfl ?_
 refine SL.eff (Eff.alloc tabOk rfl) rfl rfl ?_
 rintro _ _ ⟨b7, rfl, rfl⟩
 refine SL.eff (Eff.store (L' := ltrA ((l.find x.name).getD Ltr.none)) tabOk rfl rfl rfl (by repeat first|assumption|exact Upd.here|apply Upd.there) rfl (lb_ (by rfl)) rfl (by exact putL_whole rfl)) rfl rfl ?_
 rintro _ _ ⟨rfl, rfl⟩
 refine SL.val (Val.assign rfl) rfl rfl ?_
 refine SL.nil (SE.seq ?_)
 refine SC.seq (SC.region ?_)
 refine SL.val (Val.assign rfl) rfl rfl ?_
 refine SL.nil (SE.seq ?_)
 refine SC.seq ?_
 refine SC.seq (SC.region ?_)
 refine SL.val (Val.fieldAddr tabOk rfl rfl rfl rfl rfl) rfl rfl ?_
 refine SL.val (Val.to (C := .sl 6 (l.ls.map ltrA)) (Val.load1 tabOk rfl rfl (by repeat first|assumption|exact o0_|exact o1_|apply o2_) List.not_mem_nil (by rfl)) rfl) rfl rfl ?_
 first
  | refine SL.val (Val.lenSl rfl Tryz.underlying63 (List.length_map _)) rfl rfl ?_
  | refine SL.val (Val.lenOwn rfl (by repeat first|assumption|exact m0|apply m1) Tryz.underlying63 (List.length_map _)) rfl rfl ?_
  | refine SL.val (Val.lenNil rfl Tryz.underlying63) rfl rfl ?_
 refine SL.val (Val.move rfl) rfl rfl ?_
 refine SL.nil (SE.seq ?_)
 refine SC.block ?_
 refine SC.rowLe (i := 25) rfl fun hrow => ?_
 rw [List.length_map] at hrow
 unfold maxLen at hrow
 refine SC.own0 74 6 ?_
 refine SC.loop (ι := Nat × Value) (fun u => (own 74 6 u.2 (((gAt (eqL x.name) (gtL x.name) (l.ls.any (eqL x.name)) x l.ls (u.1)).1).map ltrA) :: [.blk b7 74 (ltrA ((l.find x.name).getD Ltr.none)), .blk b4 66 (zabs [.int .i64 0, .int .i64 0, .slice none 0 0, .slice none 0 0]), .blk b3 74 (ltrA x), .blk b2 66 l.abs])) (fun u => [(2, ptr b2), (3, ptr b3), (4, ptr b4), (8, boo (l.ls.any (eqL x.name))), (6, .v u.2), (9, boo (gAt (eqL x.name) (gtL x.name) (l.ls.any (eqL x.name)) x l.ls (u.1)).2), (25, .sl 6 (l.ls.map ltrA)), (26, int (l.ls.length : Nat)), (27, int (u.1 : Nat))]) (fun u => u.1 ≤ l.ls.length) (fun u => l.ls.length - u.1) (0, .slice none 0 0) (Nat.zero_le _) (by exact ⟨rfl, rfl, rfl, rfl, rfl, rfl, rfl, rfl, rfl, trivial⟩) (by repeat first|exact s0 _|exact s1 _|apply s2|apply s3) ?_
 intro u hu
 refine SC.seq (SC.region ?_)
 refine SL.val (Val.ltI rfl rfl) rfl rfl ?_
 refine SL.nil (SE.seq ?_)
 refine SC.seq ?_
 refine SC.condP rfl ?_ ?_
 rotate_left
 ·intro hc28
  have hal := gAt_len (eq := eqL x.name) (gt := gtL x.name) (th := (l.ls.any (eqL x.name))) (x := x) (l := l.ls) u.1
  refine SC.exit ?_
  refine SE.then_ nofun ?_
  refine SE.then_ nofun ?_
  refine SE.exit ?_
  refine SE.seq ?_
  refine SC.cutS (ι := Value) (fun z => (own 74 6 z ((withG (eqL x.name) (gtL x.name) x l.ls).map ltrA) :: [.blk b7 74 (ltrA ((l.find x.name).getD Ltr.none)), .blk b4 66 (zabs [.int .i64 0, .int .i64 0, .slice none 0 0, .slice none 0 0]), .blk b3 74 (ltrA x), .blk b2 66 l.abs])) (fun z => [(2, ptr b2), (3, ptr b3), (4, ptr b4), (6, .v z)]) (fun z => True) ?_ ?_
  ·skip
   refine SC.seq (SC.region ?_)
   refine SL.val (Val.move rfl) rfl rfl ?_
   refine SL.val (Val.notB rfl) rfl rfl ?_
   refine SL.nil (SE.seq ?_)
   refine SC.cond rfl ?_ ?_
   rotate_left
   ·intro hc65
    refine SC.skip ?_
    have hge : gFin x (gAt (eqL x.name) (gtL x.name) (l.ls.any (eqL x.name)) x l.ls (u.1)) = _ := gAt_end (by omega)
    unfold gFin at hge
    rw [if_pos (by simpa using hc65)] at hge
    refine SE.meet (u.2) (trivial) (by exact ⟨rfl, rfl, rfl, rfl, trivial⟩) (by rw [← hge]; repeat (first | exact List.nil_sublist _ | exact List.Sublist.refl _ | apply List.Sublist.cons_cons | apply List.Sublist.cons))
   intro hc65
   refine SC.region ?_
   refine SL.val (Val.move rfl) rfl rfl ?_
   refine SL.val (Val.loadA tabOk rfl rfl rfl (by repeat first|assumption|exact o0_|exact o1_|apply o2_) List.not_mem_nil (by rfl)) rfl rfl ?_
   refine SL.eff (Eff.buildSl tabOk Tryz.underlying63 rfl rfl rfl rfl rfl rfl rfl) rfl rfl ?_
   rintro _ _ ⟨rfl, rfl⟩
   refine SL.eff (Eff.appendE (zs := ((gAt (eqL x.name) (gtL x.name) (l.ls.any (eqL x.name)) x l.ls (u.1)).1 ++ [x]).map ltrA) tabOk [] (by simp only [List.map_append]; rfl) Tryz.underlying63 rfl rfl rfl rfl rfl rfl (by intro c hc; rw [List.mem_singleton] at hc; subst hc; rfl) (by unfold maxLen; simp only [List.length_map, List.length_append, List.length_cons, List.length_nil]; omega) (by rw [show Tryz.prog.bytesOf 74 = 72 by kernel_rfl]; simp only [List.length_map, List.length_append, List.length_cons, List.length_nil]; omega)) rfl rfl ?_
   rintro _ _ ⟨r69, rfl, rfl⟩
   refine SL.val (Val.assign rfl) rfl rfl ?_
   refine SL.nil ?_
   have hge : gFin x (gAt (eqL x.name) (gtL x.name) (l.ls.any (eqL x.name)) x l.ls (u.1)) = _ := gAt_end (by omega)
   unfold gFin at hge
   rw [if_neg (by simpa using hc65)] at hge
   refine SE.meet (r69) (trivial) (by exact ⟨rfl, rfl, rfl, rfl, trivial⟩) (by rw [← hge]; repeat (first | exact List.nil_sublist _ | exact List.Sublist.refl _ | apply List.Sublist.cons_cons | apply List.Sublist.cons))
  ·intro z hz
   refine SC.seq ?_
   refine SC.seq (SC.region ?_)
   refine SL.val (Val.move rfl) rfl rfl ?_
   refine SL.val (Val.lenOwn (m := (withG (eqL x.name) (gtL x.name) x l.ls).length) rfl (by repeat first|assumption|exact m0|apply m1) Tryz.underlying63 (List.length_map _)) rfl rfl ?_
   refine SL.val (Val.gtI rfl rfl) rfl rfl ?_
   refine SL.nil (SE.seq ?_)
   refine SC.condP rfl ?_ ?_
   ·intro hc72
    have hle2 : 16 < (l.putL x).ls.length := by show 16 < (withG (eqL x.name) (gtL x.name) x l.ls).length; omega
    refine SC.seq (SC.region ?_)
    refine SL.val (Val.buildS tabOk rfl rfl rfl rfl) rfl rfl ?_
    refine SL.eff (Eff.store (L' := (zabs [.int .i64 0, .int .i64 0, .slice none 0 0, .slice none 0 0])) tabOk rfl rfl rfl (by repeat first|assumption|exact Upd.here|apply Upd.there) rfl (lb_ (by rfl)) rfl (by exact putL_whole rfl)) rfl rfl ?_
    rintro _ _ ⟨rfl, rfl⟩
    refine SL.val (Val.assign rfl) rfl rfl ?_
    refine SL.nil (SE.seq ?_)
    refine SC.ret ?_
    refine SE.then_ nofun ?_
    refine SE.finC (rs := [.cell 4 66, .tmp 5]) rfl (RV.cell rfl (RV.cellA tabOk rfl rfl (by repeat first|assumption|exact o0_|exact o1_|apply o2_) (by rfl)) (RV.tmp rfl RV.nil)) (Casts.cons (cast_agg (Casts.keep (Casts.keep (Casts.nils (s := 6) (Casts.nils (s := 3) Casts.refl))))) Casts.refl) (()) (by repeat first|exact s0 _|exact s1 _|apply s2|apply s3) (by simp [It.rids]) ?_
    unfold Lg.with_
    rw [if_neg hnb, if_pos hle2]
    rfl
   intro hc72
   have hle2 : ¬ 16 < (l.putL x).ls.length := by show ¬ 16 < (withG (eqL x.name) (gtL x.name) x l.ls).length; omega
   refine SC.freeze [] (t := 6) rfl rfl ?_
   refine SC.skip ?_
   refine SE.seq ?_
   refine SC.seq (SC.region ?_)
   refine SL.val (Val.move rfl) rfl rfl ?_
   refine SL.val (Val.fieldAddr tabOk rfl rfl rfl rfl rfl) rfl rfl ?_
   refine SL.eff (Eff.store (L' := (l.putL x).abs) tabOk rfl rfl rfl (by repeat first|assumption|exact Upd.here|apply Upd.there) rfl (lb_ (by rfl)) rfl (by rfl)) rfl rfl ?_
   rintro _ _ ⟨rfl, rfl⟩
   refine SL.nil (SE.seq ?_)
   refine SC.seq (SC.region ?_)
   refine SL.val (Val.to (C := .agg (l.putL x).abs) (Val.loadP tabOk rfl rfl rfl (by repeat first|assumption|exact o0_|exact o1_|apply o2_) List.not_mem_nil (lb_ (by rfl))) rfl) rfl rfl ?_
   refine SL.eff (Eff.store (L' := (l.putL x).abs) tabOk rfl rfl rfl (by repeat first|assumption|exact Upd.here|apply Upd.there) rfl (lb_ (by rfl)) rfl (by exact putL_whole rfl)) rfl rfl ?_
   rintro _ _ ⟨rfl, rfl⟩
   refine SL.val (Val.assign rfl) rfl rfl ?_
   refine SL.nil (SE.seq ?_)
   refine SC.ret ?_
   refine SE.fin (rs := [.cell 4 66, .tmp 5]) rfl (RV.cell rfl (RV.cellA tabOk rfl rfl (by repeat first|assumption|exact o0_|exact o1_|apply o2_) (by rfl)) (RV.tmp rfl RV.nil)) (()) (by repeat first|exact s0 _|exact s1 _|apply s2|apply s3) (by simp [It.rids]) ?_
   unfold Lg.with_
   rw [if_neg hnb, if_neg hle2]
   rfl
 intro hc28
 have hlt : u.1 < l.ls.length := by omega
 have hal := gAt_len (eq := eqL x.name) (gt := gtL x.name) (th := (l.ls.any (eqL x.name))) (x := x) (l := l.ls) u.1
 refine SC.skip ?_
 refine SE.seq ?_
 refine SC.seq ?_
 refine SC.block ?_
 refine SC.seq (SC.region ?_)
 refine SL.val (Val.indexSl tabOk Tryz.underlying63 rfl rfl rfl rfl (at_map (by omega)) rfl rfl) rfl rfl ?_
 refine SL.val (Val.loadAR tabOk rfl rfl rfl (by rfl)) rfl rfl ?_
 refine SL.eff (Eff.alloc tabOk rfl) rfl rfl ?_
 rintro _ _ ⟨b11, rfl, rfl⟩
 refine SL.eff (Eff.store (L' := ltrA (l.ls[u.1]'hlt)) tabOk rfl rfl rfl (by repeat first|assumption|exact Upd.here|apply Upd.there) rfl (lb_ (by rfl)) rfl (by exact putL_whole rfl)) rfl rfl ?_
 rintro _ _ ⟨rfl, rfl⟩
 refine SL.nil (SE.seq ?_)
 refine SC.seq ?_
 refine SC.cutS (ι := Unit) (fun z => (.blk b11 74 (ltrA (l.ls[u.1]'hlt)) :: own 74 6 u.2 (((gAt (eqL x.name) (gtL x.name) (l.ls.any (eqL x.name)) x l.ls (u.1)).1).map ltrA) :: [.blk b7 74 (ltrA ((l.find x.name).getD Ltr.none)), .blk b4 66 (zabs [.int .i64 0, .int .i64 0, .slice none 0 0, .slice none 0 0]), .blk b3 74 (ltrA x), .blk b2 66 l.abs])) (fun z => [(2, ptr b2), (3, ptr b3), (4, ptr b4), (8, boo (l.ls.any (eqL x.name))), (6, .v u.2), (9, boo (gAt (eqL x.name) (gtL x.name) (l.ls.any (eqL x.name)) x l.ls (u.1)).2), (25, .sl 6 (l.ls.map ltrA)), (26, int (l.ls.length : Nat)), (27, int (u.1 : Nat)), (53, boo (!(gAt (eqL x.name) (gtL x.name) (l.ls.any (eqL x.name)) x l.ls (u.1)).2 && pickP (l.ls.any (eqL x.name)) (eqL x.name) (gtL x.name) (l.ls[u.1]'hlt))), (11, ptr b11)]) (fun z => True) ?_ ?_
 ·skip
  refine SC.region ?_
  refine SL.val (Val.move rfl) rfl rfl ?_
  refine SL.val (Val.notB rfl) rfl rfl ?_
  refine SL.val (Val.move rfl) rfl rfl ?_
  refine SL.both (t := 33) rfl ?_ ?_
  rotate_left
  ·intro hc33
   iterate 19 refine SL.skip rfl rfl ?_
   refine SL.val (Val.pickF rfl rfl) rfl rfl ?_
   refine SL.nil ?_
   refine SE.meet (()) (trivial) (by exact ⟨rfl, rfl, rfl, rfl, rfl, rfl, rfl, rfl, rfl, congrArg (fun b : Bool => some (boo b)) (show _ = (!(gAt (eqL x.name) (gtL x.name) (l.ls.any (eqL x.name)) x l.ls (u.1)).2 && pickP (l.ls.any (eqL x.name)) (eqL x.name) (gtL x.name) (l.ls[u.1]'hlt)) by (obtain ⟨P, hP⟩ : ∃ P, (gAt (eqL x.name) (gtL x.name) (l.ls.any (eqL x.name)) x l.ls (u.1)).2 = P := ⟨_, rfl⟩; rw [hP] at hc33; rw [hP]; clear hP hal; obtain ⟨T, hT⟩ : ∃ T, (l.ls.any (eqL x.name)) = T := ⟨_, rfl⟩; (try rw [hT] at hc35); (try rw [hT] at hc45); rw [hT]; clear hT; cases P <;> cases T <;> simp_all [pickP])), rfl, trivial⟩) (by repeat first|exact s0 _|exact s1 _|apply s2|apply s3)
  intro hc33
  iterate 2 refine SL.val (Val.move rfl) rfl rfl ?_
  refine SL.both (t := 35) rfl ?_ ?_
  rotate_left
  ·intro hc35
   iterate 5 refine SL.skip rfl rfl ?_
   refine SL.val (Val.pickF rfl rfl) rfl rfl ?_
   iterate 2 refine SL.val (Val.move rfl) rfl rfl ?_
   refine SL.val (Val.notB rfl) rfl rfl ?_
   refine SL.val (Val.move rfl) rfl rfl ?_
   refine SL.both (t := 45) rfl ?_ ?_
   ·intro hc45
    refine SL.val (Val.fieldAddr tabOk rfl rfl rfl rfl rfl) rfl rfl ?_
    refine SL.val (Val.to (C := st (l.ls[u.1]'hlt).name) (Val.load1 tabOk rfl rfl (by repeat first|assumption|exact o0_|exact o1_|apply o2_) List.not_mem_nil (by rfl)) rfl) rfl rfl ?_
    refine SL.val (Val.fieldAddr tabOk rfl rfl rfl rfl rfl) rfl rfl ?_
    refine SL.val (Val.to (C := st x.name) (Val.load1 tabOk rfl rfl (by repeat first|assumption|exact o0_|exact o1_|apply o2_) List.not_mem_nil (by rfl)) rfl) rfl rfl ?_
    refine SL.val (Val.gtS rfl rfl) rfl rfl ?_
    refine SL.val (Val.pickT rfl rfl) rfl rfl ?_
    refine SL.val (Val.pickF rfl rfl) rfl rfl ?_
    refine SL.val (Val.pickT rfl rfl) rfl rfl ?_
    refine SL.nil ?_
    refine SE.meet (()) (trivial) (by exact ⟨rfl, rfl, rfl, rfl, rfl, rfl, rfl, rfl, rfl, congrArg (fun b : Bool => some (boo b)) (show _ = (!(gAt (eqL x.name) (gtL x.name) (l.ls.any (eqL x.name)) x l.ls (u.1)).2 && pickP (l.ls.any (eqL x.name)) (eqL x.name) (gtL x.name) (l.ls[u.1]'hlt)) by (obtain ⟨P, hP⟩ : ∃ P, (gAt (eqL x.name) (gtL x.name) (l.ls.any (eqL x.name)) x l.ls (u.1)).2 = P := ⟨_, rfl⟩; rw [hP] at hc33; rw [hP]; clear hP hal; obtain ⟨T, hT⟩ : ∃ T, (l.ls.any (eqL x.name)) = T := ⟨_, rfl⟩; (try rw [hT] at hc35); (try rw [hT] at hc45); rw [hT]; clear hT; cases P <;> cases T <;> simp_all [pickP])), rfl, trivial⟩) (by repeat first|exact s0 _|exact s1 _|apply s2|apply s3)
   intro hc45
   iterate 5 refine SL.skip rfl rfl ?_
   refine SL.val (Val.pickF rfl rfl) rfl rfl ?_
   refine SL.val (Val.pickF rfl rfl) rfl rfl ?_
   refine SL.val (Val.pickT rfl rfl) rfl rfl ?_
   refine SL.nil ?_
   refine SE.meet (()) (trivial) (by exact ⟨rfl, rfl, rfl, rfl, rfl, rfl, rfl, rfl, rfl, congrArg (fun b : Bool => some (boo b)) (show _ = (!(gAt (eqL x.name) (gtL x.name) (l.ls.any (eqL x.name)) x l.ls (u.1)).2 && pickP (l.ls.any (eqL x.name)) (eqL x.name) (gtL x.name) (l.ls[u.1]'hlt)) by (obtain ⟨P, hP⟩ : ∃ P, (gAt (eqL x.name) (gtL x.name) (l.ls.any (eqL x.name)) x l.ls (u.1)).2 = P := ⟨_, rfl⟩; rw [hP] at hc33; rw [hP]; clear hP hal; obtain ⟨T, hT⟩ : ∃ T, (l.ls.any (eqL x.name)) = T := ⟨_, rfl⟩; (try rw [hT] at hc35); (try rw [hT] at hc45); rw [hT]; clear hT; cases P <;> cases T <;> simp_all [pickP])), rfl, trivial⟩) (by repeat first|exact s0 _|exact s1 _|apply s2|apply s3)
  intro hc35
  refine SL.val (Val.fieldAddr tabOk rfl rfl rfl rfl rfl) rfl rfl ?_
  refine SL.val (Val.to (C := st (l.ls[u.1]'hlt).name) (Val.load1 tabOk rfl rfl (by repeat first|assumption|exact o0_|exact o1_|apply o2_) List.not_mem_nil (by rfl)) rfl) rfl rfl ?_
  refine SL.val (Val.fieldAddr tabOk rfl rfl rfl rfl rfl) rfl rfl ?_
  refine SL.val (Val.to (C := st x.name) (Val.load1 tabOk rfl rfl (by repeat first|assumption|exact o0_|exact o1_|apply o2_) List.not_mem_nil (by rfl)) rfl) rfl rfl ?_
  refine SL.val (Val.eqS rfl rfl) rfl rfl ?_
  refine SL.val (Val.pickT rfl rfl) rfl rfl ?_
  refine SL.val (Val.move rfl) rfl rfl ?_
  refine SL.bothP (t := 42) rfl ?_ ?_
  ·intro hc42
   iterate 9 refine SL.skip rfl rfl ?_
   refine SL.val (Val.pickT rfl rfl) rfl rfl ?_
   refine SL.val (Val.pickT rfl rfl) rfl rfl ?_
   refine SL.nil ?_
   refine SE.meet (()) (trivial) (by exact ⟨rfl, rfl, rfl, rfl, rfl, rfl, rfl, rfl, rfl, congrArg (fun b : Bool => some (boo b)) (show _ = (!(gAt (eqL x.name) (gtL x.name) (l.ls.any (eqL x.name)) x l.ls (u.1)).2 && pickP (l.ls.any (eqL x.name)) (eqL x.name) (gtL x.name) (l.ls[u.1]'hlt)) by (obtain ⟨P, hP⟩ : ∃ P, (gAt (eqL x.name) (gtL x.name) (l.ls.any (eqL x.name)) x l.ls (u.1)).2 = P := ⟨_, rfl⟩; rw [hP] at hc33; rw [hP]; clear hP hal; obtain ⟨T, hT⟩ : ∃ T, (l.ls.any (eqL x.name)) = T := ⟨_, rfl⟩; (try rw [hT] at hc35); (try rw [hT] at hc45); rw [hT]; clear hT; cases P <;> cases T <;> simp_all [pickP])), rfl, trivial⟩) (by repeat first|exact s0 _|exact s1 _|apply s2|apply s3)
  intro hc42
  refine SL.val (Val.move rfl) rfl rfl ?_
  refine SL.val (Val.notB rfl) rfl rfl ?_
  refine SL.val (Val.move rfl) rfl rfl ?_
  refine SL.both (t := 45) rfl ?_ ?_
  ·intro hc45
   refine SL.val (Val.fieldAddr tabOk rfl rfl rfl rfl rfl) rfl rfl ?_
   refine SL.val (Val.to (C := st (l.ls[u.1]'hlt).name) (Val.load1 tabOk rfl rfl (by repeat first|assumption|exact o0_|exact o1_|apply o2_) List.not_mem_nil (by rfl)) rfl) rfl rfl ?_
   refine SL.val (Val.fieldAddr tabOk rfl rfl rfl rfl rfl) rfl rfl ?_
   refine SL.val (Val.to (C := st x.name) (Val.load1 tabOk rfl rfl (by repeat first|assumption|exact o0_|exact o1_|apply o2_) List.not_mem_nil (by rfl)) rfl) rfl rfl ?_
   refine SL.val (Val.gtS rfl rfl) rfl rfl ?_
   refine SL.val (Val.pickT rfl rfl) rfl rfl ?_
   refine SL.val (Val.pickF rfl rfl) rfl rfl ?_
   refine SL.val (Val.pickT rfl rfl) rfl rfl ?_
   refine SL.nil ?_
   refine SE.meet (()) (trivial) (by exact ⟨rfl, rfl, rfl, rfl, rfl, rfl, rfl, rfl, rfl, congrArg (fun b : Bool => some (boo b)) (show _ = (!(gAt (eqL x.name) (gtL x.name) (l.ls.any (eqL x.name)) x l.ls (u.1)).2 && pickP (l.ls.any (eqL x.name)) (eqL x.name) (gtL x.name) (l.ls[u.1]'hlt)) by (obtain ⟨P, hP⟩ : ∃ P, (gAt (eqL x.name) (gtL x.name) (l.ls.any (eqL x.name)) x l.ls (u.1)).2 = P := ⟨_, rfl⟩; rw [hP] at hc33; rw [hP]; clear hP hal; obtain ⟨T, hT⟩ : ∃ T, (l.ls.any (eqL x.name)) = T := ⟨_, rfl⟩; (try rw [hT] at hc35); (try rw [hT] at hc45); rw [hT]; clear hT; cases P <;> cases T <;> simp_all [pickP])), rfl, trivial⟩) (by repeat first|exact s0 _|exact s1 _|apply s2|apply s3)
  intro hc45
  iterate 5 refine SL.skip rfl rfl ?_
  refine SL.val (Val.pickF rfl rfl) rfl rfl ?_
  refine SL.val (Val.pickF rfl rfl) rfl rfl ?_
  refine SL.val (Val.pickT rfl rfl) rfl rfl ?_
  refine SL.nil ?_
  refine SE.meet (()) (trivial) (by exact ⟨rfl, rfl, rfl, rfl, rfl, rfl, rfl, rfl, rfl, congrArg (fun b : Bool => some (boo b)) (show _ = (!(gAt (eqL x.name) (gtL x.name) (l.ls.any (eqL x.name)) x l.ls (u.1)).2 && pickP (l.ls.any (eqL x.name)) (eqL x.name) (gtL x.name) (l.ls[u.1]'hlt)) by (obtain ⟨P, hP⟩ : ∃ P, (gAt (eqL x.name) (gtL x.name) (l.ls.any (eqL x.name)) x l.ls (u.1)).2 = P := ⟨_, rfl⟩; rw [hP] at hc33; rw [hP]; clear hP hal; obtain ⟨T, hT⟩ : ∃ T, (l.ls.any (eqL x.name)) = T := ⟨_, rfl⟩; (try rw [hT] at hc35); (try rw [hT] at hc45); rw [hT]; clear hT; cases P <;> cases T <;> simp_all [pickP])), rfl, trivial⟩) (by repeat first|exact s0 _|exact s1 _|apply s2|apply s3)
 ·intro z hz
  refine SC.cond rfl ?_ ?_
  rotate_left
  ·intro hc53
   have hg : (gAt (eqL x.name) (gtL x.name) (l.ls.any (eqL x.name)) x l.ls (u.1 + 1)) = _ := gAt_step hlt
   unfold gStep at hg
   rw [if_neg (by rw [hc53]; decide)] at hg
   refine SC.skip ?_
   refine SE.seq ?_
   refine SC.region ?_
   refine SL.val (Val.move rfl) rfl rfl ?_
   refine SL.val (Val.loadA tabOk rfl rfl rfl (by repeat first|assumption|exact o0_|exact o1_|apply o2_) List.not_mem_nil (by rfl)) rfl rfl ?_
   refine SL.eff (Eff.buildSl tabOk Tryz.underlying63 rfl rfl rfl rfl rfl rfl rfl) rfl rfl ?_
   rintro _ _ ⟨rfl, rfl⟩
   refine SL.eff (Eff.appendE (zs := ((gAt (eqL x.name) (gtL x.name) (l.ls.any (eqL x.name)) x l.ls (u.1)).1 ++ [(l.ls[u.1]'hlt)]).map ltrA) tabOk [_] (by simp only [List.map_append]; rfl) Tryz.underlying63 rfl rfl rfl rfl rfl rfl (by intro c hc; rw [List.mem_singleton] at hc; subst hc; rfl) (by unfold maxLen; simp only [List.length_map, List.length_append, List.length_cons, List.length_nil]; omega) (by rw [show Tryz.prog.bytesOf 74 = 72 by kernel_rfl]; simp only [List.length_map, List.length_append, List.length_cons, List.length_nil]; omega)) rfl rfl ?_
   rintro _ _ ⟨r62, rfl, rfl⟩
   refine SL.val (Val.assign rfl) rfl rfl ?_
   refine SL.nil ?_
   refine SE.inBlock ?_
   refine SE.seq ?_
   refine SC.region ?_
   first
    | refine SL.val (Val.addI rfl rfl (by simp only [InR, lo, hi]; omega)) rfl rfl ?_
    | refine SL.val (Val.addW rfl rfl) rfl rfl ?_
   refine SL.val (Val.move rfl) rfl rfl ?_
   refine SL.nil ?_
   refine SE.round (u.1 + 1, r62) (by first | omega | (dsimp only; omega)) (by dsimp only; omega) (by exact ⟨rfl, rfl, rfl, rfl, rfl, congrArg (fun b : Bool => some (boo b)) (by rw [hg]), rfl, rfl, rfl, trivial⟩) (by rw [hg]; repeat (first | exact List.nil_sublist _ | exact List.Sublist.refl _ | apply List.Sublist.cons_cons | apply List.Sublist.cons))
  intro hc53
  have hg : (gAt (eqL x.name) (gtL x.name) (l.ls.any (eqL x.name)) x l.ls (u.1 + 1)) = _ := gAt_step hlt
  unfold gStep at hg
  rw [if_pos hc53] at hg
  refine SC.seq (SC.region ?_)
  refine SL.val (Val.move rfl) rfl rfl ?_
  refine SL.val (Val.loadA tabOk rfl rfl rfl (by repeat first|assumption|exact o0_|exact o1_|apply o2_) List.not_mem_nil (by rfl)) rfl rfl ?_
  refine SL.eff (Eff.buildSl tabOk Tryz.underlying63 rfl rfl rfl rfl rfl rfl rfl) rfl rfl ?_
  rintro _ _ ⟨rfl, rfl⟩
  refine SL.eff (Eff.appendE (zs := ((gAt (eqL x.name) (gtL x.name) (l.ls.any (eqL x.name)) x l.ls (u.1)).1 ++ [x]).map ltrA) tabOk [_] (by simp only [List.map_append]; rfl) Tryz.underlying63 rfl rfl rfl rfl rfl rfl (by intro c hc; rw [List.mem_singleton] at hc; subst hc; rfl) (by unfold maxLen; simp only [List.length_map, List.length_append, List.length_cons, List.length_nil]; omega) (by rw [show Tryz.prog.bytesOf 74 = 72 by kernel_rfl]; simp only [List.length_map, List.length_append, List.length_cons, List.length_nil]; omega)) rfl rfl ?_
  rintro _ _ ⟨r57, rfl, rfl⟩
  refine SL.val (Val.assign rfl) rfl rfl ?_
  refine SL.nil (SE.seq ?_)
  refine SC.seq (SC.region ?_)
  refine SL.val (Val.assign rfl) rfl rfl ?_
  refine SL.nil (SE.seq ?_)
  refine SC.seq (SC.region ?_)
  refine SL.val (Val.move rfl) rfl rfl ?_
  refine SL.nil (SE.seq ?_)
  refine SC.cond rfl ?_ ?_
  ·intro hc58
   refine SC.exit ?_
   refine SE.then_ nofun ?_
   refine SE.exit ?_
   refine SE.seq ?_
   refine SC.region ?_
   first
    | refine SL.val (Val.addI rfl rfl (by simp only [InR, lo, hi]; omega)) rfl rfl ?_
    | refine SL.val (Val.addW rfl rfl) rfl rfl ?_
   refine SL.val (Val.move rfl) rfl rfl ?_
   refine SL.nil ?_
   rw [if_pos hc58] at hg
   refine SE.round (u.1 + 1, r57) (by first | omega | (dsimp only; omega)) (by dsimp only; omega) (by exact ⟨rfl, rfl, rfl, rfl, rfl, congrArg (fun b : Bool => some (boo b)) (by rw [hg]), rfl, rfl, rfl, trivial⟩) (by rw [hg]; repeat (first | exact List.nil_sublist _ | exact List.Sublist.refl _ | apply List.Sublist.cons_cons | apply List.Sublist.cons))
  intro hc58
  refine SC.skip ?_
  refine SE.seq ?_
  refine SC.region ?_
  refine SL.val (Val.move rfl) rfl rfl ?_
  refine SL.val (Val.loadA tabOk rfl rfl rfl (by repeat first|assumption|exact o0_|exact o1_|apply o2_) List.not_mem_nil (by rfl)) rfl rfl ?_
  refine SL.eff (Eff.buildSl tabOk Tryz.underlying63 rfl rfl rfl rfl rfl rfl rfl) rfl rfl ?_
  rintro _ _ ⟨rfl, rfl⟩
  refine SL.eff (Eff.appendE (zs := ((gAt (eqL x.name) (gtL x.name) (l.ls.any (eqL x.name)) x l.ls (u.1)).1 ++ [x] ++ [(l.ls[u.1]'hlt)]).map ltrA) tabOk [_] (by simp only [List.map_append]; rfl) Tryz.underlying63 rfl rfl rfl rfl rfl rfl (by intro c hc; rw [List.mem_singleton] at hc; subst hc; rfl) (by unfold maxLen; simp only [List.length_map, List.length_append, List.length_cons, List.length_nil]; omega) (by rw [show Tryz.prog.bytesOf 74 = 72 by kernel_rfl]; simp only [List.length_map, List.length_append, List.length_cons, List.length_nil]; omega)) rfl rfl ?_
  rintro _ _ ⟨r62, rfl, rfl⟩
  refine SL.val (Val.assign rfl) rfl rfl ?_
  refine SL.nil ?_
  refine SE.inBlock ?_
  refine SE.seq ?_
  refine SC.region ?_
  first
   | refine SL.val (Val.addI rfl rfl (by simp only [InR, lo, hi]; omega)) rfl rfl ?_
   | refine SL.val (Val.addW rfl rfl) rfl rfl ?_
  refine SL.val (Val.move rfl) rfl rfl ?_
  refine SL.nil ?_
  rw [if_neg (by rw [hc58]; decide)] at hg
  refine SE.round (u.1 + 1, r62) (by first | omega | (dsimp only; omega)) (by dsimp only; omega) (by exact ⟨rfl, rfl, rfl, rfl, rfl, congrArg (fun b : Bool => some (boo b)) (by rw [hg]), rfl, rfl, rfl, trivial⟩) (by rw [hg]; repeat (first | exact List.nil_sublist _ | exact List.Sublist.refl _ | apply List.Sublist.cons_cons | apply List.Sublist.cons))
end
end Go.Proofs.YtejcohlpjikjpaaGreatDoor.A
/-
  Policies' texts: numbers, read by the program.
-/
namespace Go.Proofs.YtejcohlpjikjpaaGreatDoor.A
open Go.RowKit

section
variable {l wd : Txt} {odd : Bool} {p : Nat} {es er : Value}
set_option maxHeartbeats 4000000 in
theorem number_s (he : isIf es) (hr : isIf er) (hl : l.length ≤ 100000) : Spec Tryz.prog 109 [ptr p] (.blk p 116 (psA (l) odd) :: globs es er) (fun _ : Unit => [.blk p 116 (psA (numL l) (numO l odd))]) (fun _ => int (numV l)) := by
 have hbl := bare_len l
 have hdl := digs_len (bare l)
 refine spec_of Tryz.func109 rfl Tryz.ntmps109 rfl fun G w => ?_
 refine SC.seq (SC.region ?_)
 refine SL.val (Val.assign rfl) rfl rfl ?_
 refine SL.nil (SE.seq ?_)
 refine SC.seq (SC.region ?_)
 refine SL.val (Val.move rfl) rfl rfl ?_
 refine SL.call (blanks_s (p := p) (l := l) (odd := odd)) Casts.refl (by kernel_rfl) rfl rfl rfl ?_
 refine After.one rfl (by repeat first|assumption|exact m0|apply m1) (fun _ => rfl) ?_
 intro _
 refine ⟨_, (by repeat first|assumption|exact Upd.here|apply Upd.there), ?_⟩
 refine SL.nil (SE.seq ?_)
 refine SC.seq (SC.region ?_)
 refine SL.val (Val.move rfl) rfl rfl ?_
 refine SL.val (Val.nilCheck rfl) rfl rfl ?_
 refine SL.val (Val.fieldAddr tabOk rfl rfl rfl rfl rfl) rfl rfl ?_
 refine SL.val (Val.load1 tabOk rfl rfl (by repeat first|assumption|exact o0_|exact o1_|apply o2_) List.not_mem_nil (by rfl)) rfl rfl ?_
 refine SL.val (Val.to (C := int (((bare l).length : Nat) : Int)) (Val.lenSt rfl Tryz.underlying9) rfl) rfl rfl ?_
 refine SL.val (Val.assign rfl) rfl rfl ?_
 refine SL.nil (SE.seq ?_)
 refine SC.cutS (ι := Unit) (fun z => (.blk p 116 (psA (bare l) odd) :: globs es er)) (fun z => [(0, ptr p), (3, int ((digs (bare l)).length : Nat))]) (fun z => True) ?_ ?_
 ·skip
  refine SC.seq (SC.region ?_)
  refine SL.val (Val.move rfl) rfl rfl ?_
  refine SL.val (Val.nilCheck rfl) rfl rfl ?_
  refine SL.val (Val.fieldAddr tabOk rfl rfl rfl rfl rfl) rfl rfl ?_
  refine SL.val (Val.load1 tabOk rfl rfl (by repeat first|assumption|exact o0_|exact o1_|apply o2_) List.not_mem_nil (by rfl)) rfl rfl ?_
  refine SL.eff (Eff.rangeStr rfl Tryz.underlying9) rfl rfl ?_
  rintro _ _ ⟨b20, rfl, rfl⟩
  refine SL.nil (SE.seq ?_)
  refine SC.block ?_
  refine SC.loop (ι := Nat) (fun z => .pc (iterPc b20 ⟨(bare l).toArray⟩ z) :: (.blk p 116 (psA (bare l) odd) :: globs es er)) (fun z => [(0, ptr p), (3, int ((bare l).length : Nat)), (20, ptr b20)]) (fun z => z ≤ (bare l).length ∧ ∀ j (hj : j < (bare l).length), j < z → isDig (bare l)[j] = true) (fun z => (bare l).length - z) (0) (⟨Nat.zero_le _, fun j _ h => absurd h (by omega)⟩) (by exact ⟨rfl, rfl, rfl, trivial⟩) (by repeat first|exact s0 _|exact s1 _|apply s2|apply s3) ?_
  intro z hz
  refine SC.seq (SC.region ?_)
  refine SL.nextStr rfl (by repeat first|assumption|exact m0|apply m1) rfl rfl ?_ ?_
  rotate_left
  ·intro hnx
   refine SL.val (Val.extract rfl rfl) rfl rfl ?_
   refine SL.nil (SE.seq ?_)
   refine SC.seq ?_
   refine SC.condF rfl ?_
   refine SC.exit ?_
   refine SE.then_ nofun ?_
   refine SE.then_ nofun ?_
   refine SE.exit ?_
   have hdz := digs_all (t := bare l) fun j hj => hz.2 j hj (by have h9 : ¬ z < (bare l).length := hnx; omega)
   refine SE.meet (()) (trivial) (by exact ⟨rfl, congrArg (fun k : Nat => some (int (k : Nat))) hdz.symm, trivial⟩) (by repeat first|exact s0 _|exact s1 _|apply s2|apply s3)
  intro hnx
  refine ⟨_, (by repeat first|assumption|exact Upd.here|apply Upd.there), ?_⟩
  have hd := decode_high ⟨(bare l).toArray⟩ z hnx
  have hz1 : z < (bare l).length := hnx
  have hb8 := ((bare l)[z]'hz1).toNat_lt
  have e1 : ((bare l)[z]'hz1).toNat < 128 → Utf8.decode (ByteArray.mk (bare l).toArray) z = (((bare l)[z]'hz1).toNat, 1) := fun h => decode_ascii ⟨(bare l).toArray⟩ z hnx h
  refine SL.val (Val.extract rfl rfl) rfl rfl ?_
  refine SL.nil (SE.seq ?_)
  refine SC.seq ?_
  refine SC.condT rfl ?_
  refine SC.skip ?_
  refine SE.seq ?_
  refine SC.block ?_
  refine SC.seq (SC.region ?_)
  refine SL.val (Val.extract rfl rfl) rfl rfl ?_
  refine SL.val (Val.extract rfl rfl) rfl rfl ?_
  iterate 2 refine SL.val (Val.assign rfl) rfl rfl ?_
  refine SL.nil (SE.seq ?_)
  refine SC.seq (SC.region ?_)
  refine SL.val (Val.move rfl) rfl rfl ?_
  refine SL.val (Val.ltI rfl rfl) rfl rfl ?_
  refine SL.val (Val.move rfl) rfl rfl ?_
  refine SL.bothP (t := 27) rfl ?_ ?_
  ·intro hc27
   iterate 2 refine SL.skip rfl rfl ?_
   refine SL.val (Val.pickT rfl rfl) rfl rfl ?_
   refine SL.nil (SE.seq ?_)
   refine SC.condT rfl ?_
   refine SC.seq (SC.region ?_)
   refine SL.val (Val.move rfl) rfl rfl ?_
   refine SL.val (Val.assign rfl) rfl rfl ?_
   refine SL.nil (SE.seq ?_)
   refine SC.exit ?_
   refine SE.exit_ rfl ?_
   refine SE.then_ nofun ?_
   refine SE.exit ?_
   have hdn : ¬ isDig ((bare l)[z]'hz1) = true := by
    intro hdd
    have h3 := of_decide_eq_true (show decide (48 ≤ ((bare l)[z]'hz1).toNat ∧ ((bare l)[z]'hz1).toNat ≤ 57) = true from hdd)
    have e2 := e1 (by omega)
    first
     | (rw [e2] at hc27; dsimp only at hc27; omega)
     | (rw [e2] at hc30; dsimp only at hc30; omega)
   have hdz := digs_stop hz1 hz.2 hdn
   refine SE.meet (()) (trivial) (by exact ⟨rfl, congrArg (fun k : Nat => some (int (k : Nat))) hdz.symm, trivial⟩) (by repeat first|exact s0 _|exact s1 _|apply s2|apply s3)
  intro hc27
  refine SL.val (Val.move rfl) rfl rfl ?_
  refine SL.val (Val.gtI rfl rfl) rfl rfl ?_
  refine SL.val (Val.pickF rfl rfl) rfl rfl ?_
  refine SL.nil (SE.seq ?_)
  refine SC.condP rfl ?_ ?_
  rotate_left
  ·intro hc30
   refine SC.skip ?_
   refine SE.inBlock ?_
   have h128 : ((bare l)[z]'hz1).toNat < 128 := by
    rcases Nat.lt_or_ge ((bare l)[z]'hz1).toNat 128 with h | h
    ·exact h
    ·have h2 := hd (by show ¬ ((bare l)[z]'hz1).toNat < 128; omega)
     omega
   have e2 := e1 h128
   have hdd : isDig ((bare l)[z]'hz1) = true := decide_eq_true (by rw [e2] at hc27 hc30; dsimp only at hc27 hc30; omega)
   rw [e2]
   refine SE.round (z + 1) (by first | omega | (dsimp only; omega)) (⟨hz1, fun j hj h => by rcases Nat.lt_or_ge j z with h1 | h1; exact hz.2 j hj h1; obtain rfl : j = z := (by omega); exact hdd⟩) (by exact ⟨rfl, rfl, rfl, trivial⟩) (by repeat first|exact s0 _|exact s1 _|apply s2|apply s3)
  intro hc30
  refine SC.seq (SC.region ?_)
  refine SL.val (Val.move rfl) rfl rfl ?_
  refine SL.val (Val.assign rfl) rfl rfl ?_
  refine SL.nil (SE.seq ?_)
  refine SC.exit ?_
  refine SE.exit_ rfl ?_
  refine SE.then_ nofun ?_
  refine SE.exit ?_
  have hdn : ¬ isDig ((bare l)[z]'hz1) = true := by
   intro hdd
   have h3 := of_decide_eq_true (show decide (48 ≤ ((bare l)[z]'hz1).toNat ∧ ((bare l)[z]'hz1).toNat ≤ 57) = true from hdd)
   have e2 := e1 (by omega)
   first
    | (rw [e2] at hc27; dsimp only at hc27; omega)
    | (rw [e2] at hc30; dsimp only at hc30; omega)
  have hdz := digs_stop hz1 hz.2 hdn
  refine SE.meet (()) (trivial) (by exact ⟨rfl, congrArg (fun k : Nat => some (int (k : Nat))) hdz.symm, trivial⟩) (by repeat first|exact s0 _|exact s1 _|apply s2|apply s3)
 ·intro z hz
  refine SC.seq (SC.region ?_)
  refine SL.val (Val.move rfl) rfl rfl ?_
  refine SL.val (Val.nilCheck rfl) rfl rfl ?_
  refine SL.val (Val.fieldAddr tabOk rfl rfl rfl rfl rfl) rfl rfl ?_
  refine SL.val (Val.load1 tabOk rfl rfl (by repeat first|assumption|exact o0_|exact o1_|apply o2_) List.not_mem_nil (by rfl)) rfl rfl ?_
  refine SL.val (Val.move rfl) rfl rfl ?_
  refine SL.val (Val.to (C := stA (digs (bare l))) (Val.sliceStHi (q := (digs (bare l)).length) Tryz.underlying9 rfl rfl rfl (by simp only [tx_size]; omega)) ((st_hi _ _).trans (congrArg stA (take_digs _)))) rfl rfl ?_
  refine SL.val (Val.assign rfl) rfl rfl ?_
  refine SL.nil (SE.seq ?_)
  refine SC.seq (SC.region ?_)
  refine SL.val (Val.move rfl) rfl rfl ?_
  refine SL.call (atoi_s (l := (digs (bare l))) he hr (by omega)) Casts.refl (by kernel_rfl) rfl rfl rfl ?_
  refine ap_ ?_
  intro z9
  refine SL.val (Val.move rfl) rfl rfl ?_
  refine SL.val (Val.extract rfl rfl) rfl rfl ?_
  refine SL.val (Val.extract rfl rfl) rfl rfl ?_
  iterate 2 refine SL.val (Val.assign rfl) rfl rfl ?_
  refine SL.nil (SE.seq ?_)
  refine SC.seq ?_
  refine SC.seq (SC.region ?_)
  refine SL.val (Val.move rfl) rfl rfl ?_
  refine SL.val (Val.neIf (c := atoiBad (digs (bare l))) Tryz.underlying164 rfl (atoi_bad z9.2)) rfl rfl ?_
  refine SL.val (Val.move rfl) rfl rfl ?_
  refine SL.both (t := 45) rfl ?_ ?_
  ·intro hc45
   iterate 2 refine SL.skip rfl rfl ?_
   refine SL.val (Val.pickT rfl rfl) rfl rfl ?_
   refine SL.val (Val.move rfl) rfl rfl ?_
   iterate 4 refine SL.skip rfl rfl ?_
   refine SL.val (Val.pickT rfl rfl) rfl rfl ?_
   refine SL.nil (SE.seq ?_)
   refine SC.condT rfl ?_
   refine SC.seq (SC.region ?_)
   refine SL.val (Val.move rfl) rfl rfl ?_
   refine SL.val (Val.nilCheck rfl) rfl rfl ?_
   refine SL.val (Val.fieldAddr tabOk rfl rfl rfl rfl rfl) rfl rfl ?_
   refine SL.eff (Eff.store (L' := psA (bare l) true) tabOk rfl rfl rfl (by repeat first|assumption|exact Upd.here|apply Upd.there) rfl (lb_ (by rfl)) rfl (by rfl)) rfl rfl ?_
   rintro _ _ ⟨rfl, rfl⟩
   refine SL.nil (SE.seq ?_)
   refine SC.seq (SC.region ?_)
   refine SL.val (Val.assign rfl) rfl rfl ?_
   refine SL.nil (SE.seq ?_)
   refine SC.ret ?_
   refine SE.then_ nofun ?_
   have hnn : numT (bare l) = none := by
    first
     | exact numT_bad hc45
     | exact numT_long (by omega)
     | exact numT_other hgv.1 (by rw [← hgv.2]; assumption)
   obtain ⟨e1, e2, e3⟩ := num_none hnn odd
   refine SE.fin (rs := [.tmp 2]) rfl (RV.tmp rfl RV.nil) (()) (by rw [e1, e2]; repeat (first | exact List.nil_sublist _ | exact List.Sublist.refl _ | apply List.Sublist.cons_cons | apply List.Sublist.cons)) (by simp [It.rids]) ?_
   rw [e3]
   rfl
  intro hc45
  refine SL.val (Val.move rfl) rfl rfl ?_
  refine SL.val (Val.gtI rfl rfl) rfl rfl ?_
  refine SL.val (Val.pickF rfl rfl) rfl rfl ?_
  refine SL.val (Val.move rfl) rfl rfl ?_
  refine SL.bothP (t := 49) rfl ?_ ?_
  ·intro hc49
   iterate 4 refine SL.skip rfl rfl ?_
   refine SL.val (Val.pickT rfl rfl) rfl rfl ?_
   refine SL.nil (SE.seq ?_)
   refine SC.condT rfl ?_
   refine SC.seq (SC.region ?_)
   refine SL.val (Val.move rfl) rfl rfl ?_
   refine SL.val (Val.nilCheck rfl) rfl rfl ?_
   refine SL.val (Val.fieldAddr tabOk rfl rfl rfl rfl rfl) rfl rfl ?_
   refine SL.eff (Eff.store (L' := psA (bare l) true) tabOk rfl rfl rfl (by repeat first|assumption|exact Upd.here|apply Upd.there) rfl (lb_ (by rfl)) rfl (by rfl)) rfl rfl ?_
   rintro _ _ ⟨rfl, rfl⟩
   refine SL.nil (SE.seq ?_)
   refine SC.seq (SC.region ?_)
   refine SL.val (Val.assign rfl) rfl rfl ?_
   refine SL.nil (SE.seq ?_)
   refine SC.ret ?_
   refine SE.then_ nofun ?_
   have hnn : numT (bare l) = none := by
    first
     | exact numT_bad hc45
     | exact numT_long (by omega)
     | exact numT_other hgv.1 (by rw [← hgv.2]; assumption)
   obtain ⟨e1, e2, e3⟩ := num_none hnn odd
   refine SE.fin (rs := [.tmp 2]) rfl (RV.tmp rfl RV.nil) (()) (by rw [e1, e2]; repeat (first | exact List.nil_sublist _ | exact List.Sublist.refl _ | apply List.Sublist.cons_cons | apply List.Sublist.cons)) (by simp [It.rids]) ?_
   rw [e3]
   rfl
  intro hc49
  have hgv := good_val z9.2 hc45 (by omega)
  refine SL.val (Val.move rfl) rfl rfl ?_
  refine SL.call (itoa_s (es := es) (er := er) (v := z9.1.1) (by rw [hgv.2]; have h9 := decV_lt (digs (bare l)) (digs_dig _); have h10 : 10 ^ (digs (bare l)).length ≤ 10 ^ 4 := Nat.pow_le_pow_right (by omega) (by omega); simp only [InR, lo, hi]; omega)) Casts.refl (by kernel_rfl) rfl rfl rfl ?_
  refine ap_ ?_
  intro _
  refine SL.val (Val.move rfl) rfl rfl ?_
  refine SL.val (Val.to (C := boo (decide (¬ Lib.itoa z9.1.1 = (digs (bare l))))) (Val.neS rfl rfl) (congrArg (fun b => Abs.v (Value.bool b)) (decide_eq_decide.2 (not_congr st_eq)))) rfl rfl ?_
  refine SL.val (Val.pickF rfl rfl) rfl rfl ?_
  refine SL.nil (SE.seq ?_)
  refine SC.condP rfl ?_ ?_
  ·intro hc54
   refine SC.seq (SC.region ?_)
   refine SL.val (Val.move rfl) rfl rfl ?_
   refine SL.val (Val.nilCheck rfl) rfl rfl ?_
   refine SL.val (Val.fieldAddr tabOk rfl rfl rfl rfl rfl) rfl rfl ?_
   refine SL.eff (Eff.store (L' := psA (bare l) true) tabOk rfl rfl rfl (by repeat first|assumption|exact Upd.here|apply Upd.there) rfl (lb_ (by rfl)) rfl (by rfl)) rfl rfl ?_
   rintro _ _ ⟨rfl, rfl⟩
   refine SL.nil (SE.seq ?_)
   refine SC.seq (SC.region ?_)
   refine SL.val (Val.assign rfl) rfl rfl ?_
   refine SL.nil (SE.seq ?_)
   refine SC.ret ?_
   refine SE.then_ nofun ?_
   have hnn : numT (bare l) = none := by
    first
     | exact numT_bad hc45
     | exact numT_long (by omega)
     | exact numT_other hgv.1 (by rw [← hgv.2]; assumption)
   obtain ⟨e1, e2, e3⟩ := num_none hnn odd
   refine SE.fin (rs := [.tmp 2]) rfl (RV.tmp rfl RV.nil) (()) (by rw [e1, e2]; repeat (first | exact List.nil_sublist _ | exact List.Sublist.refl _ | apply List.Sublist.cons_cons | apply List.Sublist.cons)) (by simp [It.rids]) ?_
   rw [e3]
   rfl
  intro hc54
  refine SC.skip ?_
  refine SE.seq ?_
  refine SC.seq (SC.region ?_)
  iterate 2 refine SL.val (Val.move rfl) rfl rfl ?_
  refine SL.val (Val.nilCheck rfl) rfl rfl ?_
  refine SL.val (Val.fieldAddr tabOk rfl rfl rfl rfl rfl) rfl rfl ?_
  refine SL.val (Val.load1 tabOk rfl rfl (by repeat first|assumption|exact o0_|exact o1_|apply o2_) List.not_mem_nil (by rfl)) rfl rfl ?_
  refine SL.val (Val.move rfl) rfl rfl ?_
  refine SL.val (Val.to (C := stA ((bare l).drop (digs (bare l)).length)) (Val.sliceStLo (q := (digs (bare l)).length) Tryz.underlying9 rfl rfl rfl (by simp only [tx_size]; omega)) (st_lo _ _)) rfl rfl ?_
  refine SL.val (Val.nilCheck rfl) rfl rfl ?_
  refine SL.val (Val.fieldAddr tabOk rfl rfl rfl rfl rfl) rfl rfl ?_
  refine SL.eff (Eff.store (L' := psA ((bare l).drop (digs (bare l)).length) odd) tabOk rfl rfl rfl (by repeat first|assumption|exact Upd.here|apply Upd.there) rfl (lb_ (by rfl)) rfl (by rfl)) rfl rfl ?_
  rintro _ _ ⟨rfl, rfl⟩
  refine SL.nil (SE.seq ?_)
  refine SC.seq (SC.region ?_)
  refine SL.val (Val.move rfl) rfl rfl ?_
  refine SL.val (Val.assign rfl) rfl rfl ?_
  refine SL.nil (SE.seq ?_)
  refine SC.ret ?_
  have hi9 : Lib.itoa z9.1.1 = digs (bare l) := Classical.byContradiction fun h => hc54 h
  obtain ⟨e1, e2, e3⟩ := num_some (numT_own hgv.1 (by omega) (by rw [← hgv.2]; exact hi9)) odd
  refine SE.fin (rs := [.tmp 2]) rfl (RV.tmp rfl RV.nil) (()) (by rw [e1, e2]; repeat (first | exact List.nil_sublist _ | exact List.Sublist.refl _ | apply List.Sublist.cons_cons | apply List.Sublist.cons)) (by simp [It.rids]) ?_
  rw [e3, ← hgv.2]
  rfl
end
end Go.Proofs.YtejcohlpjikjpaaGreatDoor.A
/-
  Policies' texts, plain: what the program's parser leaves, step by step.
-/
namespace Go.Proofs.YtejcohlpjikjpaaGreatDoor.A
open Go.RowKit

/-- What the parser leaves behind a policy: what is left, whether it is odd, the policy. -/
def PolR (k : Nat) (l : Txt) (odd : Bool) (z : Txt × Bool × Frm) : Prop :=
  z.1.length ≤ l.length ∧ (odd = true → z.2.1 = true) ∧ (odd = false → polT k l = none → z.2.1 = true) ∧ (odd = false → ∀ x, polT k l = some x → z.2.1 = false ∧ bare z.1 = bare x.2 ∧ z.2.2 = x.1)
/-- And behind a row. -/
def RowF (k : Nat) (l : Txt) (odd : Bool) (z : Txt × Bool × List Frm) : Prop :=
  z.1.length ≤ l.length ∧ (odd = true → z.2.1 = true) ∧ (odd = false → rowT (polT k) l = none → z.2.1 = true) ∧ (odd = false → ∀ x, rowT (polT k) l = some x → z.2.1 = false ∧ z.1 = x.2 ∧ z.2.2 = x.1)
/-- At the head of a round. -/
structure RowI (k : Nat) (l : Txt) (odd : Bool) (z : Txt × Bool × List Frm) : Prop where
  len : z.1.length ≤ l.length
  few : z.2.2.length + (if z.2.1 = true then 0 else z.1.length + 1) ≤ l.length + 2
  off : odd = true → z.2.1 = true
  no : odd = false → z.2.1 = true → rowT (polT k) l = none
  go : odd = false → z.2.1 = false → ∃ F, z.1.length + 1 ≤ F ∧ rowT (polT k) l = rowL (polT k) F z.1 z.2.2
theorem takeT_yes {l wd : Txt} (h : begins (bare l) wd = true) : takeT l wd = (bare l).drop wd.length := if_pos h
theorem takeT_no {l wd : Txt} (h : ¬ begins (bare l) wd = true) : takeT l wd = bare l := if_neg h
theorem takeT_len (l wd : Txt) : (takeT l wd).length ≤ l.length := by
  have := bare_len l
  unfold takeT
  split
  · rw [List.length_drop]; omega
  · exact this
section
variable {k : Nat} {l : Txt} {odd : Bool} {z : Txt × Bool × List Frm} {y : Txt × Bool × Frm}
theorem RowI.start (h : begins (bare l) [40] = true) : RowI k l odd (takeT l [40], odd, []) := by
  have hl := takeT_len l [40]
  refine ⟨hl, (by dsimp only; split <;> simp <;> omega), fun h => h, fun h1 h2 => (by simp only at h2; rw [h1] at h2; cases h2), fun _ _ => ⟨l.length + 1, (by simp only; omega), ?_⟩⟩
  unfold rowT
  rw [if_pos h, takeT_yes h]
  rfl
theorem RowI.odd_ (h : ¬ begins (bare l) [40] = true) : RowI k l odd (takeT l [40], true, []) := by
  have hl := takeT_len l [40]
  exact ⟨hl, (by simp), fun _ => rfl, fun _ _ => if_neg h, fun _ h2 => (by cases h2)⟩
theorem RowI.done (h : RowI k l odd z) (ho : z.2.1 = true) : RowF k l odd z :=
  ⟨h.len, h.off, fun _ _ => ho, fun h1 x hx => (by rw [h.no h1 ho] at hx; cases hx)⟩
theorem RowI.step (h : RowI k l odd z) (ho : z.2.1 = false) (hy : PolR k z.1 z.2.1 y) :
    (begins (bare y.1) [41] = true → RowF k l odd (takeT y.1 [41], y.2.1, z.2.2 ++ [y.2.2])) ∧
    (¬ begins (bare y.1) [41] = true → begins (bare (takeT y.1 [41])) [44] = true → RowI k l odd (takeT (takeT y.1 [41]) [44], y.2.1, z.2.2 ++ [y.2.2]) ∧ (y.2.1 = true ∨ (takeT (takeT y.1 [41]) [44]).length < z.1.length)) ∧
    (¬ begins (bare y.1) [41] = true → ¬ begins (bare (takeT y.1 [41])) [44] = true → RowI k l odd (takeT (takeT y.1 [41]) [44], true, z.2.2 ++ [y.2.2])) := by
  obtain ⟨h1, h2, h3, h4⟩ := hy
  have hodd : odd = false := by
    cases odd with
    | true => have := h.off rfl; rw [ho] at this; cases this
    | false => rfl
  subst hodd
  obtain ⟨F, hF, hR⟩ := h.go rfl ho
  have hlen := h.len
  have hfew := h.few
  rw [ho] at hfew
  simp only [Bool.false_eq_true, if_false] at hfew
  have hb := bare_len y.1
  have t1 := takeT_len y.1 [41]
  have t2 := takeT_len (takeT y.1 [41]) [44]
  have hF1 : ∃ m, F = m + 1 := ⟨F - 1, (by omega)⟩
  obtain ⟨m, rfl⟩ := hF1
  cases hp : polT k z.1 with
  | none =>
    have hno := h3 ho hp
    have hR2 : rowT (polT k) l = none := by rw [hR]; unfold rowL; rw [hp]
    refine ⟨fun _ => ⟨(by simp only; omega), fun h => (by cases h), fun _ _ => hno, fun _ x hx => (by rw [hR2] at hx; cases hx)⟩, fun _ _ => ⟨⟨(by simp only; omega), ?_, fun h => (by cases h), fun _ _ => hR2, fun _ h9 => (by simp only at h9; rw [hno] at h9; cases h9)⟩, .inl hno⟩,
      fun _ _ => ⟨(by simp only; omega), ?_, fun h => (by cases h), fun _ _ => hR2, fun _ h9 => (by cases h9)⟩⟩
    · simp only [hno, if_true, List.length_append, List.length_singleton]; omega
    · simp only [if_true, List.length_append, List.length_singleton]; omega
  | some x =>
    obtain ⟨f, r⟩ := x
    obtain ⟨q1, q2, q3⟩ := h4 ho (f, r) hp
    have hs := polT_short k z.1 f r hp
    have hbr := bare_len r
    dsimp only at q2 q3
    have hR2 : rowL (polT k) (m + 1) z.1 z.2.2 = if begins (bare r) [41] = true then some (z.2.2 ++ [f], (bare r).drop 1) else if begins (bare r) [44] = true then rowL (polT k) m ((bare r).drop 1) (z.2.2 ++ [f]) else none := by
      conv => lhs; unfold rowL
      rw [hp]
    rw [hR2] at hR
    rw [q3, q1]
    rw [q2]
    refine ⟨fun hb1 => ?_, fun hb1 hb2 => ?_, fun hb1 hb2 => ?_⟩
    · have e : takeT y.1 [41] = (bare r).drop 1 := by rw [takeT_yes (by rw [q2]; exact hb1), q2]; rfl
      refine ⟨(by simp only; omega), fun h => (by cases h), fun _ hn => ?_, fun _ x hx => ?_⟩
      · rw [hR, if_pos hb1] at hn; cases hn
      · rw [hR, if_pos hb1] at hx
        cases hx
        exact ⟨rfl, e, rfl⟩
    · have e1 : takeT y.1 [41] = bare r := by rw [takeT_no (by rw [q2]; exact hb1), q2]
      rw [e1, bare_bare] at hb2
      have hbl := begins_len hb2
      have e2 : takeT (takeT y.1 [41]) [44] = (bare r).drop 1 := by rw [e1, takeT_yes (by rw [bare_bare]; exact hb2), bare_bare]; rfl
      have hl2 : ((bare r).drop 1).length < z.1.length := by rw [List.length_drop]; omega
      refine ⟨⟨(by simp only; omega), ?_, fun h => (by cases h), fun _ h9 => (by cases h9), fun _ _ => ⟨m, ?_, ?_⟩⟩, .inr (by rw [e2]; exact hl2)⟩
      · simp only [Bool.false_eq_true, if_false, List.length_append, List.length_singleton, e2]; omega
      · simp only [e2]; omega
      · rw [hR, if_neg hb1, if_pos hb2, e2]
    · have e1 : takeT y.1 [41] = bare r := by rw [takeT_no (by rw [q2]; exact hb1), q2]
      rw [e1, bare_bare] at hb2
      refine ⟨(by simp only; omega), ?_, fun h => (by cases h), fun _ _ => (by rw [hR, if_neg hb1, if_neg hb2]), fun _ h9 => (by cases h9)⟩
      simp only [if_true, List.length_append, List.length_singleton]; omega
end
/-! ### Policies -/
section
variable {k : Nat} {l : Txt} {odd : Bool} {y : Txt × Bool × Frm} {z : Txt × Bool × List Frm}
theorem PolR.deep : PolR 0 l odd (l, true, .mk 0 0 []) := ⟨Nat.le_refl _, fun _ => rfl, fun _ _ => rfl, fun _ x hx => (by cases hx)⟩
theorem PolR.was (h : odd = true) (f : Frm) : PolR k l odd (l, odd, f) := ⟨Nat.le_refl _, fun h => h, fun h2 => (by rw [h] at h2; cases h2), fun h2 => (by rw [h] at h2; cases h2)⟩
theorem PolR.all (h0 : odd = false) (hb : begins (bare l) [97, 108, 108] = true) (hz : RowF k (takeT l [97, 108, 108]) odd z) : PolR (k + 1) l odd (z.1, z.2.1, .mk 0 z.2.2.length z.2.2) := by
  obtain ⟨h1, h2, h3, h4⟩ := hz
  have ht := takeT_len l [97, 108, 108]
  have e : polT (k + 1) l = (rowT (polT k) (takeT l [97, 108, 108])).map fun x => (.mk 0 x.1.length x.1, x.2) := by
    conv => lhs; unfold polT
    rw [if_pos hb, takeT_yes hb]
    rfl
  refine ⟨(by simp only; omega), fun h => (by rw [h0] at h; cases h), fun _ hn => ?_, fun _ x hx => ?_⟩
  · cases hr : rowT (polT k) (takeT l [97, 108, 108]) with
    | none => exact h3 h0 hr
    | some x => rw [e, hr] at hn; cases hn
  · cases hr : rowT (polT k) (takeT l [97, 108, 108]) with
    | none => rw [e, hr] at hx; cases hx
    | some q =>
      rw [e, hr] at hx
      cases hx
      obtain ⟨r1, r2, r3⟩ := h4 h0 q hr
      exact ⟨r1, (by simp only [r2]), (by simp only [r3])⟩
theorem PolR.any (h0 : odd = false) (ha : ¬ begins (bare l) [97, 108, 108] = true) (hb : begins (bare l) [97, 110, 121] = true) (hz : RowF k (takeT (takeT l [97, 108, 108]) [97, 110, 121]) odd z) : PolR (k + 1) l odd (z.1, z.2.1, .mk 0 1 z.2.2) := by
  obtain ⟨h1, h2, h3, h4⟩ := hz
  have ht := takeT_len (takeT l [97, 108, 108]) [97, 110, 121]
  have ht2 := takeT_len l [97, 108, 108]
  have e0 : takeT l [97, 108, 108] = bare l := takeT_no ha
  have e1 : takeT (takeT l [97, 108, 108]) [97, 110, 121] = (bare l).drop 3 := by
    rw [e0, takeT_yes (by rw [bare_bare]; exact hb), bare_bare]
    rfl
  have e : polT (k + 1) l = (rowT (polT k) (takeT (takeT l [97, 108, 108]) [97, 110, 121])).map fun x => (.mk 0 1 x.1, x.2) := by
    conv => lhs; unfold polT
    rw [if_neg ha, if_pos hb, e1]
  refine ⟨(by simp only; omega), fun h => (by rw [h0] at h; cases h), fun _ hn => ?_, fun _ x hx => ?_⟩
  · cases hr : rowT (polT k) (takeT (takeT l [97, 108, 108]) [97, 110, 121]) with
    | none => exact h3 h0 hr
    | some x => rw [e, hr] at hn; cases hn
  · cases hr : rowT (polT k) (takeT (takeT l [97, 108, 108]) [97, 110, 121]) with
    | none => rw [e, hr] at hx; cases hx
    | some q =>
      rw [e, hr] at hx
      cases hx
      obtain ⟨r1, r2, r3⟩ := h4 h0 q hr
      exact ⟨r1, (by simp only [r2]), (by simp only [r3])⟩
/-- What is left behind 'all' and 'any', neither of which stands there. -/
theorem two_no (ha : ¬ begins (bare l) [97, 108, 108] = true) (hb : ¬ begins (bare (takeT l [97, 108, 108])) [97, 110, 121] = true) : takeT (takeT l [97, 108, 108]) [97, 110, 121] = bare l := by
  rw [takeT_no hb, takeT_no ha, bare_bare]
theorem numL_bare (l : Txt) (odd : Bool) : numL (bare l) = numL l ∧ numO (bare l) odd = numO l odd ∧ numV (bare l) = numV l := by
  unfold numL numO numV
  rw [bare_bare]
  exact ⟨rfl, rfl, rfl⟩
theorem numL_len (l : Txt) : (numL l).length ≤ l.length := by
  have hb := bare_len l
  unfold numL
  cases h : numT (bare l) with
  | none => exact hb
  | some x =>
    have := numT_short (v := x.1) (r := x.2) h
    show x.2.length ≤ _
    omega
theorem pol_num (ha : ¬ begins (bare l) [97, 108, 108] = true) (hb : ¬ begins (bare l) [97, 110, 121] = true) : polT (k + 1) l = match numT (bare l) with
    | none => none
    | some (v, r) => if begins (bare r) [111, 102] = true then (if 1 ≤ v ∧ v ≤ 99 then (rowT (polT k) ((bare r).drop 2)).map fun x => (.mk 0 v x.1, x.2) else none) else some (.mk v 0 [], r) := by
  conv => lhs; unfold polT
  rw [if_neg ha, if_neg hb]
  cases numT (bare l) with
  | none => rfl
  | some x => obtain ⟨v, r⟩ := x; rfl
/-- No number, or a number alone. -/
theorem PolR.org (h0 : odd = false) (ha : ¬ begins (bare l) [97, 108, 108] = true) (hb : ¬ begins (bare l) [97, 110, 121] = true) (hn : ¬ (numO l odd = false ∧ begins (bare (numL l)) [111, 102] = true)) (t : Txt) (ht : t = numL l ∨ t = bare (numL l)) :
    PolR (k + 1) l odd (t, numO l odd, .mk (numV l) 0 []) := by
  have e := pol_num (k := k) ha hb
  have hl := numL_len l
  have hbl := bare_len (numL l)
  have htl : t.length ≤ l.length := by rcases ht with rfl | rfl <;> omega
  have htb : bare t = bare (numL l) := by
    rcases ht with rfl | rfl
    · rfl
    · rw [bare_bare]
  cases hq : numT (bare l) with
  | none =>
    rw [hq] at e
    obtain ⟨q1, q2, q3⟩ := num_none hq odd
    exact ⟨htl, fun h => (by rw [h0] at h; cases h), fun _ _ => q2, fun _ x hx => (by rw [e] at hx; cases hx)⟩
  | some x =>
    obtain ⟨v, r⟩ := x
    rw [hq] at e
    obtain ⟨q1, q2, q3⟩ := num_some hq odd
    rw [q1, q2] at hn
    have hof : ¬ begins (bare r) [111, 102] = true := fun h => hn ⟨h0, h⟩
    dsimp only at e
    rw [if_neg hof] at e
    refine ⟨htl, fun h => (by rw [h0] at h; cases h), fun _ h => (by rw [e] at h; cases h), fun _ x hx => ?_⟩
    rw [e] at hx
    cases hx
    exact ⟨q2.trans h0, (by rw [htb, q1]), (by rw [q3])⟩
/-- So many of a row. -/
theorem PolR.of (h0 : odd = false) (ha : ¬ begins (bare l) [97, 108, 108] = true) (hb : ¬ begins (bare l) [97, 110, 121] = true) (hq : numO l odd = false) (hof : begins (bare (numL l)) [111, 102] = true) {o2 : Bool} (ho : o2 = (numO l odd || decide (numV l < 1 ∨ 99 < numV l)))
    (hz : RowF k (takeT (numL l) [111, 102]) o2 z) : PolR (k + 1) l odd (z.1, z.2.1, .mk 0 (numV l) z.2.2) := by
  have e := pol_num (k := k) ha hb
  have hl := numL_len l
  have ht := takeT_len (numL l) [111, 102]
  obtain ⟨h1, h2, h3, h4⟩ := hz
  cases hn : numT (bare l) with
  | none =>
    have := (num_none hn odd).2.1
    rw [hq] at this
    cases this
  | some x =>
    obtain ⟨v, r⟩ := x
    rw [hn] at e
    obtain ⟨q1, q2, q3⟩ := num_some hn odd
    rw [q1] at hof hl ht h1 h3 h4
    rw [hq, q3, Bool.false_or] at ho
    dsimp only at e
    rw [if_pos hof] at e
    have e2 : takeT r [111, 102] = (bare r).drop 2 := takeT_yes hof
    rw [e2] at h3 h4
    by_cases hv : 1 ≤ v ∧ v ≤ 99
    · rw [if_pos hv] at e
      have ho2 : o2 = false := by rw [ho]; exact decide_eq_false (by omega)
      refine ⟨(by simp only; omega), fun h => (by rw [h0] at h; cases h), fun _ hn2 => ?_, fun _ x hx => ?_⟩
      · cases hr : rowT (polT k) ((bare r).drop 2) with
        | none => exact h3 ho2 hr
        | some x => rw [e, hr] at hn2; cases hn2
      · cases hr : rowT (polT k) ((bare r).drop 2) with
        | none => rw [e, hr] at hx; cases hx
        | some q =>
          rw [e, hr] at hx
          cases hx
          obtain ⟨r1, r2, r3⟩ := h4 ho2 q hr
          exact ⟨r1, (by simp only [r2]), (by simp only [r3, q3])⟩
    · rw [if_neg hv] at e
      have ho2 : o2 = true := by rw [ho]; exact decide_eq_true (by omega)
      exact ⟨(by simp only; omega), fun h => (by rw [h0] at h; cases h), fun _ _ => h2 ho2, fun _ x hx => (by rw [e] at hx; cases hx)⟩
end
end Go.Proofs.YtejcohlpjikjpaaGreatDoor.A
/-
  Policies' texts, plain: how many nodes, and what the whole text tells.
-/
namespace Go.Proofs.YtejcohlpjikjpaaGreatDoor.A
open Go.RowKit

theorem rowL_nodes {p : Txt → Option (Frm × Txt)} (hp : ∀ t f r, p t = some (f, r) → f.nodes + r.length ≤ t.length) : ∀ (n : Nat) (t : Txt) (acc l : List Frm) (r : Txt), rowL p n t acc = some (l, r) → Frm.nodess l + r.length ≤ Frm.nodess acc + t.length
  | 0, t, acc, l, r, h => by cases h
  | n + 1, t, acc, l, r, h => by
    unfold rowL at h
    cases hq : p t with
    | none => rw [hq] at h; cases h
    | some x =>
      obtain ⟨f, r1⟩ := x
      rw [hq] at h
      have h1 := hp t f r1 hq
      have h2 := bare_len r1
      have h4 : Frm.nodess (acc ++ [f]) = Frm.nodess acc + f.nodes := by rw [Frm.nodess_app, Frm.nodess_one]
      dsimp only at h
      split at h
      · cases h
        rw [List.length_drop]
        omega
      · split at h
        · have h3 := rowL_nodes hp n _ _ _ _ h
          rw [List.length_drop] at h3
          omega
        · cases h
theorem rowT_nodes {p : Txt → Option (Frm × Txt)} (hp : ∀ t f r, p t = some (f, r) → f.nodes + r.length ≤ t.length) {t : Txt} {l : List Frm} {r : Txt} (h : rowT p t = some (l, r)) : Frm.nodess l + r.length + 1 ≤ t.length := by
  unfold rowT at h
  split at h
  · next hb =>
    have h1 := rowL_nodes hp _ _ _ _ _ h
    have h2 := bare_len t
    have h3 := begins_len hb
    have h4 : Frm.nodess [] = 0 := rfl
    simp only [List.length_singleton] at h3
    rw [List.length_drop] at h1
    omega
  · cases h
theorem polT_nodes : ∀ k t f r, polT k t = some (f, r) → f.nodes + r.length ≤ t.length
  | 0, t, f, r, h => by cases h
  | k + 1, t, f, r, h => by
    have hb := bare_len t
    have hnn : Frm.nodess [] = 0 := rfl
    unfold polT at h
    split at h
    · next hs =>
      have hs3 := begins_len hs
      simp only [List.length_cons, List.length_nil] at hs3
      cases hr : rowT (polT k) ((bare t).drop 3) with
      | none => rw [hr] at h; cases h
      | some x =>
        rw [hr] at h
        cases h
        have h1 := rowT_nodes (polT_nodes k) hr
        rw [List.length_drop] at h1
        rw [Frm.nodes_mk]
        omega
    · split at h
      · next hs =>
        have hs3 := begins_len hs
        simp only [List.length_cons, List.length_nil] at hs3
        cases hr : rowT (polT k) ((bare t).drop 3) with
        | none => rw [hr] at h; cases h
        | some x =>
          rw [hr] at h
          cases h
          have h1 := rowT_nodes (polT_nodes k) hr
          rw [List.length_drop] at h1
          rw [Frm.nodes_mk]
          omega
      · cases hn : numT (bare t) with
        | none => rw [hn] at h; cases h
        | some x =>
          obtain ⟨v, r1⟩ := x
          rw [hn] at h
          dsimp only at h
          have h1 := numT_short hn
          have h2 := bare_len r1
          split at h
          · split at h
            · cases hr : rowT (polT k) ((bare r1).drop 2) with
              | none => rw [hr] at h; cases h
              | some x =>
                rw [hr] at h
                cases h
                have h3 := rowT_nodes (polT_nodes k) hr
                rw [List.length_drop] at h3
                rw [Frm.nodes_mk]
                omega
            · cases h
          · cases h
            rw [Frm.nodes_mk]
            omega
section
variable {l : Txt} {n : Int} {y : Txt × Bool × Frm}
theorem parse_long (h : 200 < l.length) : parseF l n = (.mk 0 0 [], 3) := if_pos h
theorem parse_odd (h : ¬ 200 < l.length) (hy : PolR 10 l false y) (ho : y.2.1 = true ∨ ¬ bare y.1 = []) : parseF l n = (.mk 0 0 [], 2) := by
  obtain ⟨_, _, h3, h4⟩ := hy
  unfold parseF
  rw [if_neg h]
  cases hp : polT 10 l with
  | none => rfl
  | some x =>
    obtain ⟨f, r⟩ := x
    obtain ⟨q1, q2, q3⟩ := h4 rfl _ hp
    dsimp only at q2 ⊢
    rcases ho with ho | ho
    · rw [q1] at ho; cases ho
    · rw [← q2, if_pos ho]
/-- A text that is read to its end. -/
theorem parse_end (h : ¬ 200 < l.length) (hy : PolR 10 l false y) (ho : y.2.1 = false) (hb : bare y.1 = []) : y.2.2.nodes ≤ l.length ∧ parseF l n = if y.2.2.check n ≠ 0 then (.mk 0 0 [], y.2.2.check n) else (y.2.2, 0) := by
  obtain ⟨_, _, h3, h4⟩ := hy
  unfold parseF
  rw [if_neg h]
  cases hp : polT 10 l with
  | none => have := h3 rfl hp; rw [ho] at this; cases this
  | some x =>
    obtain ⟨f, r⟩ := x
    obtain ⟨q1, q2, q3⟩ := h4 rfl _ hp
    have hn := polT_nodes 10 l f r hp
    dsimp only at q2 q3 ⊢
    rw [q3]
    refine ⟨by omega, ?_⟩
    rw [if_neg (by rw [← q2, hb]; simp)]
end
end Go.Proofs.YtejcohlpjikjpaaGreatDoor.A
/-
  Policies' texts, plain: what the document's parser answers, step by step.
-/
namespace Go.Proofs.YtejcohlpjikjpaaGreatDoor.A
open Go.RowKit

/-- A number, as the document's parser answers. -/
def numF (t : Txt) : Int × Txt × Bool := match numT t with
  | none => (0, t, false)
  | some x => (((x.1 : Nat) : Int), x.2, true)
theorem numF_none {t : Txt} (h : numT t = none) : numF t = (0, t, false) := by unfold numF; rw [h]
theorem numF_some {t : Txt} {x : Nat × Txt} (h : numT t = some x) : numF t = (((x.1 : Nat) : Int), x.2, true) := by unfold numF; rw [h]
theorem numF_no {t : Txt} (h : (numF t).2.2 = false) : numT t = none := by
  cases hq : numT t with
  | none => rfl
  | some x => rw [numF_some hq] at h; cases h
theorem numF_ok {t : Txt} (h : (numF t).2.2 = true) : ∃ v : Nat, numT t = some (v, (numF t).2.1) ∧ (numF t).1 = (v : Int) ∧ (numF t).2.1.length < t.length ∧ v ≤ 9999 := by
  cases hq : numT t with
  | none => rw [numF_none hq] at h; cases h
  | some x =>
    obtain ⟨v, r⟩ := x
    rw [numF_some hq]
    exact ⟨v, rfl, rfl, numT_short hq, numT_le hq⟩
theorem decV_few {l : Txt} {z : Nat} (h : ∀ j (hj : j < l.length), j < z → isDig l[j] = true) : decV (l.take (min z 5)) < 100000 := by
  have h1 := decV_lt (l.take (min z 5)) fun c hc => by
    obtain ⟨j, hj, rfl⟩ := List.getElem_of_mem hc
    rw [List.length_take] at hj
    rw [List.getElem_take]
    exact h j (by omega) (by omega)
  have h2 : 10 ^ (l.take (min z 5)).length ≤ 10 ^ 5 := Nat.pow_le_pow_right (by omega) (by rw [List.length_take]; omega)
  omega
theorem decV_next {l : Txt} {z : Nat} (hq : z < l.length) (h5 : z < 5) : decV (l.take (min (z + 1) 5)) = decV (l.take (min z 5)) * 10 + (l[z].toNat - 48) := by
  rw [Nat.min_eq_left (by omega), Nat.min_eq_left (by omega), List.take_succ_eq_append_getElem hq, decV_snoc]
theorem digs_first {l : Txt} (h : 0 < (digs l).length) (hq : 0 < l.length) : (digs l).head? = some (l[0]'hq) := by
  cases l with
  | nil => simp at hq
  | cons c t =>
    unfold digs at h ⊢
    rw [List.takeWhile_cons] at h ⊢
    split at h
    · next hd => rw [if_pos hd]; rfl
    · simp at h
/-- What the document's parser answers of a policy. -/
def DocP (k : Nat) (l : Txt) (z : Frm × Txt × Bool) : Prop := (polT k l = none → z.2.2 = false) ∧ ∀ x, polT k l = some x → z = (x.1, x.2, true)
def DocR (k : Nat) (l : Txt) (z : List Frm × Txt × Bool) : Prop := (rowT (polT k) l = none → z.2.2 = false) ∧ ∀ x, rowT (polT k) l = some x → z = (x.1, x.2, true)
section
variable {k : Nat} {l : Txt} {y : Frm × Txt × Bool} {w : List Frm × Txt × Bool} {z : Txt × List Frm}
theorem DocP.no (h : DocP k l y) (ho : y.2.2 = false) : polT k l = none := by
  cases hq : polT k l with
  | none => rfl
  | some x => rw [h.2 x hq] at ho; cases ho
theorem DocP.get (h : DocP k l y) (ho : y.2.2 = true) : polT k l = some (y.1, y.2.1) := by
  cases hq : polT k l with
  | none => rw [h.1 hq] at ho; cases ho
  | some x => rw [h.2 x hq]
theorem DocR.no (h : DocR k l w) (ho : w.2.2 = false) : rowT (polT k) l = none := by
  cases hq : rowT (polT k) l with
  | none => rfl
  | some x => rw [h.2 x hq] at ho; cases ho
theorem DocR.get (h : DocR k l w) (ho : w.2.2 = true) : rowT (polT k) l = some (w.1, w.2.1) := by
  cases hq : rowT (polT k) l with
  | none => rw [h.1 hq] at ho; cases ho
  | some x => rw [h.2 x hq]
theorem DocR.of_none (h : rowT (polT k) l = none) (t : Txt) : DocR k l ([], t, false) := ⟨fun _ => rfl, fun x hx => (by rw [h] at hx; cases hx)⟩
theorem DocR.of_some {a : List Frm} {b : Txt} (h : rowT (polT k) l = some (a, b)) : DocR k l (a, b, true) := ⟨fun hx => (by rw [h] at hx; cases hx), fun x hx => (by rw [h] at hx; cases hx; rfl)⟩
theorem DocP.of_none (h : polT k l = none) (hy : y.2.2 = false) : DocP k l y := ⟨fun _ => hy, fun x hx => (by rw [h] at hx; cases hx)⟩
theorem DocP.of_some {a : Frm} {b : Txt} (h : polT k l = some (a, b)) : DocP k l (a, b, true) := ⟨fun hx => (by rw [h] at hx; cases hx), fun x hx => (by rw [h] at hx; cases hx; rfl)⟩
/-- At the head of a round: the text begins with a bracket or a comma. -/
structure DocI (k : Nat) (l : Txt) (z : Txt × List Frm) : Prop where
  pos : 1 ≤ z.1.length
  len : z.1.length ≤ l.length
  few : z.2.length + z.1.length ≤ l.length + 1
  go : ∃ F, z.1.length ≤ F ∧ rowT (polT k) l = rowL (polT k) F (z.1.drop 1) z.2
theorem DocI.start (h : begins (bare l) [40] = true) : DocI k l (bare l, []) := by
  have h1 := begins_len h
  have h2 := bare_len l
  refine ⟨h1, h2, (by simp only [List.length_nil]; omega), l.length + 1, (by simp only; omega), ?_⟩
  unfold rowT
  rw [if_pos h]
theorem DocI.more (h : DocI k l z) : ∃ m, z.1.length ≤ m + 1 ∧ rowT (polT k) l = match polT k (z.1.drop 1) with
    | none => none
    | some (f, r) => if begins (bare r) [41] = true then some (z.2 ++ [f], (bare r).drop 1) else if begins (bare r) [44] = true then rowL (polT k) m ((bare r).drop 1) (z.2 ++ [f]) else none := by
  obtain ⟨F, hF, hR⟩ := h.go
  have hp := h.pos
  obtain ⟨m, rfl⟩ : ∃ m, F = m + 1 := ⟨F - 1, (by omega)⟩
  refine ⟨m, hF, hR.trans ?_⟩
  conv => lhs; unfold rowL
  cases polT k (z.1.drop 1) with
  | none => rfl
  | some x => obtain ⟨f, r⟩ := x; rfl
theorem DocI.no (h : DocI k l z) (hy : DocP k (z.1.drop 1) y) (ho : y.2.2 = false) : rowT (polT k) l = none := by
  obtain ⟨m, _, hR⟩ := h.more
  rw [hR, hy.no ho]
theorem DocI.done (h : DocI k l z) (hy : DocP k (z.1.drop 1) y) (ho : y.2.2 = true) (hb : begins (bare y.2.1) [41] = true) : rowT (polT k) l = some (z.2 ++ [y.1], (bare y.2.1).drop 1) := by
  obtain ⟨m, _, hR⟩ := h.more
  rw [hR, hy.get ho]
  exact if_pos hb
theorem DocI.bad (h : DocI k l z) (hy : DocP k (z.1.drop 1) y) (ho : y.2.2 = true) (hb : ¬ begins (bare y.2.1) [41] = true) (hc : ¬ begins (bare y.2.1) [44] = true) : rowT (polT k) l = none := by
  obtain ⟨m, _, hR⟩ := h.more
  rw [hR, hy.get ho]
  exact (if_neg hb).trans (if_neg hc)
theorem DocI.step (h : DocI k l z) (hy : DocP k (z.1.drop 1) y) (ho : y.2.2 = true) (hb : ¬ begins (bare y.2.1) [41] = true) (hc : begins (bare y.2.1) [44] = true) : DocI k l (bare y.2.1, z.2 ++ [y.1]) ∧ (bare y.2.1).length < z.1.length := by
  obtain ⟨m, hm, hR⟩ := h.more
  have hg := hy.get ho
  have hs := polT_short k _ _ _ hg
  rw [List.length_drop] at hs
  have hbl := bare_len y.2.1
  have hp := h.pos
  have hl := h.len
  have hf := h.few
  have hcl := begins_len hc
  simp only [List.length_singleton] at hcl
  rw [hg] at hR
  refine ⟨⟨hcl, (by simp only; omega), (by simp only [List.length_append, List.length_singleton]; omega), m, (by simp only; omega), ?_⟩, (by omega)⟩
  rw [hR]
  exact (if_neg hb).trans (if_pos hc)
/-! ### Policies -/
theorem DocP.deep (hy : y.2.2 = false) : DocP 0 l y := DocP.of_none rfl hy
theorem DocP.all (hb : begins (bare l) [97, 108, 108] = true) (hw : DocR k ((bare l).drop 3) w) : DocP (k + 1) l (.mk 0 w.1.length w.1, w.2.1, w.2.2) := by
  have e : polT (k + 1) l = (rowT (polT k) ((bare l).drop 3)).map fun x => (.mk 0 x.1.length x.1, x.2) := by
    conv => lhs; unfold polT
    rw [if_pos hb]
  cases hq : rowT (polT k) ((bare l).drop 3) with
  | none => rw [hq] at e; exact DocP.of_none e (hw.1 hq)
  | some x => rw [hq] at e; rw [hw.2 x hq]; exact DocP.of_some e
theorem DocP.any (ha : ¬ begins (bare l) [97, 108, 108] = true) (hb : begins (bare l) [97, 110, 121] = true) (hw : DocR k ((bare l).drop 3) w) : DocP (k + 1) l (.mk 0 1 w.1, w.2.1, w.2.2) := by
  have e : polT (k + 1) l = (rowT (polT k) ((bare l).drop 3)).map fun x => (.mk 0 1 x.1, x.2) := by
    conv => lhs; unfold polT
    rw [if_neg ha, if_pos hb]
  cases hq : rowT (polT k) ((bare l).drop 3) with
  | none => rw [hq] at e; exact DocP.of_none e (hw.1 hq)
  | some x => rw [hq] at e; rw [hw.2 x hq]; exact DocP.of_some e
theorem DocP.bad (ha : ¬ begins (bare l) [97, 108, 108] = true) (hb : ¬ begins (bare l) [97, 110, 121] = true) (hn : (numF (bare l)).2.2 = false) (hy : y.2.2 = false) : DocP (k + 1) l y :=
  DocP.of_none (by rw [pol_num ha hb, numF_no hn]) hy
theorem DocP.org (ha : ¬ begins (bare l) [97, 108, 108] = true) (hb : ¬ begins (bare l) [97, 110, 121] = true) (hn : (numF (bare l)).2.2 = true) (hof : ¬ begins (bare (numF (bare l)).2.1) [111, 102] = true) : DocP (k + 1) l (.mk (numF (bare l)).1 0 [], (numF (bare l)).2.1, true) := by
  obtain ⟨v, h1, h2, _⟩ := numF_ok hn
  refine DocP.of_some ?_
  rw [pol_num ha hb, h1, h2]
  exact if_neg hof
theorem DocP.of (ha : ¬ begins (bare l) [97, 108, 108] = true) (hb : ¬ begins (bare l) [97, 110, 121] = true) (hn : (numF (bare l)).2.2 = true) (hof : begins (bare (numF (bare l)).2.1) [111, 102] = true) (hw : DocR k ((bare (numF (bare l)).2.1).drop 2) w) {o : Bool}
    (ho : o = true ↔ w.2.2 = true ∧ 1 ≤ (numF (bare l)).1 ∧ (numF (bare l)).1 ≤ 99) : DocP (k + 1) l (.mk 0 (numF (bare l)).1 w.1, w.2.1, o) := by
  obtain ⟨v, h1, h2, _⟩ := numF_ok hn
  rw [h2] at ho ⊢
  have e := pol_num (k := k) ha hb
  rw [h1] at e
  dsimp only at e
  rw [if_pos hof] at e
  by_cases hv : 1 ≤ v ∧ v ≤ 99
  · rw [if_pos hv] at e
    cases hq : rowT (polT k) ((bare (numF (bare l)).2.1).drop 2) with
    | none =>
      rw [hq] at e
      refine DocP.of_none e ?_
      have := hw.1 hq
      cases o with
      | false => rfl
      | true => rw [(ho.1 rfl).1] at this; cases this
    | some x =>
      rw [hq] at e
      have hx := hw.2 x hq
      have ho2 : o = true := ho.2 ⟨(by rw [hx]), (by omega), (by omega)⟩
      rw [ho2, hx]
      exact DocP.of_some e
  · rw [if_neg hv] at e
    refine DocP.of_none e ?_
    cases o with
    | false => rfl
    | true => have := ho.1 rfl; exact absurd ⟨(by omega), (by omega)⟩ hv
theorem doc_odd {n : Int} (h : ¬ 200 < l.length) (hy : DocP 10 l y) (ho : y.2.2 = false ∨ ¬ bare y.2.1 = []) : parseF l n = (.mk 0 0 [], 2) := by
  unfold parseF
  rw [if_neg h]
  cases hq : polT 10 l with
  | none => rfl
  | some x =>
    obtain ⟨f, r⟩ := x
    rw [hy.2 _ hq] at ho
    rcases ho with ho | ho
    · cases ho
    · exact if_pos ho
theorem doc_end {n : Int} (h : ¬ 200 < l.length) (hy : DocP 10 l y) (ho : y.2.2 = true) (hb : bare y.2.1 = []) : y.1.nodes ≤ l.length ∧ parseF l n = if y.1.check n ≠ 0 then (.mk 0 0 [], y.1.check n) else (y.1, 0) := by
  have hg := hy.get ho
  have hn := polT_nodes 10 _ _ _ hg
  refine ⟨(by omega), ?_⟩
  unfold parseF
  rw [if_neg h, hg]
  exact if_neg (by rw [hb]; simp)
end
end Go.Proofs.YtejcohlpjikjpaaGreatDoor.A
