/-
  Packed out of the texts: PT15, PT16, PtsH, PT17, A25, A26, PT18.
-/
import Derived.Test.YtjbikemecdlolaaR08
/-
  Points: the document's Told, Bytes.
-/
set_option maxRecDepth 100000
set_option linter.unusedSimpArgs false
set_option linter.unusedVariables false
namespace Go.Proofs.Ytjbikemecdlolaa.A
open Go.RowKit

theorem told_zero {l : List Pnt} : toldTo l 0 = [] := by
  unfold toldTo
  split <;> simp
section
variable {n me : Nat} {om : List (Int × Ow)} {vs : List (List Pnt)} {bp bm : Nat} {vv : Value} {x y : Pnt} {who k low above at_ : Int} {o : Ow} {l m : List Pnt} {q : Nat} {ov rv : Value} {rows : List (List UInt8)}
set_option maxHeartbeats 2000000 in
theorem dtold_s (hok : PtsOk n me om vs) (hme : vs[me]? = some []) : Spec Try.prog 26 [ptr bp] [.rd bp 53 [int (n : Nat), int (me : Nat), .v ov, .v rv], .rdpc (ownPc 40 1 ov ((dV me om vs).map fun l => [pntsA l])), .rdpc (offPc 23 rv ((rowsP om).map fun b => [byt b]))] (fun r : Value => [own 27 33 r (((toldF (ownP om))).map Pnt.abs)]) (fun r => .v r) := by
 refine spec_of Try.func26 rfl Try.ntmps26 rfl fun G w => ?_
 refine SC.seq (SC.region ?_)
 refine SL.val (Val.assign rfl) rfl rfl ?_
 refine SL.nil (SE.seq ?_)
 refine SC.seq (SC.region ?_)
 refine SL.val (Val.assign rfl) rfl rfl ?_
 refine SL.nil (SE.seq ?_)
 refine SC.seq ?_
 have hol := ownP_length om
 have hom := hok.om
 refine SC.draw [] (.q 0 (.q 1 (.q 2 (.q 3 (.q 4 (.q 5 (.q 6 (.q 7 (.q 8 (.q 9 (.q 10 .nil))))))))))) (by kernel_rfl) (by kernel_rfl) ?_
 refine SX.val rfl (Val.move rfl) (by simp) rfl rfl ?_
 refine SX.val rfl (Val.nilCheck rfl) (by simp) rfl rfl ?_
 refine SX.val rfl (Val.fieldAddr tabOk rfl rfl rfl rfl rfl) (by simp) rfl rfl ?_
 refine SX.val rfl (Val.load1 tabOk rfl rfl (by repeat first|assumption|exact o0_|exact o1_|apply o2_) List.not_mem_nil (by rfl)) (by simp) rfl rfl ?_
 refine SX.val rfl (Val.move rfl) (by simp) rfl rfl ?_
 refine SX.val rfl (Val.nilCheck rfl) (by simp) rfl rfl ?_
 refine SX.val rfl (Val.fieldAddr tabOk rfl rfl rfl rfl rfl) (by simp) rfl rfl ?_
 refine SX.val rfl (Val.load1 tabOk rfl rfl (by repeat first|assumption|exact o0_|exact o1_|apply o2_) List.not_mem_nil (by rfl)) (by simp) rfl rfl ?_
 refine SX.hx (by first|(simp[mids,It.mids,ownPc];done)|(intro k hk;simp[mids,It.mids,ownPc] at hk ⊢;grind)) fun hx9 => ?_
 refine SX.val rfl (Val.indexOwn (q := me) tabOk Try.underlying50 rfl rfl (by repeat first|assumption|exact o0_|exact o1_|apply o2_) rfl rfl (by rw [List.length_map, (dV_in hok).2]; exact hok.slf) rfl rfl) hx9 rfl rfl ?_
 refine SX.val rfl (Val.to (C := pntsA (ownP om)) (Val.loadOwn1 (q := me) (s := 1) (cs := [pntsA (ownP om)]) tabOk rfl rfl (by repeat first|assumption|exact o0_|exact o1_|apply o2_) rfl (by rw [List.getElem?_map, dV_me hok]; rfl) rfl) rfl) hx9 rfl rfl ?_
 refine SX.val rfl (Val.assign rfl) (by simp) rfl rfl ?_
 refine SX.nil (SE.seq ?_)
 refine SC.seq ?_
 refine SC.seq (SC.region ?_)
 refine SL.val (Val.move rfl) rfl rfl ?_
 refine SL.val (Val.lenSl (m := (ownP om).length) rfl Try.underlying40 (List.length_map _)) rfl rfl ?_
 refine SL.val (Val.move rfl) rfl rfl ?_
 refine SL.nil (SE.seq ?_)
 refine SC.block ?_
 refine SC.own0 27 33 ?_
 refine SC.loop (ι := Nat × Value) (fun z => [own 27 33 z.2 ((toldTo (ownP om) z.1).map Pnt.abs), .rd bp 53 [int (n : Nat), int (me : Nat), .v ov, .v rv], .rdpc (ownPc 40 1 ov ((dV me om vs).map fun l => [pntsA l])), .rdpc (offPc 23 rv ((rowsP om).map fun b => [byt b]))]) (fun z => [(3, .v z.2), (4, pntsA (ownP om)), (17, pntsA (ownP om)), (18, int ((ownP om).length : Nat)), (19, int (z.1 : Nat))]) (fun z => z.1 ≤ (ownP om).length) (fun z => (ownP om).length - z.1) (0, .slice none 0 0) (Nat.zero_le _) (by exact ⟨rfl, rfl, rfl, rfl, rfl, trivial⟩) (by dsimp only; rw [told_zero]; repeat (first | exact List.nil_sublist _ | exact List.Sublist.refl _ | apply List.Sublist.cons_cons | apply List.Sublist.cons)) ?_
 intro z hz
 refine SC.seq (SC.region ?_)
 refine SL.val (Val.ltI rfl rfl) rfl rfl ?_
 refine SL.nil (SE.seq ?_)
 refine SC.seq ?_
 refine SC.condP rfl ?_ ?_
 rotate_left
 ·intro hc20
  have hze : z.1 = (ownP om).length := by omega
  refine SC.exit ?_
  refine SE.then_ nofun ?_
  refine SE.then_ nofun ?_
  refine SE.exit ?_
  refine SE.seq ?_
  refine SC.seq (SC.region ?_)
  refine SL.val (Val.move rfl) rfl rfl ?_
  refine SL.val (Val.assign rfl) rfl rfl ?_
  refine SL.nil (SE.seq ?_)
  refine SC.ret ?_
  refine SE.fin (rs := [.tmp 2]) rfl (RV.tmp rfl RV.nil) (z.2) (by rw [← told_end (ownP om), ← hze]; repeat (first | exact List.nil_sublist _ | exact List.Sublist.refl _ | apply List.Sublist.cons_cons | apply List.Sublist.cons)) (by simp [It.rids]) ?_
  exact rfl
 intro hc20
 have hlt : z.1 < (ownP om).length := by omega
 refine SC.skip ?_
 refine SE.seq ?_
 refine SC.seq ?_
 refine SC.block ?_
 refine SC.seq (SC.region ?_)
 refine SL.val (Val.move rfl) rfl rfl ?_
 refine SL.val (Val.indexSl tabOk Try.underlying40 rfl rfl rfl rfl (at_map (by omega)) rfl rfl) rfl rfl ?_
 refine SL.val (Val.loadAR tabOk rfl rfl rfl (Pnt.size _)) rfl rfl ?_
 refine SL.eff (Eff.alloc tabOk rfl) rfl rfl ?_
 rintro _ _ ⟨b6, rfl, rfl⟩
 refine SL.val (Val.assign rfl) rfl rfl ?_
 refine SL.eff (Eff.store (L' := ((ownP om)[z.1]'hlt).abs) tabOk rfl rfl rfl (by repeat first|assumption|exact Upd.here|apply Upd.there) (Pnt.size _) (lb_ (by rfl)) (Pnt.ones _) (by exact putL_whole (Pnt.size _))) rfl rfl ?_
 rintro _ _ ⟨rfl, rfl⟩
 refine SL.nil (SE.seq ?_)
 refine SC.seq (SC.region ?_)
 refine SL.val (Val.move rfl) rfl rfl ?_
 refine SL.val (Val.eqI rfl rfl) rfl rfl ?_
 refine SL.val (Val.move rfl) rfl rfl ?_
 refine SL.bothP (t := 26) rfl ?_ ?_
 ·intro hc26
  iterate 5 refine SL.skip rfl rfl ?_
  refine SL.val (Val.pickT rfl rfl) rfl rfl ?_
  refine SL.nil (SE.seq ?_)
  refine SC.condT rfl ?_
  refine SC.region ?_
  refine SL.val (Val.move rfl) rfl rfl ?_
  refine SL.val (Val.to (C := .agg ((ownP om)[z.1]'hlt).abs) (Val.loadA tabOk rfl rfl rfl (by repeat first|assumption|exact o0_|exact o1_|apply o2_) List.not_mem_nil (Pnt.size _)) rfl) rfl rfl ?_
  refine SL.eff (Eff.buildSl tabOk Try.underlying40 rfl rfl rfl (elems_one (Pnt.size _)) rfl rfl rfl) rfl rfl ?_
  rintro _ _ ⟨rfl, rfl⟩
  refine SL.eff (Eff.appendE (zs := (toldTo (ownP om) (z.1 + 1)).map Pnt.abs) tabOk [_] (by rw [told_yes hlt (by omega), List.map_append]; rfl) Try.underlying40 rfl rfl rfl rfl rfl rfl (by intro c hc; rw [List.mem_singleton] at hc; subst hc; exact Pnt.ones _) (by have h1 := toldTo_len (l := ownP om) (z := z.1); unfold maxLen; simp only [List.length_map, List.length_cons, List.length_nil]; omega) (by have h1 := toldTo_len (l := ownP om) (z := z.1); rw [show Try.prog.bytesOf 27 = 40 by kernel_rfl]; simp only [List.length_map, List.length_cons, List.length_nil]; omega)) rfl rfl ?_
  rintro _ _ ⟨r36, rfl, rfl⟩
  refine SL.val (Val.assign rfl) rfl rfl ?_
  refine SL.nil ?_
  refine SE.inBlock ?_
  refine SE.seq ?_
  refine SC.region ?_
  first
   | refine SL.val (Val.addI rfl rfl (by simp only [InR, lo, hi]; omega)) rfl rfl ?_
   | refine SL.val (Val.addW rfl rfl) rfl rfl ?_
  refine SL.val (Val.move rfl) rfl rfl ?_
  refine SL.nil ?_
  refine SE.round (z.1 + 1, r36) (by first | omega | (dsimp only; omega)) ((by dsimp only; omega)) (by exact ⟨rfl, rfl, rfl, rfl, rfl, trivial⟩) (by repeat first|exact s0_ _|exact s1_ _|apply s2_|apply s3_)
 intro hc26
 iterate 2 refine SL.val (Val.move rfl) rfl rfl ?_
 refine SL.val (Val.lenSl (m := (ownP om).length) rfl Try.underlying40 (List.length_map _)) rfl rfl ?_
 refine SL.val (Val.subI rfl rfl (by have h1 := ownP_length om; have h2 := hok.om; simp only [InR, lo, hi]; omega)) rfl rfl ?_
 refine SL.val (Val.geI rfl rfl) rfl rfl ?_
 refine SL.val (Val.pickF rfl rfl) rfl rfl ?_
 refine SL.nil (SE.seq ?_)
 refine SC.condP rfl ?_ ?_
 rotate_left
 ·intro hc32
  refine SC.skip ?_
  refine SE.inBlock ?_
  refine SE.seq ?_
  refine SC.region ?_
  first
   | refine SL.val (Val.addI rfl rfl (by simp only [InR, lo, hi]; omega)) rfl rfl ?_
   | refine SL.val (Val.addW rfl rfl) rfl rfl ?_
  refine SL.val (Val.move rfl) rfl rfl ?_
  refine SL.nil ?_
  refine SE.round (z.1 + 1, z.2) (by first | omega | (dsimp only; omega)) ((by dsimp only; omega)) (by exact ⟨rfl, rfl, rfl, rfl, rfl, trivial⟩) (by dsimp only; rw [told_no hlt (by omega)]; repeat (first | exact List.nil_sublist _ | exact List.Sublist.refl _ | apply List.Sublist.cons_cons | apply List.Sublist.cons))
 intro hc32
 refine SC.region ?_
 refine SL.val (Val.move rfl) rfl rfl ?_
 refine SL.val (Val.to (C := .agg ((ownP om)[z.1]'hlt).abs) (Val.loadA tabOk rfl rfl rfl (by repeat first|assumption|exact o0_|exact o1_|apply o2_) List.not_mem_nil (Pnt.size _)) rfl) rfl rfl ?_
 refine SL.eff (Eff.buildSl tabOk Try.underlying40 rfl rfl rfl (elems_one (Pnt.size _)) rfl rfl rfl) rfl rfl ?_
 rintro _ _ ⟨rfl, rfl⟩
 refine SL.eff (Eff.appendE (zs := (toldTo (ownP om) (z.1 + 1)).map Pnt.abs) tabOk [_] (by rw [told_yes hlt (by omega), List.map_append]; rfl) Try.underlying40 rfl rfl rfl rfl rfl rfl (by intro c hc; rw [List.mem_singleton] at hc; subst hc; exact Pnt.ones _) (by have h1 := toldTo_len (l := ownP om) (z := z.1); unfold maxLen; simp only [List.length_map, List.length_cons, List.length_nil]; omega) (by have h1 := toldTo_len (l := ownP om) (z := z.1); rw [show Try.prog.bytesOf 27 = 40 by kernel_rfl]; simp only [List.length_map, List.length_cons, List.length_nil]; omega)) rfl rfl ?_
 rintro _ _ ⟨r36, rfl, rfl⟩
 refine SL.val (Val.assign rfl) rfl rfl ?_
 refine SL.nil ?_
 refine SE.inBlock ?_
 refine SE.seq ?_
 refine SC.region ?_
 first
  | refine SL.val (Val.addI rfl rfl (by simp only [InR, lo, hi]; omega)) rfl rfl ?_
  | refine SL.val (Val.addW rfl rfl) rfl rfl ?_
 refine SL.val (Val.move rfl) rfl rfl ?_
 refine SL.nil ?_
 refine SE.round (z.1 + 1, r36) (by first | omega | (dsimp only; omega)) ((by dsimp only; omega)) (by exact ⟨rfl, rfl, rfl, rfl, rfl, trivial⟩) (by repeat first|exact s0_ _|exact s1_ _|apply s2_|apply s3_)
theorem dbytes_s (hok : PtsOk n me om vs) (hme : vs[me]? = some []) (hx : InR .i64 x.seq) : Spec Try.prog 23 [ptr bp, .agg x.abs] [.rd bp 53 [int (n : Nat), int (me : Nat), .v ov, .v rv], .rdpc (ownPc 40 1 ov ((dV me om vs).map fun l => [pntsA l])), .rdpc (offPc 23 rv ((rowsP om).map fun b => [byt b]))] (fun _ : Unit => []) (fun _ => .tup [byt ((bytesF om x).getD []), boo (bytesF om x).isSome]) := by
 refine spec_of Try.func23 rfl Try.ntmps23 rfl fun G w => ?_
 refine SC.seq (SC.region ?_)
 refine SL.eff (Eff.boxA (cs := x.abs) rfl) rfl rfl ?_
 rintro _ _ ⟨b3, rfl, rfl⟩
 iterate 2 refine SL.val (Val.assign rfl) rfl rfl ?_
 refine SL.nil (SE.seq ?_)
 refine SC.seq ?_
 refine SC.seq ?_
 have hol := ownP_length om
 have hom := hok.om
 refine SC.draw [] (.q 0 (.q 1 (.q 2 (.q 3 (.q 4 (.q 5 (.q 6 (.q 7 (.q 8 (.q 9 (.q 10 (.q 11 .nil)))))))))))) (by kernel_rfl) (by kernel_rfl) ?_
 refine SX.val rfl (Val.move rfl) (by simp) rfl rfl ?_
 refine SX.val rfl (Val.nilCheck rfl) (by simp) rfl rfl ?_
 refine SX.val rfl (Val.fieldAddr tabOk rfl rfl rfl rfl rfl) (by simp) rfl rfl ?_
 refine SX.val rfl (Val.load1 tabOk rfl rfl (by repeat first|assumption|exact o0_|exact o1_|apply o2_) List.not_mem_nil (by rfl)) (by simp) rfl rfl ?_
 refine SX.val rfl (Val.move rfl) (by simp) rfl rfl ?_
 refine SX.val rfl (Val.nilCheck rfl) (by simp) rfl rfl ?_
 refine SX.val rfl (Val.fieldAddr tabOk rfl rfl rfl rfl rfl) (by simp) rfl rfl ?_
 refine SX.val rfl (Val.load1 tabOk rfl rfl (by repeat first|assumption|exact o0_|exact o1_|apply o2_) List.not_mem_nil (by rfl)) (by simp) rfl rfl ?_
 refine SX.hx (by first|(simp[mids,It.mids,ownPc];done)|(intro k hk;simp[mids,It.mids,ownPc] at hk ⊢;grind)) fun hx9 => ?_
 refine SX.val rfl (Val.indexOwn (q := me) tabOk Try.underlying50 rfl rfl (by repeat first|assumption|exact o0_|exact o1_|apply o2_) rfl rfl (by rw [List.length_map, (dV_in hok).2]; exact hok.slf) rfl rfl) hx9 rfl rfl ?_
 refine SX.val rfl (Val.to (C := pntsA (ownP om)) (Val.loadOwn1 (q := me) (s := 1) (cs := [pntsA (ownP om)]) tabOk rfl rfl (by repeat first|assumption|exact o0_|exact o1_|apply o2_) rfl (by rw [List.getElem?_map, dV_me hok]; rfl) rfl) rfl) hx9 rfl rfl ?_
 refine SX.val rfl (Val.lenSl (m := (ownP om).length) rfl Try.underlying40 (List.length_map _)) hx9 rfl rfl ?_
 refine SX.val rfl (Val.move rfl) (by simp) rfl rfl ?_
 refine SX.nil (SE.seq ?_)
 refine SC.block ?_
 refine SC.loop (ι := Nat × Unit) (fun z => [.blk b3 27 x.abs, .rd bp 53 [int (n : Nat), int (me : Nat), .v ov, .v rv], .rdpc (ownPc 40 1 ov ((dV me om vs).map fun l => [pntsA l])), .rdpc (offPc 23 rv ((rowsP om).map fun b => [byt b]))]) (fun z => [(0, ptr bp), (3, ptr b3), (17, pntsA (ownP om)), (18, int ((ownP om).length : Nat)), (19, int (z.1 : Nat))]) (fun z => z.1 ≤ (ownP om).length ∧ ∀ j (hj : j < (ownP om).length), j < z.1 → (ownP om)[j] ≠ x) (fun z => (ownP om).length - z.1) (0, ()) (⟨Nat.zero_le _, fun j hj h => by omega⟩) (by exact ⟨rfl, rfl, rfl, rfl, rfl, trivial⟩) (by repeat first|exact s0_ _|exact s1_ _|apply s2_|apply s3_) ?_
 intro z hz
 refine SC.seq (SC.region ?_)
 refine SL.val (Val.ltI rfl rfl) rfl rfl ?_
 refine SL.nil (SE.seq ?_)
 refine SC.seq ?_
 refine SC.condP rfl ?_ ?_
 rotate_left
 ·intro hc20
  have e9 : (bytesF om x) = none := bytes_no fun h => (let ⟨i, hi, e⟩ := List.getElem_of_mem h; hz.2 i hi (by omega) e)
  refine SC.exit ?_
  refine SE.then_ nofun ?_
  refine SE.then_ nofun ?_
  refine SE.exit ?_
  refine SE.seq ?_
  refine SC.seq (SC.region ?_)
  iterate 2 refine SL.val (Val.assign rfl) rfl rfl ?_
  refine SL.nil (SE.seq ?_)
  refine SC.ret ?_
  refine SE.finC (rs := [.tmp 4, .tmp 5]) rfl (RV.tmp rfl (RV.tmp rfl RV.nil)) (Casts.nils (s := 1) Casts.refl) (()) (by repeat first|exact s0_ _|exact s1_ _|apply s2_|apply s3_) (by simp [It.rids]) ?_
  rw [e9]
  rfl
 intro hc20
 have hlt : z.1 < (ownP om).length := by omega
 have hrz : z.1 < (rowsP om).length := by rw [rowsP_length]; exact hlt
 refine SC.skip ?_
 refine SE.seq ?_
 refine SC.seq ?_
 refine SC.block ?_
 refine SC.seq (SC.region ?_)
 refine SL.val (Val.move rfl) rfl rfl ?_
 refine SL.val (Val.indexSl tabOk Try.underlying40 rfl rfl rfl rfl (at_map (by omega)) rfl rfl) rfl rfl ?_
 refine SL.val (Val.loadAR tabOk rfl rfl rfl (Pnt.size _)) rfl rfl ?_
 refine SL.eff (Eff.alloc tabOk rfl) rfl rfl ?_
 rintro _ _ ⟨b7, rfl, rfl⟩
 refine SL.val (Val.assign rfl) rfl rfl ?_
 refine SL.eff (Eff.store (L' := ((ownP om)[z.1]'hlt).abs) tabOk rfl rfl rfl (by repeat first|assumption|exact Upd.here|apply Upd.there) (Pnt.size _) (lb_ (by rfl)) (Pnt.ones _) (by exact putL_whole (Pnt.size _))) rfl rfl ?_
 rintro _ _ ⟨rfl, rfl⟩
 refine SL.nil (SE.seq ?_)
 refine SC.seq (SC.region ?_)
 refine SL.val (Val.to (C := .agg ((ownP om)[z.1]'hlt).abs) (Val.loadA tabOk rfl rfl rfl (by repeat first|assumption|exact o0_|exact o1_|apply o2_) List.not_mem_nil (Pnt.size _)) rfl) rfl rfl ?_
 refine SL.val (Val.to (C := .agg x.abs) (Val.loadA tabOk rfl rfl rfl (by repeat first|assumption|exact o0_|exact o1_|apply o2_) List.not_mem_nil (Pnt.size _)) rfl) rfl rfl ?_
 refine SL.val (Val.eqA rfl rfl (pnt_plains _) (pnt_plains _) (by kernel_rfl) (eqP (ownP_in hok.keys _ (List.getElem_mem hlt)) hx)) rfl rfl ?_
 refine SL.nil (SE.seq ?_)
 refine SC.condP rfl ?_ ?_
 rotate_left
 ·intro hc26
  refine SC.skip ?_
  refine SE.inBlock ?_
  refine SE.seq ?_
  refine SC.region ?_
  first
   | refine SL.val (Val.addI rfl rfl (by simp only [InR, lo, hi]; omega)) rfl rfl ?_
   | refine SL.val (Val.addW rfl rfl) rfl rfl ?_
  refine SL.val (Val.move rfl) rfl rfl ?_
  refine SL.nil ?_
  refine SE.round (z.1 + 1, ()) (by first | omega | (dsimp only; omega)) (⟨by dsimp only; omega, fun j hj h => by
   rcases Nat.lt_or_ge j z.1 with h1 | h1
   ·exact hz.2 j hj h1
   ·obtain rfl : j = z.1 := (by dsimp only at h; omega)
    exact hc26⟩) (by exact ⟨rfl, rfl, rfl, rfl, rfl, trivial⟩) (by repeat first|exact s0_ _|exact s1_ _|apply s2_|apply s3_)
 intro hc26
 have e9 : (bytesF om x) = some ((rowsP om)[z.1]'hrz) := bytes_at hlt hc26
 refine SC.seq (SC.region ?_)
 refine SL.val (Val.move rfl) rfl rfl ?_
 refine SL.val (Val.nilCheck rfl) rfl rfl ?_
 refine SL.val (Val.fieldAddr tabOk rfl rfl rfl rfl rfl) rfl rfl ?_
 refine SL.val (Val.to (C := .v rv) (Val.load1 tabOk rfl rfl (by repeat first|assumption|exact o0_|exact o1_|apply o2_) List.not_mem_nil (by rfl)) rfl) rfl rfl ?_
 refine SL.val (Val.move rfl) rfl rfl ?_
 refine SL.val (Val.indexOff (q := z.1) tabOk Try.underlying51 rfl rfl (by repeat first|assumption|exact o0_|exact o1_|apply o2_) rfl rfl (by rw [List.length_map]; exact hrz) rfl) rfl rfl ?_
 refine SL.val (Val.to (C := byt ((rowsP om)[z.1]'hrz)) (Val.loadOff (q := z.1) (cs := [byt ((rowsP om)[z.1]'hrz)]) tabOk rfl rfl (by repeat first|assumption|exact o0_|exact o1_|apply o2_) (by rw [List.getElem?_map, List.getElem?_eq_getElem hrz]; rfl) rfl) rfl) rfl rfl ?_
 iterate 2 refine SL.val (Val.assign rfl) rfl rfl ?_
 refine SL.nil (SE.seq ?_)
 refine SC.ret ?_
 refine SE.ret ?_
 refine SE.then_ nofun ?_
 refine SE.then_ nofun ?_
 refine SE.ret ?_
 refine SE.then_ nofun ?_
 refine SE.fin (rs := [.tmp 4, .tmp 5]) rfl (RV.tmp rfl (RV.tmp rfl RV.nil)) (()) (by repeat first|exact s0_ _|exact s1_ _|apply s2_|apply s3_) (by simp [It.rids]) ?_
 rw [e9]
 rfl
end
end Go.Proofs.Ytjbikemecdlolaa.A
/-
  Points: no points at all.
-/
namespace Go.Proofs.Ytjbikemecdlolaa.A
open Go.RowKit

section
variable {x : Pnt} {who k low above : Int}
theorem pmoveno_s  : Spec Try.prog 14 [.v (.pointer none), int low] [] (fun _ : Unit => []) (fun _ => .tup []) := by
 refine spec_of Try.func14 rfl Try.ntmps14 rfl fun G w => ?_
 refine SC.seq (SC.region ?_)
 refine SL.eff (Eff.box1 rfl rfl) rfl rfl ?_
 rintro _ _ ⟨b3, rfl, rfl⟩
 refine SL.nil (SE.seq ?_)
 refine SC.seq (SC.region ?_)
 refine SL.val (Val.move rfl) rfl rfl ?_
 refine SL.val (Val.neP rfl rfl (by kernel_rfl)) rfl rfl ?_
 refine SL.nil (SE.seq ?_)
 refine SC.condF rfl ?_
 refine SC.skip ?_
 refine SE.finN (rs := []) rfl RV.nil (()) (by repeat first|exact s0_ _|exact s1_ _|apply s2_|apply s3_) (by simp [It.rids]) ?_
 exact rfl
theorem pstableno_s  : Spec Try.prog 10 [.v (.pointer none), int above] [] (fun _ : Unit => []) (fun _ => .tup [.agg Pnt.zero.abs, boo false]) := by
 refine spec_of Try.func10 rfl Try.ntmps10 rfl fun G w => ?_
 refine SC.seq (SC.region ?_)
 refine SL.eff (Eff.alloc tabOk rfl) rfl rfl ?_
 rintro _ _ ⟨b4, rfl, rfl⟩
 refine SL.val (Val.assign rfl) rfl rfl ?_
 refine SL.nil (SE.seq ?_)
 refine SC.seq ?_
 refine SC.seq (SC.region ?_)
 refine SL.val (Val.move rfl) rfl rfl ?_
 refine SL.val (Val.eqP rfl rfl (by kernel_rfl)) rfl rfl ?_
 refine SL.nil (SE.seq ?_)
 refine SC.condT rfl ?_
 refine SC.seq (SC.region ?_)
 refine SL.val (Val.to (C := .agg Pnt.zero.abs) (Val.buildS tabOk rfl rfl rfl rfl) rfl) rfl rfl ?_
 refine SL.eff (Eff.store (L' := Pnt.zero.abs) tabOk rfl rfl rfl (by repeat first|assumption|exact Upd.here|apply Upd.there) (Pnt.size _) (lb_ (by rfl)) (Pnt.ones _) (by exact putL_whole (Pnt.size _))) rfl rfl ?_
 rintro _ _ ⟨rfl, rfl⟩
 refine SL.val (Val.assign rfl) rfl rfl ?_
 refine SL.nil (SE.seq ?_)
 refine SC.ret ?_
 refine SE.then_ nofun ?_
 refine SE.fin (rs := [.cell 4 27, .tmp 5]) rfl (RV.cell rfl (RV.cellA tabOk rfl rfl (by repeat first|assumption|exact o0_|exact o1_|apply o2_) (Pnt.size _)) (RV.tmp rfl RV.nil)) (()) (by repeat first|exact s0_ _|exact s1_ _|apply s2_|apply s3_) (by simp [It.rids]) ?_
 exact rfl
theorem pweakno_s  : Spec Try.prog 9 [.v (.pointer none), int above] [] (fun _ : Unit => []) (fun _ => .tup [.agg Pnt.zero.abs, boo false]) := by
 refine spec_of Try.func9 rfl Try.ntmps9 rfl fun G w => ?_
 refine SC.seq (SC.region ?_)
 refine SL.eff (Eff.alloc tabOk rfl) rfl rfl ?_
 rintro _ _ ⟨b4, rfl, rfl⟩
 refine SL.val (Val.assign rfl) rfl rfl ?_
 refine SL.nil (SE.seq ?_)
 refine SC.seq ?_
 refine SC.seq (SC.region ?_)
 refine SL.val (Val.move rfl) rfl rfl ?_
 refine SL.val (Val.eqP rfl rfl (by kernel_rfl)) rfl rfl ?_
 refine SL.nil (SE.seq ?_)
 refine SC.condT rfl ?_
 refine SC.seq (SC.region ?_)
 refine SL.val (Val.to (C := .agg Pnt.zero.abs) (Val.loadA tabOk rfl rfl rfl (by repeat first|assumption|exact o0_|exact o1_|apply o2_) List.not_mem_nil rfl) rfl) rfl rfl ?_
 refine SL.eff (Eff.store (L' := Pnt.zero.abs) tabOk rfl rfl rfl (by repeat first|assumption|exact Upd.here|apply Upd.there) (Pnt.size _) (lb_ (by rfl)) (Pnt.ones _) (by exact putL_whole (Pnt.size _))) rfl rfl ?_
 rintro _ _ ⟨rfl, rfl⟩
 refine SL.val (Val.assign rfl) rfl rfl ?_
 refine SL.nil (SE.seq ?_)
 refine SC.ret ?_
 refine SE.then_ nofun ?_
 refine SE.fin (rs := [.cell 4 27, .tmp 5]) rfl (RV.cell rfl (RV.cellA tabOk rfl rfl (by repeat first|assumption|exact o0_|exact o1_|apply o2_) (Pnt.size _)) (RV.tmp rfl RV.nil)) (()) (by repeat first|exact s0_ _|exact s1_ _|apply s2_|apply s3_) (by simp [It.rids]) ?_
 exact rfl
theorem pbytesno_s  : Spec Try.prog 15 [.v (.pointer none), .agg x.abs] [] (fun _ : Unit => []) (fun _ => .tup [byt [], boo false]) := by
 refine spec_of Try.func15 rfl Try.ntmps15 rfl fun G w => ?_
 refine SC.seq (SC.region ?_)
 refine SL.eff (Eff.boxA (cs := x.abs) rfl) rfl rfl ?_
 rintro _ _ ⟨b3, rfl, rfl⟩
 iterate 2 refine SL.val (Val.assign rfl) rfl rfl ?_
 refine SL.nil (SE.seq ?_)
 refine SC.seq ?_
 refine SC.seq (SC.region ?_)
 refine SL.val (Val.move rfl) rfl rfl ?_
 refine SL.val (Val.eqP rfl rfl (by kernel_rfl)) rfl rfl ?_
 refine SL.nil (SE.seq ?_)
 refine SC.condT rfl ?_
 refine SC.seq (SC.region ?_)
 iterate 2 refine SL.val (Val.assign rfl) rfl rfl ?_
 refine SL.nil (SE.seq ?_)
 refine SC.ret ?_
 refine SE.then_ nofun ?_
 refine SE.finC (rs := [.tmp 4, .tmp 5]) rfl (RV.tmp rfl (RV.tmp rfl RV.nil)) (Casts.nils (s := 1) Casts.refl) (()) (by repeat first|exact s0_ _|exact s1_ _|apply s2_|apply s3_) (by simp [It.rids]) ?_
 exact rfl
theorem pvoteno_s  : Spec Try.prog 8 [.v (.pointer none), int who, .agg x.abs] [] (fun _ : Unit => []) (fun _ => boo false) := by
 refine spec_of Try.func8 rfl Try.ntmps8 rfl fun G w => ?_
 refine SC.seq (SC.region ?_)
 refine SL.eff (Eff.boxA (cs := x.abs) rfl) rfl rfl ?_
 rintro _ _ ⟨b5, rfl, rfl⟩
 refine SL.val (Val.assign rfl) rfl rfl ?_
 refine SL.nil (SE.seq ?_)
 refine SC.seq ?_
 refine SC.seq (SC.region ?_)
 refine SL.val (Val.move rfl) rfl rfl ?_
 refine SL.val (Val.eqP rfl rfl (by kernel_rfl)) rfl rfl ?_
 refine SL.val (Val.move rfl) rfl rfl ?_
 iterate 6 refine SL.skip rfl rfl ?_
 refine SL.val (Val.pickT rfl rfl) rfl rfl ?_
 refine SL.val (Val.move rfl) rfl rfl ?_
 iterate 2 refine SL.skip rfl rfl ?_
 refine SL.val (Val.pickT rfl rfl) rfl rfl ?_
 refine SL.val (Val.move rfl) rfl rfl ?_
 iterate 6 refine SL.skip rfl rfl ?_
 refine SL.val (Val.pickT rfl rfl) rfl rfl ?_
 refine SL.nil (SE.seq ?_)
 refine SC.condT rfl ?_
 refine SC.seq (SC.region ?_)
 refine SL.val (Val.assign rfl) rfl rfl ?_
 refine SL.nil (SE.seq ?_)
 refine SC.ret ?_
 refine SE.then_ nofun ?_
 refine SE.fin (rs := [.tmp 6]) rfl (RV.tmp rfl RV.nil) (()) (by repeat first|exact s0_ _|exact s1_ _|apply s2_|apply s3_) (by simp [It.rids]) ?_
 exact rfl
theorem psupno_s  : Spec Try.prog 11 [.v (.pointer none), .agg x.abs] [] (fun _ : Unit => []) (fun _ => int 0) := by
 refine spec_of Try.func11 rfl Try.ntmps11 rfl fun G w => ?_
 refine SC.seq (SC.region ?_)
 refine SL.eff (Eff.boxA (cs := x.abs) rfl) rfl rfl ?_
 rintro _ _ ⟨b3, rfl, rfl⟩
 refine SL.val (Val.assign rfl) rfl rfl ?_
 refine SL.nil (SE.seq ?_)
 refine SC.seq ?_
 refine SC.seq (SC.region ?_)
 refine SL.val (Val.move rfl) rfl rfl ?_
 refine SL.val (Val.eqP rfl rfl (by kernel_rfl)) rfl rfl ?_
 refine SL.nil (SE.seq ?_)
 refine SC.condT rfl ?_
 refine SC.seq (SC.region ?_)
 refine SL.val (Val.assign rfl) rfl rfl ?_
 refine SL.nil (SE.seq ?_)
 refine SC.ret ?_
 refine SE.then_ nofun ?_
 refine SE.fin (rs := [.tmp 4]) rfl (RV.tmp rfl RV.nil) (()) (by repeat first|exact s0_ _|exact s1_ _|apply s2_|apply s3_) (by simp [It.rids]) ?_
 exact rfl
theorem ptoldno_s  : Spec Try.prog 13 [.v (.pointer none)] [] (fun _ : Unit => []) (fun _ => pntsA []) := by
 refine spec_of Try.func13 rfl Try.ntmps13 rfl fun G w => ?_
 refine SC.seq (SC.region ?_)
 refine SL.val (Val.assign rfl) rfl rfl ?_
 refine SL.nil (SE.seq ?_)
 refine SC.seq ?_
 refine SC.seq (SC.region ?_)
 refine SL.val (Val.move rfl) rfl rfl ?_
 refine SL.val (Val.eqP rfl rfl (by kernel_rfl)) rfl rfl ?_
 refine SL.nil (SE.seq ?_)
 refine SC.condT rfl ?_
 refine SC.seq (SC.region ?_)
 refine SL.val (Val.assign rfl) rfl rfl ?_
 refine SL.nil (SE.seq ?_)
 refine SC.ret ?_
 refine SE.then_ nofun ?_
 refine SE.finC (rs := [.tmp 2]) rfl (RV.tmp rfl RV.nil) (Casts.nils (s := 33) Casts.refl) (()) (by repeat first|exact s0_ _|exact s1_ _|apply s2_|apply s3_) (by simp [It.rids]) ?_
 exact rfl
theorem pvotesno_s  : Spec Try.prog 16 [.v (.pointer none), int who] [] (fun _ : Unit => []) (fun _ => pntsA []) := by
 refine spec_of Try.func16 rfl Try.ntmps16 rfl fun G w => ?_
 refine SC.seq (SC.region ?_)
 refine SL.val (Val.assign rfl) rfl rfl ?_
 refine SL.nil (SE.seq ?_)
 refine SC.seq ?_
 refine SC.block ?_
 refine SC.seq (SC.region ?_)
 refine SL.val (Val.move rfl) rfl rfl ?_
 refine SL.val (Val.eqP rfl rfl (by kernel_rfl)) rfl rfl ?_
 refine SL.val (Val.move rfl) rfl rfl ?_
 iterate 2 refine SL.skip rfl rfl ?_
 refine SL.val (Val.pickT rfl rfl) rfl rfl ?_
 refine SL.val (Val.move rfl) rfl rfl ?_
 iterate 6 refine SL.skip rfl rfl ?_
 refine SL.val (Val.pickT rfl rfl) rfl rfl ?_
 refine SL.val (Val.assign rfl) rfl rfl ?_
 refine SL.nil (SE.seq ?_)
 refine SC.condT rfl ?_
 refine SC.seq (SC.region ?_)
 refine SL.val (Val.assign rfl) rfl rfl ?_
 refine SL.nil (SE.seq ?_)
 refine SC.ret ?_
 refine SE.ret ?_
 refine SE.then_ nofun ?_
 refine SE.finC (rs := [.tmp 4]) rfl (RV.tmp rfl RV.nil) (Casts.nils (s := 33) Casts.refl) (()) (by repeat first|exact s0_ _|exact s1_ _|apply s2_|apply s3_) (by simp [It.rids]) ?_
 exact rfl
end
end Go.Proofs.Ytjbikemecdlolaa.A
/-
  Points, plain: whom the votes are of (PointsHonest).
-/
namespace Go.Proofs.Ytjbikemecdlolaa.A
open Go.RowKit

/-- An act. -/
structure PAc where
  kind : UInt8
  who : Int
  x : Pnt
  row : List UInt8
def PAc.abs (a : PAc) : List Abs := .v (bc a.kind) :: int a.who :: (a.x.abs ++ [byt a.row])
theorem PAc.size (a : PAc) : a.abs.length = 36 := by simp [PAc.abs, Pnt.size]
theorem PAc.ones (a : PAc) : ones a.abs = true := by
  rw [ones_iff]; intro c hc
  rcases List.mem_cons.1 hc with rfl | hc
  · rfl
  rcases List.mem_cons.1 hc with rfl | hc
  · rfl
  rcases List.mem_append.1 hc with hc | hc
  · exact ones_iff.1 a.x.ones c hc
  · rw [List.mem_singleton.1 hc]; rfl
theorem PAc.part (a : PAc) : Abs.agg (part a.abs 2 33) = .agg a.x.abs := by
  have h := a.x.size
  unfold A.part PAc.abs
  rw [List.drop_succ_cons, List.drop_succ_cons, List.drop_zero, List.take_append_of_le_length (by omega), List.take_of_length_le (by omega)]
/-- What comes in is in range. -/
structure PAcIn (a : PAc) : Prop where
  who : InR .i64 a.who
  seq : InR .i64 a.x.seq
def kf (f : UInt8) : Nat := 1 + f.toNat % 2
end Go.Proofs.Ytjbikemecdlolaa.A
/-
  PointsPlays: no points at all.
-/
namespace Go.Proofs.Ytjbikemecdlolaa.A
open Go.RowKit

section
variable {nI meI above : Int} {l : List PAc}
set_option maxHeartbeats 2000000 in
theorem pplaysno_s (hg : ¬ (1 ≤ nI ∧ nI ≤ 7 ∧ 0 ≤ meI ∧ meI < nI)) : Spec Try.prog 5 [int nI, int meI, .sl 36 (l.map PAc.abs), int above] [] (fun _ : Unit => []) (fun _ => boo true) := by
 refine spec_of Try.func5 rfl Try.ntmps5 rfl fun G w => ?_
 refine SC.seq (SC.region ?_)
 refine SL.val (Val.assign rfl) rfl rfl ?_
 refine SL.nil (SE.seq ?_)
 refine SC.seq ?_
 refine SC.seq (SC.region ?_)
 refine SL.call (pfixed_s) Casts.refl (by kernel_rfl) rfl rfl rfl ?_
 refine ap_ ?_
 intro _
 refine SL.val (Val.notT rfl) rfl rfl ?_
 refine SL.nil (SE.seq ?_)
 refine SC.condF rfl ?_
 refine SC.skip ?_
 refine SE.seq ?_
 refine SC.seq ?_
 refine SC.seq (SC.region ?_)
 refine SL.val (Val.move rfl) rfl rfl ?_
 first
  | refine SL.val (Val.lenSl rfl Try.underlying22 (List.length_map _)) rfl rfl ?_
  | refine SL.val (Val.lenOwn rfl (by repeat first|assumption|exact m0_|apply m1_) Try.underlying22 (List.length_map _)) rfl rfl ?_
  | refine SL.val (Val.lenNil rfl Try.underlying22) rfl rfl ?_
 refine SL.val (Val.gtI rfl rfl) rfl rfl ?_
 refine SL.nil (SE.seq ?_)
 refine SC.condP rfl ?_ ?_
 ·intro hc35
  refine SC.seq (SC.region ?_)
  refine SL.val (Val.assign rfl) rfl rfl ?_
  refine SL.nil (SE.seq ?_)
  refine SC.ret ?_
  refine SE.then_ nofun ?_
  refine SE.fin (rs := [.tmp 8]) rfl (RV.tmp rfl RV.nil) (()) (by repeat first|exact s0_ _|exact s1_ _|apply s2_|apply s3_) (by simp [It.rids]) ?_
  exact rfl
 intro hc35
 refine SC.skip ?_
 refine SE.seq ?_
 refine SC.seq (SC.region ?_)
 iterate 2 refine SL.val (Val.move rfl) rfl rfl ?_
 refine SL.call (pnewno_s hg) Casts.refl (by kernel_rfl) rfl rfl rfl ?_
 refine ap_ ?_
 intro _
 refine SL.val (Val.assign rfl) rfl rfl ?_
 refine SL.nil (SE.seq ?_)
 refine SC.seq ?_
 refine SC.seq (SC.region ?_)
 refine SL.val (Val.move rfl) rfl rfl ?_
 refine SL.val (Val.ltI rfl rfl) rfl rfl ?_
 refine SL.val (Val.move rfl) rfl rfl ?_
 refine SL.bothP (t := 41) rfl ?_ ?_
 ·intro hc41
  iterate 2 refine SL.skip rfl rfl ?_
  refine SL.val (Val.pickT rfl rfl) rfl rfl ?_
  refine SL.val (Val.move rfl) rfl rfl ?_
  iterate 2 refine SL.skip rfl rfl ?_
  refine SL.val (Val.pickT rfl rfl) rfl rfl ?_
  refine SL.val (Val.move rfl) rfl rfl ?_
  iterate 3 refine SL.skip rfl rfl ?_
  refine SL.val (Val.pickT rfl rfl) rfl rfl ?_
  refine SL.nil (SE.seq ?_)
  refine SC.condT rfl ?_
  refine SC.seq (SC.region ?_)
  refine SL.val (Val.move rfl) rfl rfl ?_
  refine SL.val (Val.to (C := .agg (digA Ow.zero.dig)) (Val.buildA tabOk rfl rfl rfl rfl) rfl) rfl rfl ?_
  refine SL.call (pownno_s (k := 4) (o := Ow.zero)) (Casts.keep (Casts.keep (Casts.keep (Casts.nils (s := 1) Casts.refl)))) (by kernel_rfl) rfl rfl rfl ?_
  refine ap_ ?_
  intro _
  refine SL.nil (SE.seq ?_)
  refine SC.seq (SC.region ?_)
  refine SL.val (Val.move rfl) rfl rfl ?_
  refine SL.call (pmoveno_s (low := 9)) Casts.refl (by kernel_rfl) rfl rfl rfl ?_
  refine ap_ ?_
  intro _
  refine SL.nil (SE.seq ?_)
  refine SC.seq (SC.region ?_)
  iterate 2 refine SL.val (Val.move rfl) rfl rfl ?_
  refine SL.call (pstableno_s (above := above)) Casts.refl (by kernel_rfl) rfl rfl rfl ?_
  refine ap_ ?_
  intro _
  refine SL.val (Val.move rfl) rfl rfl ?_
  refine SL.val (Val.extract rfl rfl) rfl rfl ?_
  refine SL.val (Val.extract rfl rfl) rfl rfl ?_
  refine SL.eff (Eff.alloc tabOk rfl) rfl rfl ?_
  rintro _ _ ⟨b10, rfl, rfl⟩
  refine SL.eff (Eff.store (L' := Pnt.zero.abs) tabOk rfl rfl rfl (by repeat first|assumption|exact Upd.here|apply Upd.there) (Pnt.size _) (lb_ (by rfl)) (Pnt.ones _) (by exact putL_whole (Pnt.size _))) rfl rfl ?_
  rintro _ _ ⟨rfl, rfl⟩
  refine SL.val (Val.assign rfl) rfl rfl ?_
  refine SL.nil (SE.seq ?_)
  refine SC.seq (SC.region ?_)
  iterate 2 refine SL.val (Val.move rfl) rfl rfl ?_
  refine SL.call (pweakno_s (above := above)) Casts.refl (by kernel_rfl) rfl rfl rfl ?_
  refine ap_ ?_
  intro _
  refine SL.val (Val.move rfl) rfl rfl ?_
  refine SL.val (Val.extract rfl rfl) rfl rfl ?_
  refine SL.val (Val.extract rfl rfl) rfl rfl ?_
  refine SL.eff (Eff.alloc tabOk rfl) rfl rfl ?_
  rintro _ _ ⟨b12, rfl, rfl⟩
  refine SL.eff (Eff.store (L' := Pnt.zero.abs) tabOk rfl rfl rfl (by repeat first|assumption|exact Upd.here|apply Upd.there) (Pnt.size _) (lb_ (by rfl)) (Pnt.ones _) (by exact putL_whole (Pnt.size _))) rfl rfl ?_
  rintro _ _ ⟨rfl, rfl⟩
  refine SL.val (Val.assign rfl) rfl rfl ?_
  refine SL.nil (SE.seq ?_)
  refine SC.seq (SC.region ?_)
  refine SL.val (Val.move rfl) rfl rfl ?_
  refine SL.val (Val.to (C := .agg Pnt.zero.abs) (Val.buildS tabOk rfl rfl rfl rfl) rfl) rfl rfl ?_
  refine SL.call (pbytesno_s (x := Pnt.zero)) Casts.refl (by kernel_rfl) rfl rfl rfl ?_
  refine ap_ ?_
  intro _
  refine SL.val (Val.move rfl) rfl rfl ?_
  refine SL.val (Val.extract rfl rfl) rfl rfl ?_
  refine SL.val (Val.extract rfl rfl) rfl rfl ?_
  iterate 2 refine SL.val (Val.assign rfl) rfl rfl ?_
  refine SL.nil (SE.seq ?_)
  refine SC.seq (SC.region ?_)
  refine SL.val (Val.move rfl) rfl rfl ?_
  refine SL.val (Val.eqP rfl rfl (by kernel_rfl)) rfl rfl ?_
  iterate 2 refine SL.val (Val.move rfl) rfl rfl ?_
  refine SL.val (Val.notF rfl) rfl rfl ?_
  refine SL.val (Val.pickT rfl rfl) rfl rfl ?_
  iterate 2 refine SL.val (Val.move rfl) rfl rfl ?_
  refine SL.val (Val.notF rfl) rfl rfl ?_
  refine SL.val (Val.pickT rfl rfl) rfl rfl ?_
  iterate 2 refine SL.val (Val.move rfl) rfl rfl ?_
  refine SL.val (Val.notF rfl) rfl rfl ?_
  refine SL.val (Val.pickT rfl rfl) rfl rfl ?_
  iterate 2 refine SL.val (Val.move rfl) rfl rfl ?_
  refine SL.val (Val.to (C := .agg Pnt.zero.abs) (Val.buildS tabOk rfl rfl rfl rfl) rfl) rfl rfl ?_
  refine SL.call (pvoteno_s (who := 0) (x := Pnt.zero)) Casts.refl (by kernel_rfl) rfl rfl rfl ?_
  refine ap_ ?_
  intro _
  refine SL.val (Val.notF rfl) rfl rfl ?_
  refine SL.val (Val.pickT rfl rfl) rfl rfl ?_
  iterate 2 refine SL.val (Val.move rfl) rfl rfl ?_
  refine SL.val (Val.to (C := .agg Pnt.zero.abs) (Val.buildS tabOk rfl rfl rfl rfl) rfl) rfl rfl ?_
  refine SL.call (psupno_s (x := Pnt.zero)) Casts.refl (by kernel_rfl) rfl rfl rfl ?_
  refine ap_ ?_
  intro _
  refine SL.val (Val.move rfl) rfl rfl ?_
  refine SL.call (ptoldno_s) Casts.refl (by kernel_rfl) rfl rfl rfl ?_
  refine ap_ ?_
  intro _
  refine SL.val (Val.lenSl (m := 0) rfl Try.underlying40 rfl) rfl rfl ?_
  first
   | refine SL.val (Val.addI rfl rfl (by simp only [InR, lo, hi]; omega)) rfl rfl ?_
   | refine SL.val (Val.addW rfl rfl) rfl rfl ?_
  refine SL.val (Val.move rfl) rfl rfl ?_
  refine SL.call (pvotesno_s (who := 0)) Casts.refl (by kernel_rfl) rfl rfl rfl ?_
  refine ap_ ?_
  intro _
  refine SL.val (Val.lenSl (m := 0) rfl Try.underlying40 rfl) rfl rfl ?_
  first
   | refine SL.val (Val.addI rfl rfl (by simp only [InR, lo, hi]; omega)) rfl rfl ?_
   | refine SL.val (Val.addW rfl rfl) rfl rfl ?_
  refine SL.val (Val.to (C := boo true) (Val.eqI rfl rfl) (by simp)) rfl rfl ?_
  refine SL.val (Val.pickT rfl rfl) rfl rfl ?_
  refine SL.val (Val.assign rfl) rfl rfl ?_
  refine SL.nil (SE.seq ?_)
  refine SC.ret ?_
  refine SE.then_ nofun ?_
  refine SE.fin (rs := [.tmp 8]) rfl (RV.tmp rfl RV.nil) (()) (by repeat first|exact s0_ _|exact s1_ _|apply s2_|apply s3_) (by simp [It.rids]) ?_
  exact rfl
 intro hc41
 refine SL.val (Val.move rfl) rfl rfl ?_
 refine SL.val (Val.gtI rfl rfl) rfl rfl ?_
 refine SL.val (Val.pickF rfl rfl) rfl rfl ?_
 refine SL.val (Val.move rfl) rfl rfl ?_
 refine SL.bothP (t := 45) rfl ?_ ?_
 ·intro hc45
  iterate 2 refine SL.skip rfl rfl ?_
  refine SL.val (Val.pickT rfl rfl) rfl rfl ?_
  refine SL.val (Val.move rfl) rfl rfl ?_
  iterate 3 refine SL.skip rfl rfl ?_
  refine SL.val (Val.pickT rfl rfl) rfl rfl ?_
  refine SL.nil (SE.seq ?_)
  refine SC.condT rfl ?_
  refine SC.seq (SC.region ?_)
  refine SL.val (Val.move rfl) rfl rfl ?_
  refine SL.val (Val.to (C := .agg (digA Ow.zero.dig)) (Val.buildA tabOk rfl rfl rfl rfl) rfl) rfl rfl ?_
  refine SL.call (pownno_s (k := 4) (o := Ow.zero)) (Casts.keep (Casts.keep (Casts.keep (Casts.nils (s := 1) Casts.refl)))) (by kernel_rfl) rfl rfl rfl ?_
  refine ap_ ?_
  intro _
  refine SL.nil (SE.seq ?_)
  refine SC.seq (SC.region ?_)
  refine SL.val (Val.move rfl) rfl rfl ?_
  refine SL.call (pmoveno_s (low := 9)) Casts.refl (by kernel_rfl) rfl rfl rfl ?_
  refine ap_ ?_
  intro _
  refine SL.nil (SE.seq ?_)
  refine SC.seq (SC.region ?_)
  iterate 2 refine SL.val (Val.move rfl) rfl rfl ?_
  refine SL.call (pstableno_s (above := above)) Casts.refl (by kernel_rfl) rfl rfl rfl ?_
  refine ap_ ?_
  intro _
  refine SL.val (Val.move rfl) rfl rfl ?_
  refine SL.val (Val.extract rfl rfl) rfl rfl ?_
  refine SL.val (Val.extract rfl rfl) rfl rfl ?_
  refine SL.eff (Eff.alloc tabOk rfl) rfl rfl ?_
  rintro _ _ ⟨b10, rfl, rfl⟩
  refine SL.eff (Eff.store (L' := Pnt.zero.abs) tabOk rfl rfl rfl (by repeat first|assumption|exact Upd.here|apply Upd.there) (Pnt.size _) (lb_ (by rfl)) (Pnt.ones _) (by exact putL_whole (Pnt.size _))) rfl rfl ?_
  rintro _ _ ⟨rfl, rfl⟩
  refine SL.val (Val.assign rfl) rfl rfl ?_
  refine SL.nil (SE.seq ?_)
  refine SC.seq (SC.region ?_)
  iterate 2 refine SL.val (Val.move rfl) rfl rfl ?_
  refine SL.call (pweakno_s (above := above)) Casts.refl (by kernel_rfl) rfl rfl rfl ?_
  refine ap_ ?_
  intro _
  refine SL.val (Val.move rfl) rfl rfl ?_
  refine SL.val (Val.extract rfl rfl) rfl rfl ?_
  refine SL.val (Val.extract rfl rfl) rfl rfl ?_
  refine SL.eff (Eff.alloc tabOk rfl) rfl rfl ?_
  rintro _ _ ⟨b12, rfl, rfl⟩
  refine SL.eff (Eff.store (L' := Pnt.zero.abs) tabOk rfl rfl rfl (by repeat first|assumption|exact Upd.here|apply Upd.there) (Pnt.size _) (lb_ (by rfl)) (Pnt.ones _) (by exact putL_whole (Pnt.size _))) rfl rfl ?_
  rintro _ _ ⟨rfl, rfl⟩
  refine SL.val (Val.assign rfl) rfl rfl ?_
  refine SL.nil (SE.seq ?_)
  refine SC.seq (SC.region ?_)
  refine SL.val (Val.move rfl) rfl rfl ?_
  refine SL.val (Val.to (C := .agg Pnt.zero.abs) (Val.buildS tabOk rfl rfl rfl rfl) rfl) rfl rfl ?_
  refine SL.call (pbytesno_s (x := Pnt.zero)) Casts.refl (by kernel_rfl) rfl rfl rfl ?_
  refine ap_ ?_
  intro _
  refine SL.val (Val.move rfl) rfl rfl ?_
  refine SL.val (Val.extract rfl rfl) rfl rfl ?_
  refine SL.val (Val.extract rfl rfl) rfl rfl ?_
  iterate 2 refine SL.val (Val.assign rfl) rfl rfl ?_
  refine SL.nil (SE.seq ?_)
  refine SC.seq (SC.region ?_)
  refine SL.val (Val.move rfl) rfl rfl ?_
  refine SL.val (Val.eqP rfl rfl (by kernel_rfl)) rfl rfl ?_
  iterate 2 refine SL.val (Val.move rfl) rfl rfl ?_
  refine SL.val (Val.notF rfl) rfl rfl ?_
  refine SL.val (Val.pickT rfl rfl) rfl rfl ?_
  iterate 2 refine SL.val (Val.move rfl) rfl rfl ?_
  refine SL.val (Val.notF rfl) rfl rfl ?_
  refine SL.val (Val.pickT rfl rfl) rfl rfl ?_
  iterate 2 refine SL.val (Val.move rfl) rfl rfl ?_
  refine SL.val (Val.notF rfl) rfl rfl ?_
  refine SL.val (Val.pickT rfl rfl) rfl rfl ?_
  iterate 2 refine SL.val (Val.move rfl) rfl rfl ?_
  refine SL.val (Val.to (C := .agg Pnt.zero.abs) (Val.buildS tabOk rfl rfl rfl rfl) rfl) rfl rfl ?_
  refine SL.call (pvoteno_s (who := 0) (x := Pnt.zero)) Casts.refl (by kernel_rfl) rfl rfl rfl ?_
  refine ap_ ?_
  intro _
  refine SL.val (Val.notF rfl) rfl rfl ?_
  refine SL.val (Val.pickT rfl rfl) rfl rfl ?_
  iterate 2 refine SL.val (Val.move rfl) rfl rfl ?_
  refine SL.val (Val.to (C := .agg Pnt.zero.abs) (Val.buildS tabOk rfl rfl rfl rfl) rfl) rfl rfl ?_
  refine SL.call (psupno_s (x := Pnt.zero)) Casts.refl (by kernel_rfl) rfl rfl rfl ?_
  refine ap_ ?_
  intro _
  refine SL.val (Val.move rfl) rfl rfl ?_
  refine SL.call (ptoldno_s) Casts.refl (by kernel_rfl) rfl rfl rfl ?_
  refine ap_ ?_
  intro _
  refine SL.val (Val.lenSl (m := 0) rfl Try.underlying40 rfl) rfl rfl ?_
  first
   | refine SL.val (Val.addI rfl rfl (by simp only [InR, lo, hi]; omega)) rfl rfl ?_
   | refine SL.val (Val.addW rfl rfl) rfl rfl ?_
  refine SL.val (Val.move rfl) rfl rfl ?_
  refine SL.call (pvotesno_s (who := 0)) Casts.refl (by kernel_rfl) rfl rfl rfl ?_
  refine ap_ ?_
  intro _
  refine SL.val (Val.lenSl (m := 0) rfl Try.underlying40 rfl) rfl rfl ?_
  first
   | refine SL.val (Val.addI rfl rfl (by simp only [InR, lo, hi]; omega)) rfl rfl ?_
   | refine SL.val (Val.addW rfl rfl) rfl rfl ?_
  refine SL.val (Val.to (C := boo true) (Val.eqI rfl rfl) (by simp)) rfl rfl ?_
  refine SL.val (Val.pickT rfl rfl) rfl rfl ?_
  refine SL.val (Val.assign rfl) rfl rfl ?_
  refine SL.nil (SE.seq ?_)
  refine SC.ret ?_
  refine SE.then_ nofun ?_
  refine SE.fin (rs := [.tmp 8]) rfl (RV.tmp rfl RV.nil) (()) (by repeat first|exact s0_ _|exact s1_ _|apply s2_|apply s3_) (by simp [It.rids]) ?_
  exact rfl
 intro hc45
 refine SL.val (Val.move rfl) rfl rfl ?_
 refine SL.val (Val.ltI rfl rfl) rfl rfl ?_
 refine SL.val (Val.pickF rfl rfl) rfl rfl ?_
 refine SL.val (Val.move rfl) rfl rfl ?_
 refine SL.bothP (t := 49) rfl ?_ ?_
 ·intro hc49
  iterate 3 refine SL.skip rfl rfl ?_
  refine SL.val (Val.pickT rfl rfl) rfl rfl ?_
  refine SL.nil (SE.seq ?_)
  refine SC.condT rfl ?_
  refine SC.seq (SC.region ?_)
  refine SL.val (Val.move rfl) rfl rfl ?_
  refine SL.val (Val.to (C := .agg (digA Ow.zero.dig)) (Val.buildA tabOk rfl rfl rfl rfl) rfl) rfl rfl ?_
  refine SL.call (pownno_s (k := 4) (o := Ow.zero)) (Casts.keep (Casts.keep (Casts.keep (Casts.nils (s := 1) Casts.refl)))) (by kernel_rfl) rfl rfl rfl ?_
  refine ap_ ?_
  intro _
  refine SL.nil (SE.seq ?_)
  refine SC.seq (SC.region ?_)
  refine SL.val (Val.move rfl) rfl rfl ?_
  refine SL.call (pmoveno_s (low := 9)) Casts.refl (by kernel_rfl) rfl rfl rfl ?_
  refine ap_ ?_
  intro _
  refine SL.nil (SE.seq ?_)
  refine SC.seq (SC.region ?_)
  iterate 2 refine SL.val (Val.move rfl) rfl rfl ?_
  refine SL.call (pstableno_s (above := above)) Casts.refl (by kernel_rfl) rfl rfl rfl ?_
  refine ap_ ?_
  intro _
  refine SL.val (Val.move rfl) rfl rfl ?_
  refine SL.val (Val.extract rfl rfl) rfl rfl ?_
  refine SL.val (Val.extract rfl rfl) rfl rfl ?_
  refine SL.eff (Eff.alloc tabOk rfl) rfl rfl ?_
  rintro _ _ ⟨b10, rfl, rfl⟩
  refine SL.eff (Eff.store (L' := Pnt.zero.abs) tabOk rfl rfl rfl (by repeat first|assumption|exact Upd.here|apply Upd.there) (Pnt.size _) (lb_ (by rfl)) (Pnt.ones _) (by exact putL_whole (Pnt.size _))) rfl rfl ?_
  rintro _ _ ⟨rfl, rfl⟩
  refine SL.val (Val.assign rfl) rfl rfl ?_
  refine SL.nil (SE.seq ?_)
  refine SC.seq (SC.region ?_)
  iterate 2 refine SL.val (Val.move rfl) rfl rfl ?_
  refine SL.call (pweakno_s (above := above)) Casts.refl (by kernel_rfl) rfl rfl rfl ?_
  refine ap_ ?_
  intro _
  refine SL.val (Val.move rfl) rfl rfl ?_
  refine SL.val (Val.extract rfl rfl) rfl rfl ?_
  refine SL.val (Val.extract rfl rfl) rfl rfl ?_
  refine SL.eff (Eff.alloc tabOk rfl) rfl rfl ?_
  rintro _ _ ⟨b12, rfl, rfl⟩
  refine SL.eff (Eff.store (L' := Pnt.zero.abs) tabOk rfl rfl rfl (by repeat first|assumption|exact Upd.here|apply Upd.there) (Pnt.size _) (lb_ (by rfl)) (Pnt.ones _) (by exact putL_whole (Pnt.size _))) rfl rfl ?_
  rintro _ _ ⟨rfl, rfl⟩
  refine SL.val (Val.assign rfl) rfl rfl ?_
  refine SL.nil (SE.seq ?_)
  refine SC.seq (SC.region ?_)
  refine SL.val (Val.move rfl) rfl rfl ?_
  refine SL.val (Val.to (C := .agg Pnt.zero.abs) (Val.buildS tabOk rfl rfl rfl rfl) rfl) rfl rfl ?_
  refine SL.call (pbytesno_s (x := Pnt.zero)) Casts.refl (by kernel_rfl) rfl rfl rfl ?_
  refine ap_ ?_
  intro _
  refine SL.val (Val.move rfl) rfl rfl ?_
  refine SL.val (Val.extract rfl rfl) rfl rfl ?_
  refine SL.val (Val.extract rfl rfl) rfl rfl ?_
  iterate 2 refine SL.val (Val.assign rfl) rfl rfl ?_
  refine SL.nil (SE.seq ?_)
  refine SC.seq (SC.region ?_)
  refine SL.val (Val.move rfl) rfl rfl ?_
  refine SL.val (Val.eqP rfl rfl (by kernel_rfl)) rfl rfl ?_
  iterate 2 refine SL.val (Val.move rfl) rfl rfl ?_
  refine SL.val (Val.notF rfl) rfl rfl ?_
  refine SL.val (Val.pickT rfl rfl) rfl rfl ?_
  iterate 2 refine SL.val (Val.move rfl) rfl rfl ?_
  refine SL.val (Val.notF rfl) rfl rfl ?_
  refine SL.val (Val.pickT rfl rfl) rfl rfl ?_
  iterate 2 refine SL.val (Val.move rfl) rfl rfl ?_
  refine SL.val (Val.notF rfl) rfl rfl ?_
  refine SL.val (Val.pickT rfl rfl) rfl rfl ?_
  iterate 2 refine SL.val (Val.move rfl) rfl rfl ?_
  refine SL.val (Val.to (C := .agg Pnt.zero.abs) (Val.buildS tabOk rfl rfl rfl rfl) rfl) rfl rfl ?_
  refine SL.call (pvoteno_s (who := 0) (x := Pnt.zero)) Casts.refl (by kernel_rfl) rfl rfl rfl ?_
  refine ap_ ?_
  intro _
  refine SL.val (Val.notF rfl) rfl rfl ?_
  refine SL.val (Val.pickT rfl rfl) rfl rfl ?_
  iterate 2 refine SL.val (Val.move rfl) rfl rfl ?_
  refine SL.val (Val.to (C := .agg Pnt.zero.abs) (Val.buildS tabOk rfl rfl rfl rfl) rfl) rfl rfl ?_
  refine SL.call (psupno_s (x := Pnt.zero)) Casts.refl (by kernel_rfl) rfl rfl rfl ?_
  refine ap_ ?_
  intro _
  refine SL.val (Val.move rfl) rfl rfl ?_
  refine SL.call (ptoldno_s) Casts.refl (by kernel_rfl) rfl rfl rfl ?_
  refine ap_ ?_
  intro _
  refine SL.val (Val.lenSl (m := 0) rfl Try.underlying40 rfl) rfl rfl ?_
  first
   | refine SL.val (Val.addI rfl rfl (by simp only [InR, lo, hi]; omega)) rfl rfl ?_
   | refine SL.val (Val.addW rfl rfl) rfl rfl ?_
  refine SL.val (Val.move rfl) rfl rfl ?_
  refine SL.call (pvotesno_s (who := 0)) Casts.refl (by kernel_rfl) rfl rfl rfl ?_
  refine ap_ ?_
  intro _
  refine SL.val (Val.lenSl (m := 0) rfl Try.underlying40 rfl) rfl rfl ?_
  first
   | refine SL.val (Val.addI rfl rfl (by simp only [InR, lo, hi]; omega)) rfl rfl ?_
   | refine SL.val (Val.addW rfl rfl) rfl rfl ?_
  refine SL.val (Val.to (C := boo true) (Val.eqI rfl rfl) (by simp)) rfl rfl ?_
  refine SL.val (Val.pickT rfl rfl) rfl rfl ?_
  refine SL.val (Val.assign rfl) rfl rfl ?_
  refine SL.nil (SE.seq ?_)
  refine SC.ret ?_
  refine SE.then_ nofun ?_
  refine SE.fin (rs := [.tmp 8]) rfl (RV.tmp rfl RV.nil) (()) (by repeat first|exact s0_ _|exact s1_ _|apply s2_|apply s3_) (by simp [It.rids]) ?_
  exact rfl
 intro hc49
 iterate 2 refine SL.val (Val.move rfl) rfl rfl ?_
 refine SL.val (Val.geI rfl rfl) rfl rfl ?_
 refine SL.val (Val.pickF rfl rfl) rfl rfl ?_
 refine SL.nil (SE.seq ?_)
 refine SC.condP rfl ?_ (by intro hc53; exfalso; omega)
 intro hc53
 refine SC.seq (SC.region ?_)
 refine SL.val (Val.move rfl) rfl rfl ?_
 refine SL.val (Val.to (C := .agg (digA Ow.zero.dig)) (Val.buildA tabOk rfl rfl rfl rfl) rfl) rfl rfl ?_
 refine SL.call (pownno_s (k := 4) (o := Ow.zero)) (Casts.keep (Casts.keep (Casts.keep (Casts.nils (s := 1) Casts.refl)))) (by kernel_rfl) rfl rfl rfl ?_
 refine ap_ ?_
 intro _
 refine SL.nil (SE.seq ?_)
 refine SC.seq (SC.region ?_)
 refine SL.val (Val.move rfl) rfl rfl ?_
 refine SL.call (pmoveno_s (low := 9)) Casts.refl (by kernel_rfl) rfl rfl rfl ?_
 refine ap_ ?_
 intro _
 refine SL.nil (SE.seq ?_)
 refine SC.seq (SC.region ?_)
 iterate 2 refine SL.val (Val.move rfl) rfl rfl ?_
 refine SL.call (pstableno_s (above := above)) Casts.refl (by kernel_rfl) rfl rfl rfl ?_
 refine ap_ ?_
 intro _
 refine SL.val (Val.move rfl) rfl rfl ?_
 refine SL.val (Val.extract rfl rfl) rfl rfl ?_
 refine SL.val (Val.extract rfl rfl) rfl rfl ?_
 refine SL.eff (Eff.alloc tabOk rfl) rfl rfl ?_
 rintro _ _ ⟨b10, rfl, rfl⟩
 refine SL.eff (Eff.store (L' := Pnt.zero.abs) tabOk rfl rfl rfl (by repeat first|assumption|exact Upd.here|apply Upd.there) (Pnt.size _) (lb_ (by rfl)) (Pnt.ones _) (by exact putL_whole (Pnt.size _))) rfl rfl ?_
 rintro _ _ ⟨rfl, rfl⟩
 refine SL.val (Val.assign rfl) rfl rfl ?_
 refine SL.nil (SE.seq ?_)
 refine SC.seq (SC.region ?_)
 iterate 2 refine SL.val (Val.move rfl) rfl rfl ?_
 refine SL.call (pweakno_s (above := above)) Casts.refl (by kernel_rfl) rfl rfl rfl ?_
 refine ap_ ?_
 intro _
 refine SL.val (Val.move rfl) rfl rfl ?_
 refine SL.val (Val.extract rfl rfl) rfl rfl ?_
 refine SL.val (Val.extract rfl rfl) rfl rfl ?_
 refine SL.eff (Eff.alloc tabOk rfl) rfl rfl ?_
 rintro _ _ ⟨b12, rfl, rfl⟩
 refine SL.eff (Eff.store (L' := Pnt.zero.abs) tabOk rfl rfl rfl (by repeat first|assumption|exact Upd.here|apply Upd.there) (Pnt.size _) (lb_ (by rfl)) (Pnt.ones _) (by exact putL_whole (Pnt.size _))) rfl rfl ?_
 rintro _ _ ⟨rfl, rfl⟩
 refine SL.val (Val.assign rfl) rfl rfl ?_
 refine SL.nil (SE.seq ?_)
 refine SC.seq (SC.region ?_)
 refine SL.val (Val.move rfl) rfl rfl ?_
 refine SL.val (Val.to (C := .agg Pnt.zero.abs) (Val.buildS tabOk rfl rfl rfl rfl) rfl) rfl rfl ?_
 refine SL.call (pbytesno_s (x := Pnt.zero)) Casts.refl (by kernel_rfl) rfl rfl rfl ?_
 refine ap_ ?_
 intro _
 refine SL.val (Val.move rfl) rfl rfl ?_
 refine SL.val (Val.extract rfl rfl) rfl rfl ?_
 refine SL.val (Val.extract rfl rfl) rfl rfl ?_
 iterate 2 refine SL.val (Val.assign rfl) rfl rfl ?_
 refine SL.nil (SE.seq ?_)
 refine SC.seq (SC.region ?_)
 refine SL.val (Val.move rfl) rfl rfl ?_
 refine SL.val (Val.eqP rfl rfl (by kernel_rfl)) rfl rfl ?_
 iterate 2 refine SL.val (Val.move rfl) rfl rfl ?_
 refine SL.val (Val.notF rfl) rfl rfl ?_
 refine SL.val (Val.pickT rfl rfl) rfl rfl ?_
 iterate 2 refine SL.val (Val.move rfl) rfl rfl ?_
 refine SL.val (Val.notF rfl) rfl rfl ?_
 refine SL.val (Val.pickT rfl rfl) rfl rfl ?_
 iterate 2 refine SL.val (Val.move rfl) rfl rfl ?_
 refine SL.val (Val.notF rfl) rfl rfl ?_
 refine SL.val (Val.pickT rfl rfl) rfl rfl ?_
 iterate 2 refine SL.val (Val.move rfl) rfl rfl ?_
 refine SL.val (Val.to (C := .agg Pnt.zero.abs) (Val.buildS tabOk rfl rfl rfl rfl) rfl) rfl rfl ?_
 refine SL.call (pvoteno_s (who := 0) (x := Pnt.zero)) Casts.refl (by kernel_rfl) rfl rfl rfl ?_
 refine ap_ ?_
 intro _
 refine SL.val (Val.notF rfl) rfl rfl ?_
 refine SL.val (Val.pickT rfl rfl) rfl rfl ?_
 iterate 2 refine SL.val (Val.move rfl) rfl rfl ?_
 refine SL.val (Val.to (C := .agg Pnt.zero.abs) (Val.buildS tabOk rfl rfl rfl rfl) rfl) rfl rfl ?_
 refine SL.call (psupno_s (x := Pnt.zero)) Casts.refl (by kernel_rfl) rfl rfl rfl ?_
 refine ap_ ?_
 intro _
 refine SL.val (Val.move rfl) rfl rfl ?_
 refine SL.call (ptoldno_s) Casts.refl (by kernel_rfl) rfl rfl rfl ?_
 refine ap_ ?_
 intro _
 refine SL.val (Val.lenSl (m := 0) rfl Try.underlying40 rfl) rfl rfl ?_
 first
  | refine SL.val (Val.addI rfl rfl (by simp only [InR, lo, hi]; omega)) rfl rfl ?_
  | refine SL.val (Val.addW rfl rfl) rfl rfl ?_
 refine SL.val (Val.move rfl) rfl rfl ?_
 refine SL.call (pvotesno_s (who := 0)) Casts.refl (by kernel_rfl) rfl rfl rfl ?_
 refine ap_ ?_
 intro _
 refine SL.val (Val.lenSl (m := 0) rfl Try.underlying40 rfl) rfl rfl ?_
 first
  | refine SL.val (Val.addI rfl rfl (by simp only [InR, lo, hi]; omega)) rfl rfl ?_
  | refine SL.val (Val.addW rfl rfl) rfl rfl ?_
 refine SL.val (Val.to (C := boo true) (Val.eqI rfl rfl) (by simp)) rfl rfl ?_
 refine SL.val (Val.pickT rfl rfl) rfl rfl ?_
 refine SL.val (Val.assign rfl) rfl rfl ?_
 refine SL.nil (SE.seq ?_)
 refine SC.ret ?_
 refine SE.then_ nofun ?_
 refine SE.fin (rs := [.tmp 8]) rfl (RV.tmp rfl RV.nil) (()) (by repeat first|exact s0_ _|exact s1_ _|apply s2_|apply s3_) (by simp [It.rids]) ?_
 exact rfl
end
end Go.Proofs.Ytjbikemecdlolaa.A
/-
  The second engine: many pieces as one, at once; calls that change pieces in the midst, and read others.
-/
namespace Go.Proofs.Ytjbikemecdlolaa.A
open Go.RowKit

section
variable {xs ys : Blks} {x : It} {K : List Nat} {w : World}
end
end Go.Proofs.Ytjbikemecdlolaa.A
/-
  The second engine: maps of rows of the call's own: a row taken out, and put back; all of them as rows that are read.
-/
namespace Go.Proofs.Ytjbikemecdlolaa.A
open Go.RowKit

section
variable {xs ys zs : Blks} {x : It}
end
/-! ### Maps as lists of pairs -/
section
variable {α γ : Type} [DecidableEq α] {m : List (α × γ)} {a : α} {u : γ}
end
/-! ### The rows -/
section
variable {α β : Type} [DecidableEq α] {tm : List (α × (Value × β))} {a : α} {v : Value} {x z0 : β} {f : β → List (List Abs)} {T : TypeId} {s : Nat}
def rowD (tm : List (α × (Value × β))) (a : α) (z0 : β) : β := ((aget tm a).map (·.2)).getD z0
variable {P : Program} {n : Nat} {W : Wd} {σ : Blks} {l : Slots} {ops : Array Oper} {rest : List Oper} {Q : Exit → Act → World → Prop} {ix : Plan} {X : List Nat}
omit [DecidableEq α] in
/-- The pieces lie apart. -/
theorem SC.nod {c : Code} (k : (mids σ).Nodup → SC P c (St n W σ l) Q) : SC P c (St n W σ l) Q := fun a w h => k h.mem.nodup a w h
end
end Go.Proofs.Ytjbikemecdlolaa.A
/-
  PointsPlays: the walk.
-/
namespace Go.Proofs.Ytjbikemecdlolaa.A
open Go.RowKit

theorem pac_last (a : PAc) : a.abs[35]? = some (byt a.row) := by
  have h := a.x.size
  unfold PAc.abs
  rw [List.getElem?_cons_succ, List.getElem?_cons_succ, List.getElem?_append_right (by omega), h]
  rfl
theorem pac_dig (a : PAc) : Abs.agg (part a.abs 3 32) = .agg (digA a.x.dig) := by
  have h := digA_len a.x.len
  unfold A.part PAc.abs Pnt.abs
  rw [List.drop_succ_cons, List.drop_succ_cons, List.cons_append, List.drop_succ_cons, List.drop_zero, List.take_append_of_le_length (by omega), List.take_of_length_le (by omega)]
def acO (a : PAc) : Ow := ⟨a.x.dig, a.row, a.x.len⟩
theorem ow_aput_le {om : List (Int × Ow)} {k : Int} {o : Ow} : (aput om k o).length ≤ om.length + 1 := by
  rw [aput_length]
  split <;> omega
theorem ow_aput_all {om : List (Int × Ow)} {k : Int} {o : Ow} {p : Ow → Prop} (h : ∀ e ∈ om, p e.2) (ho : p o) : ∀ e ∈ aput om k o, p e.2 := fun e he => by
  unfold aput at he
  split at he
  · obtain ⟨e2, h2, rfl⟩ := List.mem_map.1 he
    split
    · exact ho
    · exact h _ h2
  · rcases List.mem_append.1 he with h2 | h2
    · exact h _ h2
    · rw [List.mem_singleton.1 h2]; exact ho
section
variable {n me : Nat} {om : List (Int × Ow)} {vs : List (List Pnt)} {who above at_ : Int} {x : Pnt}
theorem voteP_me (h : vs[me]? = some []) : (voteP n me vs who x).2[me]? = some [] := by
  unfold voteP
  split
  · exact h
  · split
    · rw [List.getElem?_set_ne (by omega)]; exact h
    · exact h
theorem best_in (hok : PtsOk n me om vs) : InR .i64 (ptO (bestF om vs (votesI n me om vs who) above at_)).seq := by
  cases h : bestF om vs (votesI n me om vs who) above at_ with
  | none => exact ⟨by decide, by decide⟩
  | some x => exact (votesI_in hok who).1 x (List.mem_reverse.1 (List.mem_of_find?_eq_some h))
theorem weak_in (hok : PtsOk n me om vs) (q : Nat) : InR .i64 (ptO (weakTo n me om vs above at_ q)).seq := by
  induction q with
  | zero => exact (⟨by decide, by decide⟩ : InR .i64 Pnt.zero.seq)
  | succ q ih =>
    rw [weakTo_succ]
    have h2 := best_in (who := (q : Int)) (above := above) (at_ := at_) hok
    revert ih h2
    cases bestF om vs (votesI n me om vs (q : Int)) above at_ with
    | none => intro h1 _; exact h1
    | some x =>
      cases weakTo n me om vs above at_ q with
      | none => intro _ h2; exact h2
      | some y =>
        intro h1 h2
        show InR .i64 (ptO (if y.seq < x.seq then some x else some y)).seq
        split
        · exact h2
        · exact h1
theorem told_mem {l : List Pnt} {x : Pnt} (h : x ∈ toldF l) : x ∈ l := by
  unfold toldF at h
  split at h
  · rcases List.mem_append.1 h with h | h
    · exact List.mem_of_mem_take h
    · exact List.mem_of_mem_drop h
  · exact h
theorem told_few (hok : PtsOk n me om vs) : (toldF (ownP om)).length ≤ 1000000 := by
  rw [← told_end]
  have h1 := toldTo_len (l := ownP om) (z := (ownP om).length)
  have h2 := ownP_length om
  have h3 := hok.om
  omega
theorem dV_new {n me : Nat} : dV me [] (List.replicate n []) = List.replicate n [] := by
  unfold dV
  refine List.ext_getElem (by simp) fun i h1 h2 => ?_
  rw [List.getElem_set]
  split
  · simp [ownP_def, srt]
  · rfl
theorem rows_new : rowsP [] = [] := by simp [rowsP_def, srt]
end
section
variable {n me : Nat} {above : Int} {l : List PAc}
set_option maxHeartbeats 8000000 in
theorem pplaysok_s (h1 : 1 ≤ n) (h7 : n ≤ 7) (hm : me < n) (hl : ∀ a ∈ l, PAcIn a) : Spec Try.prog 5 [int (n : Nat), int (me : Nat), .sl 36 (l.map PAc.abs), int above] [] (fun _ : Unit => []) (fun _ => boo true) := by
 refine spec_of Try.func5 rfl Try.ntmps5 rfl fun G w => ?_
 refine SC.seq (SC.region ?_)
 refine SL.val (Val.assign rfl) rfl rfl ?_
 refine SL.nil (SE.seq ?_)
 refine SC.seq ?_
 refine SC.seq (SC.region ?_)
 refine SL.call (pfixed_s) Casts.refl (by kernel_rfl) rfl rfl rfl ?_
 refine ap_ ?_
 intro _
 refine SL.val (Val.notT rfl) rfl rfl ?_
 refine SL.nil (SE.seq ?_)
 refine SC.condF rfl ?_
 refine SC.skip ?_
 refine SE.seq ?_
 refine SC.seq ?_
 refine SC.seq (SC.region ?_)
 refine SL.val (Val.move rfl) rfl rfl ?_
 first
  | refine SL.val (Val.lenSl rfl Try.underlying22 (List.length_map _)) rfl rfl ?_
  | refine SL.val (Val.lenOwn rfl (by repeat first|assumption|exact m0_|apply m1_) Try.underlying22 (List.length_map _)) rfl rfl ?_
  | refine SL.val (Val.lenNil rfl Try.underlying22) rfl rfl ?_
 refine SL.val (Val.gtI rfl rfl) rfl rfl ?_
 refine SL.nil (SE.seq ?_)
 refine SC.condP rfl ?_ ?_
 ·intro hc35
  refine SC.seq (SC.region ?_)
  refine SL.val (Val.assign rfl) rfl rfl ?_
  refine SL.nil (SE.seq ?_)
  refine SC.ret ?_
  refine SE.then_ nofun ?_
  refine SE.fin (rs := [.tmp 8]) rfl (RV.tmp rfl RV.nil) (()) (by repeat first|exact s0_ _|exact s1_ _|apply s2_|apply s3_) (by simp [It.rids]) ?_
  exact rfl
 intro hc35
 refine SC.skip ?_
 refine SE.seq ?_
 refine SC.seq (SC.region ?_)
 iterate 2 refine SL.val (Val.move rfl) rfl rfl ?_
 refine SL.call (pnew_s (n := n) (me := me) h1 h7 hm) Casts.refl (by kernel_rfl) rfl rfl rfl ?_
 refine After.sub _ (List.Perm.refl _) (by intro x hx; cases hx) ?_
 intro z0
 refine ⟨_, List.Perm.refl _, ?_⟩
 refine SL.val (Val.assign rfl) rfl rfl ?_
 refine SL.nil (SE.seq ?_)
 refine SC.seq ?_
 refine SC.seq (SC.region ?_)
 refine SL.val (Val.move rfl) rfl rfl ?_
 refine SL.val (Val.ltI rfl rfl) rfl rfl ?_
 refine SL.val (Val.move rfl) rfl rfl ?_
 refine SL.bothP (t := 41) rfl (by intro hc41; exfalso; omega) ?_
 intro hc41
 refine SL.val (Val.move rfl) rfl rfl ?_
 refine SL.val (Val.gtI rfl rfl) rfl rfl ?_
 refine SL.val (Val.pickF rfl rfl) rfl rfl ?_
 refine SL.val (Val.move rfl) rfl rfl ?_
 refine SL.bothP (t := 45) rfl (by intro hc45; exfalso; omega) ?_
 intro hc45
 refine SL.val (Val.move rfl) rfl rfl ?_
 refine SL.val (Val.ltI rfl rfl) rfl rfl ?_
 refine SL.val (Val.pickF rfl rfl) rfl rfl ?_
 refine SL.val (Val.move rfl) rfl rfl ?_
 refine SL.bothP (t := 49) rfl (by intro hc49; exfalso; omega) ?_
 intro hc49
 iterate 2 refine SL.val (Val.move rfl) rfl rfl ?_
 refine SL.val (Val.geI rfl rfl) rfl rfl ?_
 refine SL.val (Val.pickF rfl rfl) rfl rfl ?_
 refine SL.nil (SE.seq ?_)
 refine SC.condP rfl (by intro hc53; exfalso; omega) ?_
 intro hc53
 refine SC.skip ?_
 refine SE.seq ?_
 refine SC.seq (SC.region ?_)
 iterate 2 refine SL.val (Val.move rfl) rfl rfl ?_
 refine SL.call (dnew_s (n := n) (me := me) h7) Casts.refl (by kernel_rfl) rfl rfl rfl ?_
 refine After.sub _ (List.Perm.refl _) (by intro x hx; cases hx) ?_
 intro y0
 refine ⟨_, List.perm_append_comm, ?_⟩
 refine SL.val (Val.assign rfl) rfl rfl ?_
 refine SL.nil (SE.seq ?_)
 refine SC.seq ?_
 refine SC.seq (SC.region ?_)
 refine SL.val (Val.move rfl) rfl rfl ?_
 first
  | refine SL.val (Val.lenSl rfl Try.underlying22 (List.length_map _)) rfl rfl ?_
  | refine SL.val (Val.lenOwn rfl (by repeat first|assumption|exact m0_|apply m1_) Try.underlying22 (List.length_map _)) rfl rfl ?_
  | refine SL.val (Val.lenNil rfl Try.underlying22) rfl rfl ?_
 refine SL.val (Val.move rfl) rfl rfl ?_
 refine SL.nil (SE.seq ?_)
 refine SC.block ?_
 refine SC.loop (ι := Nat × List (Int × Ow) × List (List Pnt) × Value) (fun z => [.blk z0.1 57 [int (n : Nat), int (me : Nat), mapV z0.2.1, .v z0.2.2], own 40 1 z0.2.2 ((z.2.2.1).map fun l => [pntsA l]), .pc (tmPc z0.2.1 intK intOk Ow.enc z.2.1), .blk y0.1 53 [int (n : Nat), int (me : Nat), .v y0.2, .v (z.2.2.2)], own 40 1 y0.2 ((dV me z.2.1 z.2.2.1).map fun l => [pntsA l]), off_ 23 (z.2.2.2) ((rowsP z.2.1).map fun b => [byt b])]) (fun z => [(0, int (n : Nat)), (3, int above), (9, ptr z0.1), (16, ptr y0.1), (114, .sl 36 (l.map PAc.abs)), (115, int (l.length : Nat)), (116, int (z.1 : Nat))]) (fun z => z.1 ≤ l.length ∧ PtsOk n me z.2.1 z.2.2.1 ∧ z.2.2.1[me]? = some [] ∧ z.2.1.length ≤ z.1 ∧ ∀ e ∈ z.2.1, e.2.b.length ≤ 50) (fun z => l.length - z.1) (0, [], List.replicate n [], .slice none 0 0) (⟨Nat.zero_le _, PtsOk.new h1 h7 hm, by rw [List.getElem?_replicate, if_pos hm], Nat.zero_le _, by intro e he; cases he⟩) (by exact ⟨rfl, rfl, rfl, rfl, rfl, rfl, rfl, trivial⟩) (by dsimp only; rw [dV_new, rows_new]; repeat (first | exact List.nil_sublist _ | exact List.Sublist.refl _ | apply List.Sublist.cons_cons | apply List.Sublist.cons)) ?_
 intro z hz
 refine SC.seq (SC.region ?_)
 refine SL.val (Val.ltI rfl rfl) rfl rfl ?_
 refine SL.nil (SE.seq ?_)
 refine SC.seq ?_
 refine SC.condP rfl ?_ ?_
 rotate_left
 ·intro hc117
  refine SC.exit ?_
  refine SE.then_ nofun ?_
  refine SE.then_ nofun ?_
  refine SE.exit ?_
  refine SE.seq ?_
  refine SC.seq (SC.region ?_)
  refine SL.val (Val.assign rfl) rfl rfl ?_
  refine SL.nil (SE.seq ?_)
  refine SC.ret ?_
  refine SE.fin (rs := [.tmp 8]) rfl (RV.tmp rfl RV.nil) (()) (by repeat first|exact s0_ _|exact s1_ _|apply s2_|apply s3_) (by simp [It.rids]) ?_
  exact rfl
 intro hc117
 have hlt : z.1 < l.length := by omega
 refine SC.skip ?_
 refine SE.seq ?_
 refine SC.seq ?_
 refine SC.block ?_
 refine SC.seq (SC.region ?_)
 refine SL.val (Val.indexSl tabOk Try.underlying22 rfl rfl rfl rfl (at_map (by omega)) rfl rfl) rfl rfl ?_
 refine SL.val (Val.loadAR tabOk rfl rfl rfl (PAc.size _)) rfl rfl ?_
 refine SL.eff (Eff.alloc tabOk rfl) rfl rfl ?_
 rintro _ _ ⟨b18, rfl, rfl⟩
 refine SL.eff (Eff.store (L' := (l[z.1]'hlt).abs) tabOk rfl rfl rfl (by repeat first|assumption|exact Upd.here|apply Upd.there) (PAc.size _) (lb_ (by rfl)) (PAc.ones _) (by exact putL_whole (PAc.size _))) rfl rfl ?_
 rintro _ _ ⟨rfl, rfl⟩
 refine SL.nil (SE.seq ?_)
 refine SC.seq ?_
 refine SC.seq (SC.region ?_)
 refine SL.val (Val.fieldAddr tabOk rfl rfl rfl rfl rfl) rfl rfl ?_
 refine SL.val (Val.to (C := byt (l[z.1]'hlt).row) (Val.load1 tabOk rfl rfl (by repeat first|assumption|exact o0_|exact o1_|apply o2_) List.not_mem_nil (pac_last _)) rfl) rfl rfl ?_
 first
  | refine SL.val (Val.lenSl rfl Try.underlying23 (List.length_map _)) rfl rfl ?_
  | refine SL.val (Val.lenOwn rfl (by repeat first|assumption|exact m0_|apply m1_) Try.underlying23 (List.length_map _)) rfl rfl ?_
  | refine SL.val (Val.lenNil rfl Try.underlying23) rfl rfl ?_
 refine SL.val (Val.gtI rfl rfl) rfl rfl ?_
 refine SL.nil (SE.seq ?_)
 refine SC.condP rfl ?_ ?_
 ·intro hc123
  refine SC.seq (SC.region ?_)
  refine SL.val (Val.assign rfl) rfl rfl ?_
  refine SL.nil (SE.seq ?_)
  refine SC.ret ?_
  refine SE.then_ nofun ?_
  refine SE.ret ?_
  refine SE.then_ nofun ?_
  refine SE.then_ nofun ?_
  refine SE.ret ?_
  refine SE.then_ nofun ?_
  refine SE.fin (rs := [.tmp 8]) rfl (RV.tmp rfl RV.nil) (()) (by repeat first|exact s0_ _|exact s1_ _|apply s2_|apply s3_) (by simp [It.rids]) ?_
  exact rfl
 intro hc123
 refine SC.skip ?_
 refine SE.seq ?_
 refine SC.cutS (ι := Nat × List (Int × Ow) × List (List Pnt) × Value) (fun q => [.blk q.1 32 (l[z.1]'hlt).abs, .blk z0.1 57 [int (n : Nat), int (me : Nat), mapV z0.2.1, .v z0.2.2], own 40 1 z0.2.2 ((q.2.2.1).map fun l => [pntsA l]), .pc (tmPc z0.2.1 intK intOk Ow.enc q.2.1), .blk y0.1 53 [int (n : Nat), int (me : Nat), .v y0.2, .v (q.2.2.2)], own 40 1 y0.2 ((dV me q.2.1 q.2.2.1).map fun l => [pntsA l]), off_ 23 (q.2.2.2) ((rowsP q.2.1).map fun b => [byt b])]) (fun q => [(0, int (n : Nat)), (3, int above), (9, ptr z0.1), (16, ptr y0.1), (114, .sl 36 (l.map PAc.abs)), (115, int (l.length : Nat)), (116, int (z.1 : Nat)), (18, ptr q.1)]) (fun q => PtsOk n me q.2.1 q.2.2.1 ∧ q.2.2.1[me]? = some [] ∧ q.2.1.length ≤ z.1 + 1 ∧ ∀ e ∈ q.2.1, e.2.b.length ≤ 50) ?_ ?_
 ·skip
  refine SC.seq (SC.region ?_)
  refine SL.val (Val.fieldAddr tabOk rfl rfl rfl rfl rfl) rfl rfl ?_
  refine SL.val (Val.to (C := .v (bc (l[z.1]'hlt).kind)) (Val.load1 tabOk rfl rfl (by repeat first|assumption|exact o0_|exact o1_|apply o2_) List.not_mem_nil (by rfl)) rfl) rfl rfl ?_
  first
   | refine SL.val (Val.remI rfl rfl (by omega)) rfl rfl ?_
   | refine SL.val (Val.remT rfl rfl (by omega)) rfl rfl ?_
  refine SL.nil (SE.seq ?_)
  refine SC.block ?_
  refine SC.seq (SC.region ?_)
  refine SL.val (Val.eqI rfl rfl) rfl rfl ?_
  refine SL.val (Val.assign rfl) rfl rfl ?_
  refine SL.nil (SE.seq ?_)
  refine SC.condP rfl ?_ ?_
  ·intro hc127
   refine SC.seq (SC.region ?_)
   refine SL.val (Val.move rfl) rfl rfl ?_
   refine SL.val (Val.fieldAddr tabOk rfl rfl rfl rfl rfl) rfl rfl ?_
   refine SL.val (Val.fieldAddr tabOk rfl rfl rfl rfl rfl) rfl rfl ?_
   refine SL.val (Val.to (C := int (l[z.1]'hlt).x.seq) (Val.load1 tabOk rfl rfl (by repeat first|assumption|exact o0_|exact o1_|apply o2_) List.not_mem_nil (by rfl)) rfl) rfl rfl ?_
   refine SL.val (Val.fieldAddr tabOk rfl rfl rfl rfl rfl) rfl rfl ?_
   refine SL.val (Val.fieldAddr tabOk rfl rfl rfl rfl rfl) rfl rfl ?_
   refine SL.val (Val.to (C := .agg (digA (l[z.1]'hlt).x.dig)) (Val.loadP tabOk rfl rfl rfl (by repeat first|assumption|exact o0_|exact o1_|apply o2_) List.not_mem_nil (by show 3 + 32 ≤ (l[z.1]'hlt).abs.length; rw [PAc.size]; omega)) (by exact pac_dig _)) rfl rfl ?_
   refine SL.val (Val.fieldAddr tabOk rfl rfl rfl rfl rfl) rfl rfl ?_
   refine SL.val (Val.to (C := byt (l[z.1]'hlt).row) (Val.load1 tabOk rfl rfl (by repeat first|assumption|exact o0_|exact o1_|apply o2_) List.not_mem_nil (pac_last _)) rfl) rfl rfl ?_
   refine SL.call (pown_s (n := n) (me := me) (om := z.2.1) (vs := z.2.2.1) (bp := z0.1) (bm := z0.2.1) (vv := z0.2.2) (k := (l[z.1]'hlt).x.seq) (o := acO (l[z.1]'hlt)) (hl _ (List.getElem_mem hlt)).seq (by show (l[z.1]'hlt).row.length ≤ 1000000; omega)) Casts.refl (by kernel_rfl) rfl rfl rfl ?_
   refine After.mid [_] (β := [_, _, _]) rfl (by intro x hx; simp only [List.mem_cons, List.not_mem_nil, or_false] at hx; rcases hx with rfl | rfl | rfl <;> rfl) ?_
   intro _
   refine SL.nil (SE.seq ?_)
   refine SC.region ?_
   refine SL.val (Val.move rfl) rfl rfl ?_
   refine SL.val (Val.fieldAddr tabOk rfl rfl rfl rfl rfl) rfl rfl ?_
   refine SL.val (Val.fieldAddr tabOk rfl rfl rfl rfl rfl) rfl rfl ?_
   refine SL.val (Val.to (C := int (l[z.1]'hlt).x.seq) (Val.load1 tabOk rfl rfl (by repeat first|assumption|exact o0_|exact o1_|apply o2_) List.not_mem_nil (by rfl)) rfl) rfl rfl ?_
   refine SL.val (Val.fieldAddr tabOk rfl rfl rfl rfl rfl) rfl rfl ?_
   refine SL.val (Val.fieldAddr tabOk rfl rfl rfl rfl rfl) rfl rfl ?_
   refine SL.val (Val.to (C := .agg (digA (l[z.1]'hlt).x.dig)) (Val.loadP tabOk rfl rfl rfl (by repeat first|assumption|exact o0_|exact o1_|apply o2_) List.not_mem_nil (by show 3 + 32 ≤ (l[z.1]'hlt).abs.length; rw [PAc.size]; omega)) (by exact pac_dig _)) rfl rfl ?_
   refine SL.val (Val.fieldAddr tabOk rfl rfl rfl rfl rfl) rfl rfl ?_
   refine SL.val (Val.to (C := byt (l[z.1]'hlt).row) (Val.load1 tabOk rfl rfl (by repeat first|assumption|exact o0_|exact o1_|apply o2_) List.not_mem_nil (pac_last _)) rfl) rfl rfl ?_
   refine SL.call (down_s (n := n) (me := me) (om := z.2.1) (vs := z.2.2.1) (bp := y0.1) (ov := y0.2) (rv := z.2.2.2) (k := (l[z.1]'hlt).x.seq) (o := acO (l[z.1]'hlt)) hz.2.1 hz.2.2.1 (hl _ (List.getElem_mem hlt)).seq (by show (l[z.1]'hlt).row.length ≤ 100000; omega)) Casts.refl (by kernel_rfl) rfl rfl rfl ?_
   refine After.mid [_, _, _, _] (β := []) rfl (by intro x hx; simp only [List.mem_cons, List.not_mem_nil, or_false] at hx; rcases hx with rfl | rfl | rfl <;> rfl) ?_
   intro w1
   refine SL.nil ?_
   refine SE.inBlock ?_
   refine SE.meet (b18, aput z.2.1 (l[z.1]'hlt).x.seq (acO (l[z.1]'hlt)), z.2.2.1, w1) (⟨hz.2.1.own (hl _ (List.getElem_mem hlt)).seq _ (by omega), hz.2.2.1, Nat.le_trans ow_aput_le (by omega), ow_aput_all (p := fun o => o.b.length ≤ 50) hz.2.2.2.2 (by show (l[z.1]'hlt).row.length ≤ 50; omega)⟩) (by exact ⟨rfl, rfl, rfl, rfl, rfl, rfl, rfl, rfl, trivial⟩) (by repeat first|exact s0_ _|exact s1_ _|apply s2_|apply s3_)
  intro hc127
  refine SC.seq (SC.region ?_)
  refine SL.val (Val.eqI rfl rfl) rfl rfl ?_
  refine SL.val (Val.assign rfl) rfl rfl ?_
  refine SL.nil (SE.seq ?_)
  refine SC.condP rfl ?_ ?_
  ·intro hc149
   refine SC.seq ?_
   refine SC.nod fun hnod => ?_
   have hbx : b18 ∉ mids [.blk z0.1 57 [int (n : Nat), int (me : Nat), mapV z0.2.1, .v z0.2.2], own 40 1 z0.2.2 ((z.2.2.1).map fun l => [pntsA l]), .pc (tmPc z0.2.1 intK intOk Ow.enc z.2.1), .blk y0.1 53 [int (n : Nat), int (me : Nat), .v y0.2, .v (z.2.2.2)], own 40 1 y0.2 ((dV me z.2.1 z.2.2.1).map fun l => [pntsA l]), off_ 23 (z.2.2.2) ((rowsP z.2.1).map fun b => [byt b])] := (List.nodup_cons.1 hnod).1
   refine SC.draw (mids [.blk z0.1 57 [int (n : Nat), int (me : Nat), mapV z0.2.1, .v z0.2.2], own 40 1 z0.2.2 ((z.2.2.1).map fun l => [pntsA l]), .pc (tmPc z0.2.1 intK intOk Ow.enc z.2.1), .blk y0.1 53 [int (n : Nat), int (me : Nat), .v y0.2, .v (z.2.2.2)], own 40 1 y0.2 ((dV me z.2.1 z.2.2.1).map fun l => [pntsA l]), off_ 23 (z.2.2.2) ((rowsP z.2.1).map fun b => [byt b])]) (.q 0 (.q 1 (.q 2 (.q 3 (.q 4 (.q 6 (.q 7 (.q 8 (.q 9 (.q 10 (.e 5 (.e 11 (.q 12 .nil))))))))))))) (by kernel_rfl) (by kernel_rfl) ?_
   refine SX.hx (by first|(simp[mids,It.mids,ownPc];done)|(intro k hk;simp[mids,It.mids,ownPc] at hk ⊢;grind)) fun hx9 => ?_
   refine SX.val rfl (Val.move rfl) hx9 rfl rfl ?_
   refine SX.val rfl (Val.fieldAddr tabOk rfl rfl rfl rfl rfl) hx9 rfl rfl ?_
   refine SX.val rfl (Val.to (C := int (l[z.1]'hlt).who) (Val.load1 tabOk rfl rfl (by repeat first|assumption|exact o0_|exact o1_|apply o2_) hbx (by rfl)) rfl) hx9 rfl rfl ?_
   refine SX.val rfl (Val.fieldAddr tabOk rfl rfl rfl rfl rfl) hx9 rfl rfl ?_
   refine SX.val rfl (Val.to (C := .agg (l[z.1]'hlt).x.abs) (Val.loadP tabOk rfl rfl rfl (by repeat first|assumption|exact o0_|exact o1_|apply o2_) hbx (by show 2 + 33 ≤ (l[z.1]'hlt).abs.length; rw [PAc.size]; omega)) (by exact PAc.part _)) hx9 rfl rfl ?_
   refine SX.val rfl (Val.move rfl) hx9 rfl rfl ?_
   refine SX.val rfl (Val.fieldAddr tabOk rfl rfl rfl rfl rfl) hx9 rfl rfl ?_
   refine SX.val rfl (Val.to (C := int (l[z.1]'hlt).who) (Val.load1 tabOk rfl rfl (by repeat first|assumption|exact o0_|exact o1_|apply o2_) hbx (by rfl)) rfl) hx9 rfl rfl ?_
   refine SX.val rfl (Val.fieldAddr tabOk rfl rfl rfl rfl rfl) hx9 rfl rfl ?_
   refine SX.val rfl (Val.to (C := .agg (l[z.1]'hlt).x.abs) (Val.loadP tabOk rfl rfl rfl (by repeat first|assumption|exact o0_|exact o1_|apply o2_) hbx (by show 2 + 33 ≤ (l[z.1]'hlt).abs.length; rw [PAc.size]; omega)) (by exact PAc.part _)) hx9 rfl rfl ?_
   refine SX.callX (mids [.blk y0.1 53 [int (n : Nat), int (me : Nat), .v y0.2, .v (z.2.2.2)], own 40 1 y0.2 ((dV me z.2.1 z.2.2.1).map fun l => [pntsA l]), off_ 23 (z.2.2.2) ((rowsP z.2.1).map fun b => [byt b])]) rfl (pvote_s (n := n) (me := me) (om := z.2.1) (vs := z.2.2.1) (bp := z0.1) (bm := z0.2.1) (vv := z0.2.2) (who := (l[z.1]'hlt).who) (x := (l[z.1]'hlt).x) hz.2.1 (hl _ (List.getElem_mem hlt)).seq) (fun k hk => (mids_sub (by repeat first|exact s0_ _|exact s1_ _|apply s2_|apply s3_)).subset hk) (fun k hk => (mids_sub (by repeat first|exact s0_ _|exact s1_ _|apply s2_|apply s3_)).subset hk) Casts.refl (by kernel_rfl) rfl rfl rfl ?_
   refine After.mid [_] (β := [_, _, _]) rfl (by intro x hx; simp only [List.mem_cons, List.not_mem_nil, or_false] at hx; rcases hx with rfl | rfl | rfl <;> rfl) ?_
   intro _
   refine SX.callX ([]) rfl (dvote_s (n := n) (me := me) (om := z.2.1) (vs := z.2.2.1) (bp := y0.1) (ov := y0.2) (rv := z.2.2.2) (who := (l[z.1]'hlt).who) (x := (l[z.1]'hlt).x) hz.2.1 hz.2.2.1 (hl _ (List.getElem_mem hlt)).seq) (fun k hk => (mids_sub (by repeat first|exact s0_ _|exact s1_ _|apply s2_|apply s3_)).subset hk) (by simp) Casts.refl (by kernel_rfl) rfl rfl rfl ?_
   refine After.mid [_, _, _, _] (β := []) rfl (by intro x hx; simp only [List.mem_cons, List.not_mem_nil, or_false] at hx; rcases hx with rfl | rfl | rfl <;> rfl) ?_
   intro _
   refine SX.hx (by first|(simp[mids,It.mids,ownPc];done)|(intro k hk;simp[mids,It.mids,ownPc] at hk ⊢;grind)) fun hx9 => ?_
   refine SX.val rfl (Val.to (C := boo false) (Val.neB rfl rfl (by kernel_rfl)) (by simp)) hx9 rfl rfl ?_
   refine SX.nil (SE.seq ?_)
   refine SC.condF rfl ?_
   refine SC.skip ?_
   refine SE.inBlock ?_
   refine SE.meet (b18, z.2.1, (voteP n me z.2.2.1 (l[z.1]'hlt).who (l[z.1]'hlt).x).2, z.2.2.2) (⟨hz.2.1.voteP (hl _ (List.getElem_mem hlt)).seq, voteP_me hz.2.2.1, by dsimp only; omega, hz.2.2.2.2⟩) (by exact ⟨rfl, rfl, rfl, rfl, rfl, rfl, rfl, rfl, trivial⟩) (by repeat first|exact s0_ _|exact s1_ _|apply s2_|apply s3_)
  intro hc149
  refine SC.seq (SC.region ?_)
  refine SL.val (Val.eqI rfl rfl) rfl rfl ?_
  refine SL.val (Val.assign rfl) rfl rfl ?_
  refine SL.nil (SE.seq ?_)
  refine SC.condP rfl ?_ ?_
  rotate_left
  ·intro hc164
   refine SC.skip ?_
   refine SE.inBlock ?_
   refine SE.meet (b18, z.2.1, z.2.2.1, z.2.2.2) (⟨hz.2.1, hz.2.2.1, by dsimp only; omega, hz.2.2.2.2⟩) (by exact ⟨rfl, rfl, rfl, rfl, rfl, rfl, rfl, rfl, trivial⟩) (by repeat first|exact s0_ _|exact s1_ _|apply s2_|apply s3_)
  intro hc164
  refine SC.seq (SC.region ?_)
  refine SL.val (Val.move rfl) rfl rfl ?_
  refine SL.val (Val.fieldAddr tabOk rfl rfl rfl rfl rfl) rfl rfl ?_
  refine SL.val (Val.fieldAddr tabOk rfl rfl rfl rfl rfl) rfl rfl ?_
  refine SL.val (Val.to (C := int (l[z.1]'hlt).x.seq) (Val.load1 tabOk rfl rfl (by repeat first|assumption|exact o0_|exact o1_|apply o2_) List.not_mem_nil (by rfl)) rfl) rfl rfl ?_
  refine SL.call (pmove_s (n := n) (me := me) (om := z.2.1) (vs := z.2.2.1) (bp := z0.1) (bm := z0.2.1) (vv := z0.2.2) (low := (l[z.1]'hlt).x.seq) hz.2.1) Casts.refl (by kernel_rfl) rfl rfl rfl ?_
  refine After.mid [_] (β := [_, _, _]) rfl (by intro x hx; simp only [List.mem_cons, List.not_mem_nil, or_false] at hx; rcases hx with rfl | rfl | rfl <;> rfl) ?_
  intro _
  refine SL.nil (SE.seq ?_)
  refine SC.region ?_
  refine SL.val (Val.move rfl) rfl rfl ?_
  refine SL.val (Val.fieldAddr tabOk rfl rfl rfl rfl rfl) rfl rfl ?_
  refine SL.val (Val.fieldAddr tabOk rfl rfl rfl rfl rfl) rfl rfl ?_
  refine SL.val (Val.to (C := int (l[z.1]'hlt).x.seq) (Val.load1 tabOk rfl rfl (by repeat first|assumption|exact o0_|exact o1_|apply o2_) List.not_mem_nil (by rfl)) rfl) rfl rfl ?_
  refine SL.call (dmove_s (n := n) (me := me) (om := z.2.1) (vs := z.2.2.1) (bp := y0.1) (ov := y0.2) (rv := z.2.2.2) (low := (l[z.1]'hlt).x.seq) hz.2.1 hz.2.2.1) Casts.refl (by kernel_rfl) rfl rfl rfl ?_
  refine After.mid [_, _, _, _] (β := []) rfl (by intro x hx; simp only [List.mem_cons, List.not_mem_nil, or_false] at hx; rcases hx with rfl | rfl | rfl <;> rfl) ?_
  intro w1
  refine SL.nil ?_
  refine SE.inBlock ?_
  refine SE.meet (b18, (z.2.1.filter fun e => !decide (e.1 < (l[z.1]'hlt).x.seq)), z.2.2.1, w1) (⟨hz.2.1.move _, hz.2.2.1, Nat.le_trans (List.length_filter_le ..) (by omega), fun e he => hz.2.2.2.2 e ((List.mem_filter.1 he).1)⟩) (by exact ⟨rfl, rfl, rfl, rfl, rfl, rfl, rfl, rfl, trivial⟩) (by repeat first|exact s0_ _|exact s1_ _|apply s2_|apply s3_)
 ·intro q hq
  obtain ⟨b18, om, vs, rv⟩ := q
  dsimp only at hq ⊢
  refine SC.seq (SC.region ?_)
  iterate 2 refine SL.val (Val.move rfl) rfl rfl ?_
  refine SL.call (pstable_s (n := n) (me := me) (om := om) (vs := vs) (bp := z0.1) (bm := z0.2.1) (vv := z0.2.2) (above := above) hq.1) Casts.refl (by kernel_rfl) rfl rfl rfl ?_
  refine ap_ ?_
  intro _
  refine SL.val (Val.move rfl) rfl rfl ?_
  refine SL.val (Val.extract rfl rfl) rfl rfl ?_
  refine SL.val (Val.extract rfl rfl) rfl rfl ?_
  refine SL.eff (Eff.alloc tabOk rfl) rfl rfl ?_
  rintro _ _ ⟨b19, rfl, rfl⟩
  refine SL.eff (Eff.store (L' := (ptO (bestF om vs (votesI n me om vs (me : Nat)) above (2 * ((max (n : Int) 1 - 1) / 3) + 1))).abs) tabOk rfl rfl rfl (by repeat first|assumption|exact Upd.here|apply Upd.there) (Pnt.size _) (lb_ (by rfl)) (Pnt.ones _) (by exact putL_whole (Pnt.size _))) rfl rfl ?_
  rintro _ _ ⟨rfl, rfl⟩
  refine SL.val (Val.assign rfl) rfl rfl ?_
  refine SL.nil (SE.seq ?_)
  refine SC.seq (SC.region ?_)
  iterate 2 refine SL.val (Val.move rfl) rfl rfl ?_
  refine SL.call (dstable_s (n := n) (me := me) (om := om) (vs := vs) (bp := y0.1) (ov := y0.2) (rv := rv) (above := above) hq.1 hq.2.1) Casts.refl (by kernel_rfl) rfl rfl rfl ?_
  refine ap_ ?_
  intro _
  refine SL.val (Val.move rfl) rfl rfl ?_
  refine SL.val (Val.extract rfl rfl) rfl rfl ?_
  refine SL.val (Val.extract rfl rfl) rfl rfl ?_
  refine SL.eff (Eff.alloc tabOk rfl) rfl rfl ?_
  rintro _ _ ⟨b21, rfl, rfl⟩
  refine SL.eff (Eff.store (L' := (ptO (bestF om vs (votesI n me om vs (me : Nat)) above (2 * ((max (n : Int) 1 - 1) / 3) + 1))).abs) tabOk rfl rfl rfl (by repeat first|assumption|exact Upd.here|apply Upd.there) (Pnt.size _) (lb_ (by rfl)) (Pnt.ones _) (by exact putL_whole (Pnt.size _))) rfl rfl ?_
  rintro _ _ ⟨rfl, rfl⟩
  refine SL.val (Val.assign rfl) rfl rfl ?_
  refine SL.nil (SE.seq ?_)
  refine SC.seq (SC.region ?_)
  iterate 2 refine SL.val (Val.move rfl) rfl rfl ?_
  refine SL.call (pweak_s (n := n) (me := me) (om := om) (vs := vs) (bp := z0.1) (bm := z0.2.1) (vv := z0.2.2) (above := above) hq.1) Casts.refl (by kernel_rfl) rfl rfl rfl ?_
  refine ap_ ?_
  intro _
  refine SL.val (Val.move rfl) rfl rfl ?_
  refine SL.val (Val.extract rfl rfl) rfl rfl ?_
  refine SL.val (Val.extract rfl rfl) rfl rfl ?_
  refine SL.eff (Eff.alloc tabOk rfl) rfl rfl ?_
  rintro _ _ ⟨b23, rfl, rfl⟩
  refine SL.eff (Eff.store (L' := (ptO (weakTo n me om vs above ((max (n : Int) 1 - 1) / 3 + 1) n)).abs) tabOk rfl rfl rfl (by repeat first|assumption|exact Upd.here|apply Upd.there) (Pnt.size _) (lb_ (by rfl)) (Pnt.ones _) (by exact putL_whole (Pnt.size _))) rfl rfl ?_
  rintro _ _ ⟨rfl, rfl⟩
  refine SL.val (Val.assign rfl) rfl rfl ?_
  refine SL.nil (SE.seq ?_)
  refine SC.seq (SC.region ?_)
  iterate 2 refine SL.val (Val.move rfl) rfl rfl ?_
  refine SL.call (dweak_s (n := n) (me := me) (om := om) (vs := vs) (bp := y0.1) (ov := y0.2) (rv := rv) (above := above) hq.1 hq.2.1) Casts.refl (by kernel_rfl) rfl rfl rfl ?_
  refine ap_ ?_
  intro _
  refine SL.val (Val.move rfl) rfl rfl ?_
  refine SL.val (Val.extract rfl rfl) rfl rfl ?_
  refine SL.val (Val.extract rfl rfl) rfl rfl ?_
  refine SL.eff (Eff.alloc tabOk rfl) rfl rfl ?_
  rintro _ _ ⟨b25, rfl, rfl⟩
  refine SL.eff (Eff.store (L' := (ptO (weakTo n me om vs above ((max (n : Int) 1 - 1) / 3 + 1) n)).abs) tabOk rfl rfl rfl (by repeat first|assumption|exact Upd.here|apply Upd.there) (Pnt.size _) (lb_ (by rfl)) (Pnt.ones _) (by exact putL_whole (Pnt.size _))) rfl rfl ?_
  rintro _ _ ⟨rfl, rfl⟩
  refine SL.val (Val.assign rfl) rfl rfl ?_
  refine SL.nil (SE.seq ?_)
  refine SC.seq (SC.region ?_)
  refine SL.val (Val.move rfl) rfl rfl ?_
  refine SL.val (Val.fieldAddr tabOk rfl rfl rfl rfl rfl) rfl rfl ?_
  refine SL.val (Val.to (C := .agg (l[z.1]'hlt).x.abs) (Val.loadP tabOk rfl rfl rfl (by repeat first|assumption|exact o0_|exact o1_|apply o2_) List.not_mem_nil (by show 2 + 33 ≤ (l[z.1]'hlt).abs.length; rw [PAc.size]; omega)) (by exact PAc.part _)) rfl rfl ?_
  refine SL.call (pbytes_s (n := n) (me := me) (om := om) (vs := vs) (bp := z0.1) (bm := z0.2.1) (vv := z0.2.2) (x := (l[z.1]'hlt).x) hq.1 (hl _ (List.getElem_mem hlt)).seq (fun e he => Nat.le_trans (hq.2.2.2 e he) (by decide))) Casts.refl (by kernel_rfl) rfl rfl rfl ?_
  refine ap_ ?_
  intro _
  refine SL.val (Val.move rfl) rfl rfl ?_
  refine SL.val (Val.extract rfl rfl) rfl rfl ?_
  refine SL.val (Val.extract rfl rfl) rfl rfl ?_
  iterate 2 refine SL.val (Val.assign rfl) rfl rfl ?_
  refine SL.nil (SE.seq ?_)
  refine SC.seq (SC.region ?_)
  refine SL.val (Val.move rfl) rfl rfl ?_
  refine SL.val (Val.fieldAddr tabOk rfl rfl rfl rfl rfl) rfl rfl ?_
  refine SL.val (Val.to (C := .agg (l[z.1]'hlt).x.abs) (Val.loadP tabOk rfl rfl rfl (by repeat first|assumption|exact o0_|exact o1_|apply o2_) List.not_mem_nil (by show 2 + 33 ≤ (l[z.1]'hlt).abs.length; rw [PAc.size]; omega)) (by exact PAc.part _)) rfl rfl ?_
  refine SL.call (dbytes_s (n := n) (me := me) (om := om) (vs := vs) (bp := y0.1) (ov := y0.2) (rv := rv) (x := (l[z.1]'hlt).x) hq.1 hq.2.1 (hl _ (List.getElem_mem hlt)).seq) Casts.refl (by kernel_rfl) rfl rfl rfl ?_
  refine ap_ ?_
  intro _
  refine SL.val (Val.move rfl) rfl rfl ?_
  refine SL.val (Val.extract rfl rfl) rfl rfl ?_
  refine SL.val (Val.extract rfl rfl) rfl rfl ?_
  iterate 2 refine SL.val (Val.assign rfl) rfl rfl ?_
  refine SL.nil (SE.seq ?_)
  refine SC.seq ?_
  refine SC.seq ?_
  refine SC.draw [] (.q 0 (.q 1 (.q 2 (.q 3 (.q 4 (.q 5 (.q 6 (.q 7 (.q 8 (.q 9 (.q 10 (.q 11 (.q 12 (.q 13 (.q 14 (.q 15 (.q 16 (.q 17 (.q 18 (.q 19 (.q 20 (.q 21 (.q 22 (.q 23 (.q 24 (.q 25 (.q 26 (.q 27 (.q 28 (.q 29 (.q 30 (.q 31 (.q 32 (.q 33 (.q 35 (.q 36 (.q 37 (.e 34 (.e 38 (.q 39 (.q 40 (.q 41 (.q 42 (.q 44 (.e 43 (.e 45 (.e 46 (.q 47 (.q 48 .nil))))))))))))))))))))))))))))))))))))))))))))))))) (by kernel_rfl) (by kernel_rfl) ?_
  refine SX.hx (by first|(simp[mids,It.mids,ownPc];done)|(intro k hk;simp[mids,It.mids,ownPc] at hk ⊢;grind)) fun hx9 => ?_
  refine SX.val rfl (Val.to (C := .agg (ptO (bestF om vs (votesI n me om vs (me : Nat)) above (2 * ((max (n : Int) 1 - 1) / 3) + 1))).abs) (Val.loadA tabOk rfl rfl rfl (by repeat first|assumption|exact o0_|exact o1_|apply o2_) List.not_mem_nil (Pnt.size _)) rfl) hx9 rfl rfl ?_
  refine SX.val rfl (Val.to (C := .agg (ptO (bestF om vs (votesI n me om vs (me : Nat)) above (2 * ((max (n : Int) 1 - 1) / 3) + 1))).abs) (Val.loadA tabOk rfl rfl rfl (by repeat first|assumption|exact o0_|exact o1_|apply o2_) List.not_mem_nil (Pnt.size _)) rfl) hx9 rfl rfl ?_
  refine SX.val rfl (Val.to (C := boo false) (Val.neA rfl rfl (pnt_plains _) (pnt_plains _) (by kernel_rfl) (neqP (best_in hq.1) (best_in hq.1))) (by simp)) hx9 rfl rfl ?_
  refine SX.val rfl (Val.move rfl) (by simp) rfl rfl ?_
  refine SX.val rfl (Val.move rfl) (by simp) rfl rfl ?_
  refine SX.val rfl (Val.move rfl) (by simp) rfl rfl ?_
  refine SX.val rfl (Val.to (C := boo false) (Val.neB rfl rfl (by kernel_rfl)) (by simp)) hx9 rfl rfl ?_
  refine SX.val rfl (Val.pickF rfl rfl) (by simp) rfl rfl ?_
  refine SX.val rfl (Val.move rfl) (by simp) rfl rfl ?_
  refine SX.val rfl (Val.to (C := .agg (ptO (weakTo n me om vs above ((max (n : Int) 1 - 1) / 3 + 1) n)).abs) (Val.loadA tabOk rfl rfl rfl (by repeat first|assumption|exact o0_|exact o1_|apply o2_) List.not_mem_nil (Pnt.size _)) rfl) hx9 rfl rfl ?_
  refine SX.val rfl (Val.to (C := .agg (ptO (weakTo n me om vs above ((max (n : Int) 1 - 1) / 3 + 1) n)).abs) (Val.loadA tabOk rfl rfl rfl (by repeat first|assumption|exact o0_|exact o1_|apply o2_) List.not_mem_nil (Pnt.size _)) rfl) hx9 rfl rfl ?_
  refine SX.val rfl (Val.to (C := boo false) (Val.neA rfl rfl (pnt_plains _) (pnt_plains _) (by kernel_rfl) (neqP (weak_in hq.1 n) (weak_in hq.1 n))) (by simp)) hx9 rfl rfl ?_
  refine SX.val rfl (Val.pickF rfl rfl) (by simp) rfl rfl ?_
  refine SX.val rfl (Val.move rfl) (by simp) rfl rfl ?_
  refine SX.val rfl (Val.move rfl) (by simp) rfl rfl ?_
  refine SX.val rfl (Val.move rfl) (by simp) rfl rfl ?_
  refine SX.val rfl (Val.to (C := boo false) (Val.neB rfl rfl (by kernel_rfl)) (by simp)) hx9 rfl rfl ?_
  refine SX.val rfl (Val.pickF rfl rfl) (by simp) rfl rfl ?_
  refine SX.val rfl (Val.move rfl) (by simp) rfl rfl ?_
  refine SX.val rfl (Val.move rfl) (by simp) rfl rfl ?_
  refine SX.val rfl (Val.strOf rfl) (by simp) rfl rfl ?_
  refine SX.val rfl (Val.move rfl) (by simp) rfl rfl ?_
  refine SX.val rfl (Val.strOf rfl) (by simp) rfl rfl ?_
  refine SX.val rfl (Val.to (C := boo false) (Val.neS rfl rfl) (by simp)) hx9 rfl rfl ?_
  refine SX.val rfl (Val.pickF rfl rfl) (by simp) rfl rfl ?_
  refine SX.val rfl (Val.move rfl) (by simp) rfl rfl ?_
  refine SX.val rfl (Val.move rfl) (by simp) rfl rfl ?_
  refine SX.val rfl (Val.move rfl) (by simp) rfl rfl ?_
  refine SX.val rfl (Val.to (C := boo false) (Val.neB rfl rfl (by kernel_rfl)) (by simp)) hx9 rfl rfl ?_
  refine SX.val rfl (Val.pickF rfl rfl) (by simp) rfl rfl ?_
  refine SX.val rfl (Val.move rfl) (by simp) rfl rfl ?_
  refine SX.val rfl (Val.move rfl) (by simp) rfl rfl ?_
  refine SX.val rfl (Val.fieldAddr tabOk rfl rfl rfl rfl rfl) (by simp) rfl rfl ?_
  refine SX.val rfl (Val.to (C := .agg (l[z.1]'hlt).x.abs) (Val.loadP tabOk rfl rfl rfl (by repeat first|assumption|exact o0_|exact o1_|apply o2_) List.not_mem_nil (by show 2 + 33 ≤ (l[z.1]'hlt).abs.length; rw [PAc.size]; omega)) (by exact PAc.part _)) hx9 rfl rfl ?_
  refine SX.val rfl (Val.move rfl) (by simp) rfl rfl ?_
  refine SX.val rfl (Val.fieldAddr tabOk rfl rfl rfl rfl rfl) (by simp) rfl rfl ?_
  refine SX.val rfl (Val.to (C := .agg (l[z.1]'hlt).x.abs) (Val.loadP tabOk rfl rfl rfl (by repeat first|assumption|exact o0_|exact o1_|apply o2_) List.not_mem_nil (by show 2 + 33 ≤ (l[z.1]'hlt).abs.length; rw [PAc.size]; omega)) (by exact PAc.part _)) hx9 rfl rfl ?_
  refine SX.call rfl (psup_s (n := n) (me := me) (om := om) (vs := vs) (bp := z0.1) (bm := z0.2.1) (vv := z0.2.2) (x := (l[z.1]'hlt).x) hq.1 (hl _ (List.getElem_mem hlt)).seq) (by simp [mids, It.mids]) Casts.refl (by kernel_rfl) rfl rfl rfl ?_
  refine ap_ ?_
  intro _
  refine SX.call rfl (dsup_s (n := n) (me := me) (bp := y0.1) (ov := y0.2) (rv := rv) (dvs := dV me om vs) (x := (l[z.1]'hlt).x) (dV_in hq.1).1 (by have h1 := (dV_in hq.1).2; omega) (hl _ (List.getElem_mem hlt)).seq) (by simp [mids, It.mids]) Casts.refl (by kernel_rfl) rfl rfl rfl ?_
  refine ap_ ?_
  intro _
  rw [supD_eq hq.1 hq.2.1]
  refine SX.hx (by first|(simp[mids,It.mids,ownPc];done)|(intro k hk;simp[mids,It.mids,ownPc] at hk ⊢;grind)) fun hx9 => ?_
  refine SX.val rfl (Val.to (C := boo false) (Val.neI rfl rfl) (by simp)) hx9 rfl rfl ?_
  refine SX.val rfl (Val.pickF rfl rfl) (by simp) rfl rfl ?_
  refine SX.val rfl (Val.move rfl) (by simp) rfl rfl ?_
  refine SX.val rfl (Val.move rfl) (by simp) rfl rfl ?_
  refine SX.val rfl (Val.move rfl) (by simp) rfl rfl ?_
  refine SX.call rfl (ptold_s (n := n) (me := me) (om := om) (vs := vs) (bp := z0.1) (bm := z0.2.1) (vv := z0.2.2) hq.1) (by simp [mids, It.mids]) Casts.refl (by kernel_rfl) rfl rfl rfl ?_
  refine After.make (by repeat (first | exact Reads.nil | (refine Reads.blk ?_ ?_; focus ((repeat first|assumption|exact m0_|apply m1_); done)) | (refine Reads.rd ?_ ?_; focus ((repeat first|assumption|exact m0_|apply m1_); done)) | (refine Reads.pc ?_ ?_; focus ((repeat first|assumption|exact m0_|apply m1_); done)) | (refine Reads.rdpc ?_ ?_; focus ((repeat first|assumption|exact m0_|apply m1_); done)))) (fun _ => rfl) ?_
  intro r257
  refine SX.freeze [] (t := 257) rfl rfl ?_
  refine SX.call rfl (dtold_s (n := n) (me := me) (om := om) (vs := vs) (bp := y0.1) (ov := y0.2) (rv := rv) hq.1 hq.2.1) (by simp [mids, It.mids]) Casts.refl (by kernel_rfl) rfl rfl rfl ?_
  refine After.make (by repeat (first | exact Reads.nil | (refine Reads.blk ?_ ?_; focus ((repeat first|assumption|exact m0_|apply m1_); done)) | (refine Reads.rd ?_ ?_; focus ((repeat first|assumption|exact m0_|apply m1_); done)) | (refine Reads.pc ?_ ?_; focus ((repeat first|assumption|exact m0_|apply m1_); done)) | (refine Reads.rdpc ?_ ?_; focus ((repeat first|assumption|exact m0_|apply m1_); done)))) (fun _ => rfl) ?_
  intro r259
  refine SX.freeze [] (t := 259) rfl rfl ?_
  refine SX.call rfl (dsame_s (l := toldF (ownP om)) (m := toldF (ownP om)) (fun p hp => ownP_in hq.1.keys p (told_mem hp)) (fun p hp => ownP_in hq.1.keys p (told_mem hp)) (told_few hq.1)) (by simp [mids, It.mids]) Casts.refl (by kernel_rfl) rfl rfl rfl ?_
  refine ap_ ?_
  intro _
  rw [decide_eq_true (rfl : toldF (ownP om) = toldF (ownP om))]
  refine SX.val rfl (Val.notT rfl) (by simp) rfl rfl ?_
  refine SX.val rfl (Val.pickF rfl rfl) (by simp) rfl rfl ?_
  refine SX.nil (SE.seq ?_)
  refine SC.condF rfl ?_
  refine SC.skip ?_
  refine SE.seq ?_
  refine SC.seq ?_
  refine SC.draw [] (.q 0 (.q 1 (.q 2 (.q 3 (.q 4 (.q 5 (.q 6 (.q 7 (.q 8 (.q 9 (.q 10 (.q 11 (.q 12 (.q 14 (.q 15 (.q 16 (.q 17 (.q 18 (.q 19 (.q 20 (.q 21 (.e 13 (.e 22 (.q 23 (.q 24 .nil))))))))))))))))))))))))) (by kernel_rfl) (by kernel_rfl) ?_
  refine SX.val rfl (Val.fieldAddr tabOk rfl rfl rfl rfl rfl) (by simp) rfl rfl ?_
  refine SX.hx (by first|(simp[mids,It.mids,ownPc];done)|(intro k hk;simp[mids,It.mids,ownPc] at hk ⊢;grind)) fun hx9 => ?_
  refine SX.val rfl (Val.to (C := int (l[z.1]'hlt).who) (Val.load1 tabOk rfl rfl (by repeat first|assumption|exact o0_|exact o1_|apply o2_) List.not_mem_nil (by rfl)) rfl) hx9 rfl rfl ?_
  refine SX.val rfl (Val.geI rfl rfl) (by simp) rfl rfl ?_
  refine SX.val rfl (Val.move rfl) (by simp) rfl rfl ?_
  refine SX.bothP (t := 266) rfl ?_ ?_
  rotate_left
  ·intro hc266
   iterate 4 refine SX.skip rfl rfl rfl ?_
   refine SX.val rfl (Val.pickF rfl rfl) (by simp) rfl rfl ?_
   refine SX.val rfl (Val.move rfl) (by simp) rfl rfl ?_
   iterate 11 refine SX.skip rfl rfl rfl ?_
   refine SX.skip' rfl rfl rfl ?_
   refine SX.skip' rfl rfl rfl ?_
   refine SX.skip rfl rfl rfl ?_
   refine SX.val rfl (Val.pickF rfl rfl) (by simp) rfl rfl ?_
   refine SX.nil (SE.seq ?_)
   refine SC.condF rfl ?_
   refine SC.skip ?_
   refine SE.inBlock ?_
   refine SE.seq ?_
   refine SC.region ?_
   first
    | refine SL.val (Val.addI rfl rfl (by simp only [InR, lo, hi]; omega)) rfl rfl ?_
    | refine SL.val (Val.addW rfl rfl) rfl rfl ?_
   refine SL.val (Val.move rfl) rfl rfl ?_
   refine SL.nil ?_
   refine SE.round (z.1 + 1, om, vs, rv) (by first | omega | (dsimp only; omega)) (⟨by dsimp only; omega, hq.1, hq.2.1, by dsimp only; omega, hq.2.2.2⟩) (by exact ⟨rfl, rfl, rfl, rfl, rfl, rfl, rfl, trivial⟩) (by repeat first|exact s0_ _|exact s1_ _|apply s2_|apply s3_)
  intro hc266
  refine SX.val rfl (Val.fieldAddr tabOk rfl rfl rfl rfl rfl) (by simp) rfl rfl ?_
  refine SX.val rfl (Val.to (C := int (l[z.1]'hlt).who) (Val.load1 tabOk rfl rfl (by repeat first|assumption|exact o0_|exact o1_|apply o2_) List.not_mem_nil (by rfl)) rfl) hx9 rfl rfl ?_
  refine SX.val rfl (Val.move rfl) (by simp) rfl rfl ?_
  refine SX.val rfl (Val.ltI rfl rfl) (by simp) rfl rfl ?_
  refine SX.val rfl (Val.pickT rfl rfl) (by simp) rfl rfl ?_
  refine SX.val rfl (Val.move rfl) (by simp) rfl rfl ?_
  refine SX.bothP (t := 272) rfl ?_ ?_
  rotate_left
  ·intro hc272
   iterate 11 refine SX.skip rfl rfl rfl ?_
   refine SX.skip' rfl rfl rfl ?_
   refine SX.skip' rfl rfl rfl ?_
   refine SX.skip rfl rfl rfl ?_
   refine SX.val rfl (Val.pickF rfl rfl) (by simp) rfl rfl ?_
   refine SX.nil (SE.seq ?_)
   refine SC.condF rfl ?_
   refine SC.skip ?_
   refine SE.inBlock ?_
   refine SE.seq ?_
   refine SC.region ?_
   first
    | refine SL.val (Val.addI rfl rfl (by simp only [InR, lo, hi]; omega)) rfl rfl ?_
    | refine SL.val (Val.addW rfl rfl) rfl rfl ?_
   refine SL.val (Val.move rfl) rfl rfl ?_
   refine SL.nil ?_
   refine SE.round (z.1 + 1, om, vs, rv) (by first | omega | (dsimp only; omega)) (⟨by dsimp only; omega, hq.1, hq.2.1, by dsimp only; omega, hq.2.2.2⟩) (by exact ⟨rfl, rfl, rfl, rfl, rfl, rfl, rfl, trivial⟩) (by repeat first|exact s0_ _|exact s1_ _|apply s2_|apply s3_)
  intro hc272
  have hdv : (dV me om vs)[(l[z.1]'hlt).who.toNat]? = some (votesI n me om vs (l[z.1]'hlt).who) := by
   rw [dV_get hq.1 (by omega)]
   unfold votesI
   rw [if_neg (by omega)]
  refine SX.val rfl (Val.move rfl) (by simp) rfl rfl ?_
  refine SX.val rfl (Val.fieldAddr tabOk rfl rfl rfl rfl rfl) (by simp) rfl rfl ?_
  refine SX.val rfl (Val.to (C := int (l[z.1]'hlt).who) (Val.load1 tabOk rfl rfl (by repeat first|assumption|exact o0_|exact o1_|apply o2_) List.not_mem_nil (by rfl)) rfl) hx9 rfl rfl ?_
  refine SX.val rfl (Val.move rfl) (by simp) rfl rfl ?_
  refine SX.val rfl (Val.nilCheck rfl) (by simp) rfl rfl ?_
  refine SX.val rfl (Val.fieldAddr tabOk rfl rfl rfl rfl rfl) (by simp) rfl rfl ?_
  refine SX.val rfl (Val.load1 tabOk rfl rfl (by repeat first|assumption|exact o0_|exact o1_|apply o2_) List.not_mem_nil (by rfl)) (by simp) rfl rfl ?_
  refine SX.val rfl (Val.fieldAddr tabOk rfl rfl rfl rfl rfl) (by simp) rfl rfl ?_
  refine SX.val rfl (Val.to (C := int (l[z.1]'hlt).who) (Val.load1 tabOk rfl rfl (by repeat first|assumption|exact o0_|exact o1_|apply o2_) List.not_mem_nil (by rfl)) rfl) hx9 rfl rfl ?_
  refine SX.val rfl (Val.indexOwn (q := (l[z.1]'hlt).who.toNat) tabOk Try.underlying50 rfl rfl (by repeat first|assumption|exact o0_|exact o1_|apply o2_) rfl (by omega) (by rw [List.length_map, (dV_in hq.1).2]; omega) rfl rfl) hx9 rfl rfl ?_
  refine SX.val rfl (Val.to (C := pntsA (votesI n me om vs (l[z.1]'hlt).who)) (Val.loadOwn1 (q := (l[z.1]'hlt).who.toNat) (s := 1) (cs := [pntsA (votesI n me om vs (l[z.1]'hlt).who)]) tabOk rfl rfl (by repeat first|assumption|exact o0_|exact o1_|apply o2_) rfl (by rw [List.getElem?_map, hdv]; rfl) rfl) rfl) hx9 rfl rfl ?_
  refine SX.call rfl (pvotes_s (n := n) (me := me) (om := om) (vs := vs) (bp := z0.1) (bm := z0.2.1) (vv := z0.2.2) (who := (l[z.1]'hlt).who) hq.1) (by simp [mids, It.mids]) Casts.refl (by kernel_rfl) rfl rfl rfl ?_
  refine After.make (by repeat (first | exact Reads.nil | (refine Reads.blk ?_ ?_; focus ((repeat first|assumption|exact m0_|apply m1_); done)) | (refine Reads.rd ?_ ?_; focus ((repeat first|assumption|exact m0_|apply m1_); done)) | (refine Reads.pc ?_ ?_; focus ((repeat first|assumption|exact m0_|apply m1_); done)) | (refine Reads.rdpc ?_ ?_; focus ((repeat first|assumption|exact m0_|apply m1_); done)))) (fun _ => rfl) ?_
  intro r276
  refine SX.freeze [] (t := 276) rfl rfl ?_
  refine SX.call rfl (dsame_s (l := (votesI n me om vs (l[z.1]'hlt).who)) (m := (votesI n me om vs (l[z.1]'hlt).who)) (votesI_in hq.1 _).1 (votesI_in hq.1 _).1 (Nat.le_trans (votesI_in hq.1 _).2 (by decide))) (by simp [mids, It.mids]) Casts.refl (by kernel_rfl) rfl rfl rfl ?_
  refine ap_ ?_
  intro _
  rw [decide_eq_true (rfl : (votesI n me om vs (l[z.1]'hlt).who) = (votesI n me om vs (l[z.1]'hlt).who))]
  refine SX.val rfl (Val.notT rfl) (by simp) rfl rfl ?_
  refine SX.val rfl (Val.pickT rfl rfl) (by simp) rfl rfl ?_
  refine SX.nil (SE.seq ?_)
  refine SC.condF rfl ?_
  refine SC.skip ?_
  refine SE.inBlock ?_
  refine SE.seq ?_
  refine SC.region ?_
  first
   | refine SL.val (Val.addI rfl rfl (by simp only [InR, lo, hi]; omega)) rfl rfl ?_
   | refine SL.val (Val.addW rfl rfl) rfl rfl ?_
  refine SL.val (Val.move rfl) rfl rfl ?_
  refine SL.nil ?_
  refine SE.round (z.1 + 1, om, vs, rv) (by first | omega | (dsimp only; omega)) (⟨by dsimp only; omega, hq.1, hq.2.1, by dsimp only; omega, hq.2.2.2⟩) (by exact ⟨rfl, rfl, rfl, rfl, rfl, rfl, rfl, trivial⟩) (by repeat first|exact s0_ _|exact s1_ _|apply s2_|apply s3_)
end
end Go.Proofs.Ytjbikemecdlolaa.A
