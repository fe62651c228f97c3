/-
  Packed out of the texts: PT7, PtsF, Law, Open, OpenBytes, AOpen, PT8, PtsD, PtsE, A35.
-/
import Derived.Test.YtjbikemecdlolaaR06
import Derived.Test.YtjbikemecdlolaaRows
import Derived.OpenShut
import Derived.SizedLaws
import Derived.Deep.Slices
/-
  Points: moved, told, bytes.
-/
set_option maxRecDepth 100000
set_option linter.unusedSimpArgs false
set_option linter.unusedVariables false
namespace Go.Proofs.Ytjbikemecdlolaa.A
open Go.RowKit

theorem told_cut {l : List Pnt} (h : ((l.length : Int) - 3 > 1)) : (toldF l).map Pnt.abs = (l.map Pnt.abs).take 1 ++ (l.map Pnt.abs).drop (l.length - 3) := by
  unfold toldF
  rw [if_pos (by omega), List.map_append, List.map_take, List.map_drop]
theorem told_all {l : List Pnt} (h : ¬ ((l.length : Int) - 3 > 1)) : toldF l = l := by
  unfold toldF
  rw [if_neg (by omega)]
/-- An own point's bytes, if it is one. -/
theorem own_blen {om : List (Int × Ow)} {k : Int} (hb : ∀ e ∈ om, e.2.b.length ≤ 1000000) : ((aget om k).getD Ow.zero).b.length ≤ 1000000 := by
  cases h : aget om k with
  | none => simp [Ow.zero]
  | some o => exact hb _ (aget_in h)
def bytesF (om : List (Int × Ow)) (x : Pnt) : Option (List UInt8) := if ownHas om x then some ((aget om x.seq).getD Ow.zero).b else none
theorem own_last (o : Ow) : o.cells[32]? = some (byt o.b) := by
  have h := digA_len o.len
  unfold Ow.cells
  rw [List.getElem?_append_right (by omega), h]
  rfl
section
variable {n me : Nat} {om : List (Int × Ow)} {vs : List (List Pnt)} {bp bm : Nat} {vv : Value} {x : Pnt} {who k low above : Int} {o : Ow} {l : List Pnt}
theorem delf_ow_s {m : List (Int × Ow)} {b k : Nat} {caps : List Abs} {σ : Blks} {del : Int × Ow → Bool} (hb : goesIn Try.prog k = true) (hr : RdAll σ) (hn : (m.map (·.1)).Nodup) (hok : ∀ e ∈ m, intOk e.1) (h : ∀ e ∈ m, Spec Try.prog k (int e.1 :: Ow.enc e.2 :: caps) σ (fun _ : Unit => []) (fun _ => boo (del e))) : Spec Try.prog 38 [mapV b, .fn (.func k) [] caps] (.pc (tmPc b intK intOk Ow.enc m) :: σ) (fun _ : Unit => [.pc (tmPc b intK intOk Ow.enc (m.filter fun e => !del e))]) (fun _ => .tup []) := by
 refine spec_of Try.func38 rfl Try.ntmps38 rfl fun G w => ?_
 refine SC.seq (SC.region ?_)
 refine SL.val (Val.move rfl) rfl rfl ?_
 refine SL.tmOpen [] rfl fun tm htm => ?_
 have hn2 : (tm.map (·.1)).Nodup := by rw [← plM_keys, htm]; exact hn
 refine SL.eff (Eff.rangeMap (K := intK) (V := id) (Good := intOk) (m := rawM tm) Try.underlying55 rfl (fun _ => (by repeat first|assumption|exact Upd.here|apply Upd.there))) rfl rfl ?_
 rintro _ _ ⟨r7, rfl, rfl⟩
 refine SL.nil (SE.seq ?_)
 refine SC.block ?_
 refine SC.loop (ι := List (Int × (Value × Ow)) × List (Int × Value) × Option (Int × Value)) (fun z => (facts (facM Ow.enc tm) :: .pc (rngPc b r7 intK id intOk (rawM z.1) z.2.1 z.2.2) :: σ)) (fun z => [(0, mapV b), (1, .fn (.func k) [] caps), (7, ptr r7)]) (fun z => z.1 = leftM (fun e => !del e) tm z.2.1 ∧ ∀ q ∈ z.2.1, q ∈ rawM tm) (fun z => z.2.1.length) (tm, rawM tm, none) (⟨left_start, fun q hq => hq⟩) (by exact ⟨rfl, rfl, rfl, trivial⟩) (by repeat first|exact s0_ _|exact s1_ _|apply s2_|apply s3_) ?_
 intro z hz
 refine SC.seq (SC.region ?_)
 refine SL.eff (Eff.nextMap (K := intK) (V := id) (Good := intOk) (m := rawM z.1) (rest := z.2.1) (cur := z.2.2) rfl (fun _ _ => (by repeat first|assumption|exact Upd.here|apply Upd.there))) rfl rfl ?_
 rintro _ _ ⟨o, rest', ho, hpo, rfl, rfl⟩
 refine SL.val (Val.extract rfl rfl) rfl rfl ?_
 refine SL.nil (SE.seq ?_)
 refine SC.seq ?_
 refine SC.cond rfl ?_ ?_
 rotate_left
 ·intro hc9
  have ho2 := opt_none hc9
  subst ho2
  have hr0 := ho rfl
  refine SC.exit ?_
  refine SE.then_ nofun ?_
  refine SE.then_ nofun ?_
  refine SE.exit ?_
  have hze : z.1 = leftM (fun e => !del e) tm [] := by rw [← hr0]; exact hz.1
  refine SE.dfEnd hze htm ?_
  refine SE.finN (rs := []) rfl RV.nil (()) (by repeat first|exact s0_ _|exact s1_ _|apply s2_|apply s3_) (by simp [It.rids]) ?_
  exact rfl
 intro hc9
 obtain ⟨p, rfl⟩ := opt_some hc9
 obtain ⟨hpm, hre⟩ := hpo p rfl
 subst hre
 have hls := rest_less hpm
 obtain ⟨x, hxm⟩ := raw_in (hz.2 p hpm)
 have hpm2 : (p.1, x) ∈ m := by rw [← htm]; exact List.mem_map.2 ⟨_, hxm, rfl⟩
 refine SC.skip ?_
 refine SE.seq ?_
 refine SC.block ?_
 refine SC.seq (SC.region ?_)
 refine SL.val (Val.entryMap rfl (by repeat first|assumption|exact m0_|apply m1_) ⟨List.not_mem_nil, List.not_mem_nil⟩) rfl rfl ?_
 refine SL.val (Val.to (C := int p.1) (Val.extract rfl rfl) rfl) rfl rfl ?_
 refine SL.val (Val.to (C := .v p.2) (Val.extract rfl rfl) rfl) rfl rfl ?_
 refine SL.fact (t := 12) (A := Ow.enc x) rfl (.inl (by repeat first|assumption|exact m0_|apply m1_)) (List.mem_map.2 ⟨_, hxm, rfl⟩) ?_
 refine SL.eff (Eff.alloc tabOk rfl) rfl rfl ?_
 rintro _ _ ⟨b5, rfl, rfl⟩
 refine SL.val (Val.assign rfl) rfl rfl ?_
 refine SL.eff (Eff.store (L' := x.cells) tabOk rfl rfl rfl (by repeat first|assumption|exact Upd.here|apply Upd.there) (own_clen _) (lb_ (by rfl)) (own_ones _) (by exact putL_whole (own_clen _))) rfl rfl ?_
 rintro _ _ ⟨rfl, rfl⟩
 refine SL.nil (SE.seq ?_)
 refine SC.seq (SC.region ?_)
 iterate 2 refine SL.val (Val.move rfl) rfl rfl ?_
 refine SL.val (Val.to (C := x.enc) (Val.loadA tabOk rfl rfl rfl (by repeat first|assumption|exact o0_|exact o1_|apply o2_) List.not_mem_nil (own_clen _)) rfl) rfl rfl ?_
 refine SL.callv (h _ hpm2) rfl Casts.refl hb rfl rfl rfl ?_
 refine After.pure (RdAll.reads hr (fun x hx => by repeat (first | exact hx | apply List.mem_cons_of_mem))) (fun _ => rfl) ?_
 intro _
 refine SL.nil (SE.seq ?_)
 refine SC.cond rfl ?_ ?_
 rotate_left
 ·intro hc16
  refine SC.skip ?_
  refine SE.inBlock ?_
  refine SE.round (z.1, (z.2.1.filter fun q => decide (q.1 ≠ p.1)), some p) (by exact hls) (⟨left_keep hn2 hxm hz.1 (by show (!del (p.1, x)) = _; rw [hc16]; rfl), fun q hq => hz.2 q ((List.mem_filter.1 hq).1)⟩) (by exact ⟨rfl, rfl, rfl, trivial⟩) (by repeat first|exact s0_ _|exact s1_ _|apply s2_|apply s3_)
 intro hc16
 refine SC.region ?_
 iterate 2 refine SL.val (Val.move rfl) rfl rfl ?_
 refine SL.eff (Eff.rngDel (a := p.1) (m' := rawM (adel z.1 p.1)) (rest' := z.2.1.filter fun q => decide (q.1 ≠ p.1)) (int_fit Try.underlying2) Try.underlying55 rfl (by repeat first|assumption|exact Upd.here|apply Upd.there) rfl is_v (hok _ hpm2) (rawM_del _ _).symm adel_twice) rfl rfl ?_
 rintro _ _ ⟨rfl, rfl⟩
 refine SL.nil ?_
 refine SE.inBlock ?_
 refine SE.round (adel z.1 p.1, (z.2.1.filter fun q => decide (q.1 ≠ p.1)), none) (by exact hls) (⟨left_del hn2 hxm hz.1 (by show (!del (p.1, x)) = _; rw [hc16]; rfl), fun q hq => hz.2 q ((List.mem_filter.1 hq).1)⟩) (by exact ⟨rfl, rfl, rfl, trivial⟩) (by repeat first|exact s0_ _|exact s1_ _|apply s2_|apply s3_)
theorem mv1_s  : Spec Try.prog 39 [int k, o.enc, ptr bp] [.rd bp 2 [int low]] (fun _ : Unit => []) (fun _ => boo (decide (k < low))) := by
 refine spec_of Try.func39 rfl Try.ntmps39 rfl fun G w => ?_
 refine SC.seq (SC.region ?_)
 refine SL.eff (Eff.boxA (cs := o.cells) rfl) rfl rfl ?_
 rintro _ _ ⟨b4, rfl, rfl⟩
 refine SL.val (Val.assign rfl) rfl rfl ?_
 refine SL.nil (SE.seq ?_)
 refine SC.seq (SC.region ?_)
 refine SL.val (Val.move rfl) rfl rfl ?_
 refine SL.val (Val.load1 tabOk rfl rfl (by repeat first|assumption|exact o0_|exact o1_|apply o2_) List.not_mem_nil (by rfl)) rfl rfl ?_
 refine SL.val (Val.ltI rfl rfl) rfl rfl ?_
 refine SL.val (Val.assign rfl) rfl rfl ?_
 refine SL.nil (SE.seq ?_)
 refine SC.ret ?_
 refine SE.fin (rs := [.tmp 5]) rfl (RV.tmp rfl RV.nil) (()) (by repeat first|exact s0_ _|exact s1_ _|apply s2_|apply s3_) (by simp [It.rids]) ?_
 exact rfl
theorem pmove_s (hok : PtsOk n me om vs) : Spec Try.prog 14 [ptr bp, int low] [.blk bp 57 [int (n : Nat), int (me : Nat), mapV bm, .v vv], own 40 1 vv ((vs).map fun l => [pntsA l]), .pc (tmPc bm intK intOk Ow.enc om)] (fun _ : Unit => [.blk bp 57 [int (n : Nat), int (me : Nat), mapV bm, .v vv], own 40 1 vv ((vs).map fun l => [pntsA l]), .pc (tmPc bm intK intOk Ow.enc (om.filter fun e => !decide (e.1 < low)))]) (fun _ => .tup []) := by
 refine spec_of Try.func14 rfl Try.ntmps14 rfl fun G w => ?_
 refine SC.seq (SC.region ?_)
 refine SL.eff (Eff.box1 rfl rfl) rfl rfl ?_
 rintro _ _ ⟨b3, rfl, rfl⟩
 refine SL.nil (SE.seq ?_)
 refine SC.seq (SC.region ?_)
 refine SL.val (Val.move rfl) rfl rfl ?_
 refine SL.val (Val.neP rfl rfl (by kernel_rfl)) rfl rfl ?_
 refine SL.nil (SE.seq ?_)
 refine SC.condT rfl ?_
 refine SC.region ?_
 refine SL.val (Val.move rfl) rfl rfl ?_
 refine SL.val (Val.nilCheck rfl) rfl rfl ?_
 refine SL.val (Val.fieldAddr tabOk rfl rfl rfl rfl rfl) rfl rfl ?_
 refine SL.val (Val.load1 tabOk rfl rfl (by repeat first|assumption|exact o0_|exact o1_|apply o2_) List.not_mem_nil (by rfl)) rfl rfl ?_
 refine SL.val (Val.makeFunc rfl rfl) rfl rfl ?_
 refine SL.call (delf_ow_s (b := bm) (k := 39) (caps := [ptr b3]) (σ := [.rd b3 2 [int low]]) (del := fun e => decide (e.1 < low)) (by kernel_rfl) (by intro x hx; rw [List.mem_singleton.1 hx]; exact .inl ⟨_, _, _, rfl⟩) hok.nd hok.keys (fun e he => mv1_s)) Casts.refl (by kernel_rfl) rfl rfl rfl ?_
 refine After.oneR (ys := [.blk b3 2 [int low]]) rfl (by repeat first|assumption|exact m0_|apply m1_) (by intro y hy; rw [List.mem_singleton.1 hy]; exact ⟨List.mem_cons_self, by intro h; cases h⟩) rfl (fun _ => rfl) ?_
 intro _
 refine ⟨_, (by repeat first|assumption|exact Upd.here|apply Upd.there), ?_⟩
 refine SL.nil ?_
 refine SE.finN (rs := []) rfl RV.nil (()) (by repeat first|exact s0_ _|exact s1_ _|apply s2_|apply s3_) (by simp [It.rids]) ?_
 exact rfl
theorem ptold_s (hok : PtsOk n me om vs) : Spec Try.prog 13 [ptr bp] [.rd bp 57 [int (n : Nat), int (me : Nat), mapV bm, .v vv], .rdpc (ownPc 40 1 vv (vs.map fun l => [pntsA l])), .rdpc (tmPc bm intK intOk Ow.enc om)] (fun r : Value => [own 27 33 r (((toldF (ownP om))).map Pnt.abs)]) (fun r => .v r) := by
 refine spec_of Try.func13 rfl Try.ntmps13 rfl fun G w => ?_
 refine SC.seq (SC.region ?_)
 refine SL.val (Val.assign rfl) rfl rfl ?_
 refine SL.nil (SE.seq ?_)
 refine SC.seq ?_
 refine SC.seq (SC.region ?_)
 refine SL.val (Val.move rfl) rfl rfl ?_
 refine SL.val (Val.eqP rfl rfl (by kernel_rfl)) rfl rfl ?_
 refine SL.nil (SE.seq ?_)
 refine SC.condF rfl ?_
 refine SC.skip ?_
 refine SE.seq ?_
 refine SC.seq (SC.region ?_)
 iterate 2 refine SL.val (Val.move rfl) rfl rfl ?_
 refine SL.val (Val.nilCheck rfl) rfl rfl ?_
 refine SL.val (Val.fieldAddr tabOk rfl rfl rfl rfl rfl) rfl rfl ?_
 refine SL.val (Val.load1 tabOk rfl rfl (by repeat first|assumption|exact o0_|exact o1_|apply o2_) List.not_mem_nil (by rfl)) rfl rfl ?_
 refine SL.call (pvotes_s (bm := bm) (vv := vv) (who := (me : Int)) hok) Casts.refl (by kernel_rfl) rfl rfl rfl ?_
 refine After.make (by repeat (first | exact Reads.nil | (refine Reads.blk ?_ ?_; focus ((repeat first|assumption|exact m0_|apply m1_); done)) | (refine Reads.rd ?_ ?_; focus ((repeat first|assumption|exact m0_|apply m1_); done)) | (refine Reads.pc ?_ ?_; focus ((repeat first|assumption|exact m0_|apply m1_); done)) | (refine Reads.rdpc ?_ ?_; focus ((repeat first|assumption|exact m0_|apply m1_); done)))) (fun _ => rfl) ?_
 intro r12
 rw [votesI_me hok.slf]
 refine SL.val (Val.assign rfl) rfl rfl ?_
 refine SL.nil (SE.seq ?_)
 refine SC.seq ?_
 refine SC.seq (SC.region ?_)
 refine SL.val (Val.move rfl) rfl rfl ?_
 refine SL.val (Val.lenOwn (m := (ownP om).length) rfl (by repeat first|assumption|exact m0_|apply m1_) Try.underlying40 (List.length_map _)) rfl rfl ?_
 refine SL.val (Val.subI rfl rfl (by have h1 := ownP_length om; have h2 := hok.om; simp only [InR, lo, hi]; omega)) rfl rfl ?_
 refine SL.val (Val.assign rfl) rfl rfl ?_
 refine SL.nil (SE.seq ?_)
 refine SC.seq (SC.region ?_)
 refine SL.val (Val.move rfl) rfl rfl ?_
 refine SL.val (Val.gtI rfl rfl) rfl rfl ?_
 refine SL.nil (SE.seq ?_)
 refine SC.condP rfl ?_ ?_
 rotate_left
 ·intro hc17
  refine SC.skip ?_
  refine SE.seq ?_
  refine SC.seq (SC.region ?_)
  refine SL.val (Val.move rfl) rfl rfl ?_
  refine SL.val (Val.assign rfl) rfl rfl ?_
  refine SL.nil (SE.seq ?_)
  refine SC.ret ?_
  refine SE.fin (rs := [.tmp 2]) rfl (RV.tmp rfl RV.nil) (r12) (by rw [told_all hc17]; repeat (first | exact List.nil_sublist _ | exact List.Sublist.refl _ | apply List.Sublist.cons_cons | apply List.Sublist.cons)) (by simp [It.rids]) ?_
  exact rfl
 intro hc17
 refine SC.region ?_
 iterate 2 refine SL.val (Val.move rfl) rfl rfl ?_
 refine SL.call (del_pnt (v := r12) (xs := (ownP om).map Pnt.abs) (i := 1) (j := (ownP om).length - 3) (by omega) (by rw [List.length_map]; omega) (pnts_ones _) (by rw [List.length_map]; have h1 := ownP_length om; have h2 := hok.om; omega)) (Casts.keep (Casts.keep (Casts.of_eq (by rw [show (((ownP om).length : Int) - 3) = (((ownP om).length - 3 : Nat) : Int) by omega])))) (by kernel_rfl) rfl rfl rfl ?_
 refine After.one rfl (by repeat first|assumption|exact m0_|apply m1_) (fun _ => rfl) ?_
 intro _
 refine ⟨_, (by repeat first|assumption|exact Upd.here|apply Upd.there), ?_⟩
 refine SL.val (Val.assign rfl) rfl rfl ?_
 refine SL.nil (SE.seq ?_)
 refine SC.seq (SC.region ?_)
 refine SL.val (Val.move rfl) rfl rfl ?_
 refine SL.val (Val.assign rfl) rfl rfl ?_
 refine SL.nil (SE.seq ?_)
 refine SC.ret ?_
 refine SE.fin (rs := [.tmp 2]) rfl (RV.tmp rfl RV.nil) (cutTo r12 (((ownP om).map Pnt.abs).take 1 ++ ((ownP om).map Pnt.abs).drop ((ownP om).length - 3)).length) (by rw [told_cut hc17]; repeat (first | exact List.nil_sublist _ | exact List.Sublist.refl _ | apply List.Sublist.cons_cons | apply List.Sublist.cons)) (by simp [It.rids]) ?_
 exact rfl
theorem pbytes_s (hok : PtsOk n me om vs) (hx : InR .i64 x.seq) (hb : ∀ e ∈ om, e.2.b.length ≤ 1000000) : Spec Try.prog 15 [ptr bp, .agg x.abs] [.rd bp 57 [int (n : Nat), int (me : Nat), mapV bm, .v vv], .rdpc (ownPc 40 1 vv (vs.map fun l => [pntsA l])), .rdpc (tmPc bm intK intOk Ow.enc om)] (fun _ : Unit => []) (fun _ => .tup [byt ((bytesF om x).getD []), boo (bytesF om x).isSome]) := by
 refine spec_of Try.func15 rfl Try.ntmps15 rfl fun G w => ?_
 refine SC.seq (SC.region ?_)
 refine SL.eff (Eff.boxA (cs := x.abs) rfl) rfl rfl ?_
 rintro _ _ ⟨b3, rfl, rfl⟩
 iterate 2 refine SL.val (Val.assign rfl) rfl rfl ?_
 refine SL.nil (SE.seq ?_)
 refine SC.seq ?_
 refine SC.seq (SC.region ?_)
 refine SL.val (Val.move rfl) rfl rfl ?_
 refine SL.val (Val.eqP rfl rfl (by kernel_rfl)) rfl rfl ?_
 refine SL.nil (SE.seq ?_)
 refine SC.condF rfl ?_
 refine SC.skip ?_
 refine SE.seq ?_
 refine SC.seq ?_
 refine SC.draw [] (.q 0 (.q 1 (.q 2 (.q 3 (.q 4 (.q 5 (.q 6 (.q 7 (.q 8 (.q 9 (.e 10 (.e 11 (.q 12 .nil))))))))))))) (by kernel_rfl) (by kernel_rfl) ?_
 refine SX.val rfl (Val.move rfl) (by simp) rfl rfl ?_
 refine SX.val rfl (Val.nilCheck rfl) (by simp) rfl rfl ?_
 refine SX.val rfl (Val.fieldAddr tabOk rfl rfl rfl rfl rfl) (by simp) rfl rfl ?_
 refine SX.val rfl (Val.load1 tabOk rfl rfl (by repeat first|assumption|exact o0_|exact o1_|apply o2_) List.not_mem_nil (by rfl)) (by simp) rfl rfl ?_
 refine SX.val rfl (Val.fieldAddr tabOk rfl rfl rfl rfl rfl) (by simp) rfl rfl ?_
 refine SX.hx (by first|(simp[mids,It.mids,ownPc];done)|(intro k hk;simp[mids,It.mids,ownPc] at hk ⊢;grind)) fun hx9 => ?_
 refine SX.val rfl (Val.to (C := int x.seq) (Val.load1 tabOk rfl rfl (by repeat first|assumption|exact o0_|exact o1_|apply o2_) List.not_mem_nil (by rfl)) rfl) hx9 rfl rfl ?_
 refine SX.val rfl (Val.tmGetOk (a := x.seq) (m := om) (enc := Ow.enc) (z0 := Ow.zero) (zv := zow) (int_fit Try.underlying2) Try.underlying55 zero_ow zow_rep rfl (by repeat first|assumption|exact o0_|exact o1_|apply o2_) List.not_mem_nil rfl is_v hx) hx9 rfl rfl ?_
 refine SX.val rfl (Val.move rfl) (by simp) rfl rfl ?_
 refine SX.val rfl (Val.extract rfl rfl) (by simp) rfl rfl ?_
 refine SX.val rfl (Val.extract rfl rfl) (by simp) rfl rfl ?_
 refine SX.alloc tabOk rfl rfl rfl rfl fun b6 => ?_
 refine SX.eff rfl (Eff.store (L' := ((aget om x.seq).getD Ow.zero).cells) tabOk rfl rfl rfl (by repeat first|assumption|exact Upd.here|apply Upd.there) (own_clen _) (lb_ (by rfl)) (own_ones _) (by exact putL_whole (own_clen _))) (by simp) rfl rfl ?_
 rintro _ _ ⟨rfl, rfl⟩
 refine SX.hx (by first|(simp[mids,It.mids,ownPc];done)|(intro k hk;simp[mids,It.mids,ownPc] at hk ⊢;grind)) fun hx9 => ?_
 refine SX.val rfl (Val.assign rfl) hx9 rfl rfl ?_
 refine SX.nil (SE.seq ?_)
 refine SC.seq ?_
 refine SC.seq (SC.region ?_)
 refine SL.val (Val.move rfl) rfl rfl ?_
 refine SL.val (Val.notB rfl) rfl rfl ?_
 refine SL.val (Val.move rfl) rfl rfl ?_
 refine SL.both (t := 22) rfl ?_ ?_
 ·intro hc22
  have e9 : (bytesF om x) = none := by unfold bytesF ownHas; simp_all
  iterate 5 refine SL.skip rfl rfl ?_
  refine SL.val (Val.pickT rfl rfl) rfl rfl ?_
  refine SL.nil (SE.seq ?_)
  refine SC.condT rfl ?_
  refine SC.seq (SC.region ?_)
  iterate 2 refine SL.val (Val.assign rfl) rfl rfl ?_
  refine SL.nil (SE.seq ?_)
  refine SC.ret ?_
  refine SE.then_ nofun ?_
  refine SE.finC (rs := [.tmp 4, .tmp 5]) rfl (RV.tmp rfl (RV.tmp rfl RV.nil)) (Casts.nils (s := 1) Casts.refl) (()) (by repeat first|exact s0_ _|exact s1_ _|apply s2_|apply s3_) (by simp [It.rids]) ?_
  rw [e9]
  rfl
 intro hc22
 refine SL.val (Val.fieldAddr tabOk rfl rfl rfl rfl rfl) rfl rfl ?_
 refine SL.val (Val.to (C := .agg (digA ((aget om x.seq).getD Ow.zero).dig)) (Val.loadP tabOk rfl rfl rfl (by repeat first|assumption|exact o0_|exact o1_|apply o2_) List.not_mem_nil (by show 0 + 32 ≤ ((aget om x.seq).getD Ow.zero).cells.length; rw [own_clen]; omega)) (by exact own_part _)) rfl rfl ?_
 refine SL.val (Val.fieldAddr tabOk rfl rfl rfl rfl rfl) rfl rfl ?_
 refine SL.val (Val.to (C := .agg (digA x.dig)) (Val.loadP tabOk rfl rfl rfl (by repeat first|assumption|exact o0_|exact o1_|apply o2_) List.not_mem_nil (by show 1 + 32 ≤ x.abs.length; rw [Pnt.size]; omega)) (by exact pnt_part _)) rfl rfl ?_
 refine SL.val (Val.neA rfl rfl (plains_dig _) (plains_dig _) (by kernel_rfl) (neqD _ _ ((aget om x.seq).getD Ow.zero).len x.len (decide (((aget om x.seq).getD Ow.zero).dig ≠ x.dig)) rfl)) rfl rfl ?_
 refine SL.val (Val.pickF rfl rfl) rfl rfl ?_
 refine SL.nil (SE.seq ?_)
 refine SC.condP rfl ?_ ?_
 ·intro hc28
  have e9 : (bytesF om x) = none := by unfold bytesF ownHas; simp_all
  refine SC.seq (SC.region ?_)
  iterate 2 refine SL.val (Val.assign rfl) rfl rfl ?_
  refine SL.nil (SE.seq ?_)
  refine SC.ret ?_
  refine SE.then_ nofun ?_
  refine SE.finC (rs := [.tmp 4, .tmp 5]) rfl (RV.tmp rfl (RV.tmp rfl RV.nil)) (Casts.nils (s := 1) Casts.refl) (()) (by repeat first|exact s0_ _|exact s1_ _|apply s2_|apply s3_) (by simp [It.rids]) ?_
  rw [e9]
  rfl
 intro hc28
 have e9 : (bytesF om x) = some ((aget om x.seq).getD Ow.zero).b := by unfold bytesF ownHas; simp_all
 refine SC.skip ?_
 refine SE.seq ?_
 refine SC.seq (SC.region ?_)
 refine SL.val (Val.fieldAddr tabOk rfl rfl rfl rfl rfl) rfl rfl ?_
 refine SL.val (Val.load1 tabOk rfl rfl (by repeat first|assumption|exact o0_|exact o1_|apply o2_) List.not_mem_nil (own_last _)) rfl rfl ?_
 refine SL.call (bclone_s (l := ((aget om x.seq).getD Ow.zero).b) (own_blen hb)) Casts.refl (by kernel_rfl) rfl rfl rfl ?_
 refine ap_ ?_
 intro _
 iterate 2 refine SL.val (Val.assign rfl) rfl rfl ?_
 refine SL.nil (SE.seq ?_)
 refine SC.ret ?_
 refine SE.fin (rs := [.tmp 4, .tmp 5]) rfl (RV.tmp rfl (RV.tmp rfl RV.nil)) (()) (by repeat first|exact s0_ _|exact s1_ _|apply s2_|apply s3_) (by simp [It.rids]) ?_
 rw [e9]
 rfl
end
end Go.Proofs.Ytjbikemecdlolaa.A
/-
  Points, plain: what stays true; what the law's fixed calls come to.
-/
namespace Go.Proofs.Ytjbikemecdlolaa.A
open Go.RowKit

section
variable {n me : Nat} {om : List (Int × Ow)} {vs : List (List Pnt)} {x : Pnt} {who : Int}
theorem PtsOk.voteP (h : PtsOk n me om vs) (hx : InR .i64 x.seq) : PtsOk n me om (voteP n me vs who x).2 := by
  by_cases h1 : who = me ∨ who < 0 ∨ (n : Int) ≤ who
  · rw [voteP_out h1]; exact h
  · have hlt : who.toNat < vs.length := by rw [h.len]; omega
    have hl := List.getElem?_eq_getElem hlt
    cases h2 : voteOk vs[who.toNat] x with
    | false => rw [voteP_no h1 hl h2]; exact h
    | true =>
      rw [voteP_yes h1 hl h2]
      refine h.vote (by omega) hx hl ?_
      unfold voteOk at h2
      rw [Bool.and_eq_true, Bool.not_eq_true'] at h2
      exact h2.1
theorem PtsOk.new (h1 : 1 ≤ n) (h7 : n ≤ 7) (hm : me < n) : PtsOk n me [] (List.replicate n []) where
  n1 := h1
  n7 := h7
  slf := hm
  len := by simp
  rise := fun l hl => by rw [List.eq_of_mem_replicate hl]; exact List.Pairwise.nil
  few := fun l hl => by rw [List.eq_of_mem_replicate hl]; simp
  ins := fun l hl x hx => by rw [List.eq_of_mem_replicate hl] at hx; cases hx
  keys := fun e he => by cases he
  nd := by simp
  om := by simp
end
theorem ownP_nil : ownP [] = [] := by simp [ownP, srt]
theorem ownP_one (k : Int) (o : Ow) : ownP [(k, o)] = [⟨k, o.dig, o.len⟩] := by simp [ownP, srt, aget]
def fxD : List UInt8 := 1 :: List.replicate 31 0
theorem fxD_len : fxD.length = 32 := by simp [fxD]
def fxX : Pnt := ⟨4, fxD, fxD_len⟩
def fxO : Ow := ⟨fxD, [98], fxD_len⟩
def fxV1 : List (List Pnt) := [[], [fxX], [], []]
def fxV2 : List (List Pnt) := [[], [fxX], [fxX], []]
theorem fx_v1 : voteP 4 0 (List.replicate 4 []) 1 fxX = (true, fxV1) := by rfl
theorem fx_v2 : voteP 4 0 fxV1 2 fxX = (true, fxV2) := by rfl
theorem fx_in : InR .i64 fxX.seq := by simp [InR, lo, hi, fxX]
theorem fx_ok0 : PtsOk 4 0 [] (List.replicate 4 []) := PtsOk.new (by decide) (by decide) (by decide)
theorem fx_ok1 : PtsOk 4 0 [] fxV1 := by have h := fx_ok0.voteP (x := fxX) (who := 1) fx_in; rw [fx_v1] at h; exact h
theorem fx_ok2 : PtsOk 4 0 [] fxV2 := by have h := fx_ok1.voteP (x := fxX) (who := 2) fx_in; rw [fx_v2] at h; exact h
theorem fx_put : aput ([] : List (Int × Ow)) 4 fxO = [(4, fxO)] := by rfl
theorem fx_ok3 : PtsOk 4 0 [(4, fxO)] fxV2 := by have h := fx_ok2.own (k := 4) (by simp [InR, lo, hi]) fxO (by decide); rw [fx_put] at h; exact h
theorem fx_w1 : weakTo 4 0 [] fxV1 0 ((max ((4 : Nat) : Int) 1 - 1) / 3 + 1) 4 = none := by
  unfold weakTo votesI votesF
  simp only [ownP_nil]
  rfl
theorem fx_w2 : weakTo 4 0 [] fxV2 0 ((max ((4 : Nat) : Int) 1 - 1) / 3 + 1) 4 = some fxX := by
  unfold weakTo votesI votesF
  simp only [ownP_nil]
  rfl
theorem fx_s2 : bestF [] fxV2 (votesI 4 0 [] fxV2 ((0 : Nat) : Int)) 0 (2 * ((max ((4 : Nat) : Int) 1 - 1) / 3) + 1) = none := by
  rw [votesI_me (by decide), ownP_nil]
  rfl
theorem fx_s3 : bestF [(4, fxO)] fxV2 (votesI 4 0 [(4, fxO)] fxV2 ((0 : Nat) : Int)) 0 (2 * ((max ((4 : Nat) : Int) 1 - 1) / 3) + 1) = some fxX := by
  rw [votesI_me (by decide), ownP_one]
  rfl
theorem fx_by : bytesF [(4, fxO)] fxX = some [98] := by rfl
theorem fx_sup : supF [(4, fxO)] fxV2 fxX = 3 := by rfl
theorem fx_told : toldF (ownP [(4, fxO)]) = [fxX] := by rw [ownP_one]; rfl
end Go.Proofs.Ytjbikemecdlolaa.A
/-
  From a walk that returns true and changes no old memory to the given statement, for any law without package variables.
-/
namespace Go.Proofs.Ytjbikemecdlolaa
open Go.ChangeShapes Go.WideShapes Go.ChangeAt Go.RowKit

theorem law_own : ownKnob Try.prog.godebug = none := by kernel_rfl
theorem law_laidOut : laidOutB Try.prog = true := by kernel_rfl

theorem trodAll_below {H : Type} {enc : TypeId × Value → H} {W W' : World} (hb : Below W.heap.size W W') :
    ∀ (ts : List TypeId) (vs : List Value) (ds : List (DataW H)) (p : List MemPlace), (∀ t ∈ ts, Try.prog.readableRec t = true ∧ t < Try.prog.types.size) →
      DataW.TrodAll enc Try.prog W 0 (fun _ => true) true ts vs ds p → ∃ q, DataW.TrodAll enc Try.prog W' 0 (fun b => decide (b < W.heap.size)) true ts vs ds q
  | [], [], [], p, _, h => ⟨p, h⟩
  | t :: ts, v :: vs, d :: ds, p, hr, h => by
    obtain ⟨p0, q0, h0, h1, rfl⟩ := h
    obtain ⟨q, hq⟩ := trodAll_below hb ts vs ds q0 (fun t ht => hr t (List.mem_cons_of_mem _ ht)) h1
    have lt0 : ∀ x ∈ p0, x.block < W.heap.size := by obtain ⟨m, hm⟩ := h0; exact DataW.trod_lt m _ _ _ hm
    exact ⟨p0 ++ q, p0, q, Below.trod law_laidOut (hr t List.mem_cons_self).1 (hr t List.mem_cons_self).2 h0 hb lt0, hq, rfl⟩
  | [], _ :: _, _, _, _, h => h.elim
  | [], [], _ :: _, _, _, h => h.elim
  | _ :: _, [], _, _, _, h => h.elim
  | _ :: _, _ :: _, [], _, _, h => h.elim

set_option maxRecDepth 100000 in
theorem law_lift {H : Type} {enc : TypeId × Value → H} {os : Os} (started : os.Started) {f : FuncId} {fn : Func} {s : ChangeSpec}
    (noInit : Try.prog.inits.idxOf? f = none) (hfn : Try.prog.funcs[f]? = some fn) (hvars : s.vars = []) (hres : fn.resultTypes = #[4])
    (hparB : (fn.params.toList.all fun t => Try.prog.readableRec t && decide (t < Try.prog.types.size)) = true)
    (hspec : ∀ ds : List (DataW H), ds.length = fn.params.size → s.fn H (ds ++ []) = { results := [.lit (.bool true)], args := ds })
    (wit : ∃ (w : World) (tape : Tape) (i : Input), w.os = os ∧ (w.forCall tape i).Shaped Try.prog ∧ i.vars = [] ∧ Input.okWide Try.prog (w.forCall tape i) .any w.heap.size f i ∧
      s.pre6 enc Try.prog fn [] false (w.forCall tape i).memory i.args ∧ Assume.holds {} Try.prog (lone (Frame.enter Try.prog f i.args .normal) [] (w.forCall tape i)))
    (walk : ∀ (W : World) (base : Nat) (args : Array Value) (ds : List (DataW H)) (p : List MemPlace),
      (∀ (j : Nat) t v, fn.params[j]? = some t → args[j]? = some v → Value.okWide Try.prog W .any base t v) →
      DataW.TrodAll enc Try.prog W 0 (fun _ => true) true fn.params.toList args.toList ds p →
      (DataW.weightsEach Try.prog fn.params.toList ds).all (· ≤ reachBytes) = true →
      Calls Try.prog f args W fun e W' => e = .returned (.bool true) ∧ Ext [] W W') :
    ReturnsInHanded {} Try.checked os f .any (s.pre6 enc Try.prog fn [] false) (s.post enc Try.prog fn false true false false) := by
  have hpar : ∀ t ∈ fn.params.toList, Try.prog.readableRec t = true ∧ t < Try.prog.types.size := by
    simpa only [List.all_eq_true, Bool.and_eq_true, decide_eq_true_eq] using hparB
  refine returnsInHanded_of_change_sized (C := Try.checked) law_own started noInit hfn wit ?_
  intro W base args ds gs before hval0 hW hcnd hsz _
  have hval : ∀ (j : Nat) t v, fn.params[j]? = some t → args[j]? = some v → Value.okWide Try.prog W .any base t v := hval0
  have hW' := hW
  obtain ⟨p, q, hA0, hV, rfl, hfz, hnd⟩ := hW
  have hA : DataW.TrodAll enc Try.prog W 0 (fun _ => true) true fn.params.toList args.toList ds p := hA0
  rw [hvars] at hV
  obtain ⟨rfl, rfl⟩ := trodVars_none hV
  have hsz' : (DataW.weightsEach Try.prog fn.params.toList ds).all (· ≤ reachBytes) = true := by
    have h2 := hsz
    simp only [ChangeSpec.plain, DataSpec.varTypes, hvars, List.filterMap_nil, List.append_nil] at h2
    exact h2
  refine (walk W base args ds p hval hA hsz').mono fun e W' ⟨he, bel⟩ => ?_
  subst he
  have hlen : ds.length = fn.params.size := by
    have : ∀ (ts : List TypeId) (vs : List Value) (ds : List (DataW H)) (p : List MemPlace), DataW.TrodAll enc Try.prog W 0 (fun _ => true) true ts vs ds p → ds.length = ts.length := by
      intro ts
      induction ts with
      | nil => intro vs ds p h; cases vs <;> cases ds <;> first | rfl | exact h.elim
      | cons t ts ih =>
        intro vs ds p h
        cases vs with
        | nil => exact h.elim
        | cons v vs =>
          cases ds with
          | nil => exact h.elim
          | cons d ds => obtain ⟨p0, q0, _, h1, _⟩ := h; simp [ih vs ds q0 h1]
    simpa using this _ _ _ _ hA
  obtain ⟨pa, hpa⟩ := trodAll_below (enc := enc) bel.below fn.params.toList args.toList ds p hpar hA
  refine ⟨_, rfl, ds, [], p ++ [], [], pa, [], hW', ?_, ?_, ?_, bel.below.frame _, fun h => by cases h⟩
  · rw [hspec ds hlen, hres]
    exact trodAll_mk1 (shut_bool Try.underlying4 _)
  · rw [hspec ds hlen]; exact hpa
  · rw [hspec ds hlen, hvars]; rfl

theorem spot_none {w : World} {b o : Nat} {s : Option Nat} {v : Value} (h : w.cell? ⟨b, o, s⟩ = some v) : s = none := by
  have := World.cell?_spot h
  simpa using this

end Go.Proofs.Ytjbikemecdlolaa
/-
  Arguments opened down to their cells: a struct, however deep, is its cells, each read by its own type.
-/
namespace Go.Proofs.Ytjbikemecdlolaa
open Go.RowKit Go.ChangeShapes Go.WideShapes Go.ChangeAt

/-- The types of a type's cells, in order. -/
def leaves (P : Program) : Nat → TypeId → Option (List TypeId)
  | 0, _ => none
  | d + 1, t =>
    match P.underlying t with
    | some (.struct fs) => fs.toList.foldlM (fun acc f => (leaves P d f.type).bind fun l => if f.offset = acc.length ∧ l.length = P.cellsOf f.type then some (acc ++ l) else none) []
    | some (.array n e) => (leaves P d e).bind fun l => if l.length = P.cellsOf e then some (List.replicate n l).flatten else none
    | some _ => some [t]
    | none => none

section
variable {H : Type} {enc : TypeId × Value → H} {P : Program} {w : World} {base : Nat} {spare : Nat → Bool} {held : Bool}

/-- Cell j reads by its own type. -/
def LeafAt (enc : TypeId × Value → H) (P : Program) (w : World) (base : Nat) (spare : Nat → Bool) (held : Bool) (u : TypeId) (v : Value) : Prop := ∃ n y, DataW.trod enc P w base spare held n u [v] = some y

theorem leaves_fields {d : Nat} {cs : List Value} {n : Nat}
    (ih : ∀ (t : TypeId) (ts : List TypeId) (fuel : Nat) (cs : List Value) (x : DataW H × List MemPlace), leaves P d t = some ts → ts.length = cs.length → DataW.trod enc P w base spare held fuel t cs = some x →
      ∀ (j : Nat) (v : Value) (u : TypeId), cs[j]? = some v → ts[j]? = some u → LeafAt enc P w base spare held u v) :
    ∀ (fs : List Field) (acc ts : List TypeId), (∀ f ∈ fs, ∃ y, DataW.trod enc P w base spare held n f.type ((cs.drop f.offset).take (P.cellsOf f.type)) = some y) →
      fs.foldlM (fun acc f => (leaves P d f.type).bind fun l => if f.offset = acc.length ∧ l.length = P.cellsOf f.type then some (acc ++ l) else none) acc = some ts →
      ts.length ≤ cs.length →
      (∀ (j : Nat) (v : Value) (u : TypeId), cs[j]? = some v → acc[j]? = some u → LeafAt enc P w base spare held u v) →
      (∀ (j : Nat) (v : Value) (u : TypeId), cs[j]? = some v → ts[j]? = some u → LeafAt enc P w base spare held u v) := by
  intro fs
  induction fs with
  | nil =>
    intro acc ts _ h _ ha
    simp at h
    subst h
    exact ha
  | cons f fs hfs =>
    intro acc ts hall h hlen ha
    simp only [List.foldlM_cons, Option.bind_eq_bind, Option.bind_eq_some_iff] at h
    obtain ⟨acc', ⟨l, hl, hif⟩, hrest⟩ := h
    split at hif
    · rename_i hc
      obtain ⟨ho, hlc⟩ := hc
      simp only [Option.some.injEq] at hif
      subst hif
      have hmono : ∀ (fs : List Field) (a b : List TypeId), fs.foldlM (fun acc f => (leaves P d f.type).bind fun l => if f.offset = acc.length ∧ l.length = P.cellsOf f.type then some (acc ++ l) else none) a = some b → a.length ≤ b.length := by
        intro fs
        induction fs with
        | nil => intro a b h; simp at h; subst h; exact Nat.le_refl _
        | cons f fs ih2 =>
          intro a b h
          simp only [List.foldlM_cons, Option.bind_eq_bind, Option.bind_eq_some_iff] at h
          obtain ⟨a', ⟨l, _, hif⟩, hr⟩ := h
          split at hif
          · simp only [Option.some.injEq] at hif
            subst hif
            have := ih2 _ _ hr
            simp at this
            omega
          · cases hif
      have hacc := hmono _ _ _ hrest
      refine hfs (acc ++ l) ts (fun g hg => hall g (List.mem_cons_of_mem _ hg)) hrest hlen ?_
      intro j v u hv hu
      rw [List.getElem?_append] at hu
      split at hu
      · exact ha j v u hv hu
      · rename_i hj
        obtain ⟨y, hy⟩ := hall f List.mem_cons_self
        rw [List.length_append] at hacc
        refine ih f.type l n _ y hl ?_ hy (j - acc.length) v u ?_ hu
        · rw [List.length_take, List.length_drop]; omega
        · have hjl : j - acc.length < l.length := (List.getElem?_eq_some_iff.1 hu).1
          rw [List.getElem?_take, if_pos (by omega), List.getElem?_drop, ho, show acc.length + (j - acc.length) = j by omega]
          exact hv
    · cases hif

theorem leaves_trod : ∀ (d : Nat) (t : TypeId) (ts : List TypeId) (fuel : Nat) (cs : List Value) (x : DataW H × List MemPlace), leaves P d t = some ts → ts.length = cs.length → DataW.trod enc P w base spare held fuel t cs = some x →
    ∀ (j : Nat) (v : Value) (u : TypeId), cs[j]? = some v → ts[j]? = some u → LeafAt enc P w base spare held u v := by
  intro d
  induction d with
  | zero => intro t ts fuel cs x h; simp [leaves] at h
  | succ d ih =>
    intro t ts fuel cs x h hlen ht
    unfold leaves at h
    split at h
    · rename_i fs hu
      obtain ⟨xs, n, _, _, hcl, hxl, hf⟩ := DataW.trod_struct hu ht
      refine leaves_fields (n := n) ih fs.toList [] ts ?_ h (by omega) (by simp)
      intro f hfm
      obtain ⟨i, hi, he⟩ := List.getElem_of_mem hfm
      have h1 := hf i f (by rw [← Array.getElem?_toList, List.getElem?_eq_getElem hi, he])
      have : i < xs.length := by rw [hxl]; simpa using hi
      exact ⟨xs[i], by rw [h1, List.getElem?_eq_getElem this]⟩
    · rename_i m e hu
      obtain ⟨xs, n, _, _, hcl, hxl, hf⟩ := DataW.trod_array hu ht
      simp only [Option.bind_eq_some_iff] at h
      obtain ⟨l, hl, hif⟩ := h
      split at hif
      · rename_i hc
        simp only [Option.some.injEq] at hif
        subst hif
        intro j v u hv hu'
        have hjl : j < (List.replicate m l).flatten.length := (List.getElem?_eq_some_iff.1 hu').1
        have hfl : ∀ k, (List.replicate k l).flatten.length = k * l.length := by
          intro k; simp
        rw [hfl] at hjl
        have hl0 : 0 < l.length := by
          rcases Nat.eq_zero_or_pos l.length with h0 | h0
          · rw [h0] at hjl; simp at hjl
          · exact h0
        have hi : j / l.length < m := by rw [Nat.div_lt_iff_lt_mul hl0]; exact hjl
        have hmod := Nat.mod_lt j hl0
        have hjd := Nat.div_add_mod j l.length
        have hget : ∀ (k j : Nat), j < k * l.length → (List.replicate k l).flatten[j]? = l[j % l.length]? := by
          intro k
          induction k with
          | zero => intro j hj; simp at hj
          | succ k ihk =>
            intro j hj
            rw [List.replicate_succ, List.flatten_cons, List.getElem?_append]
            split
            · rename_i h1; rw [Nat.mod_eq_of_lt h1]
            · rename_i h1
              rw [ihk (j - l.length) (by rw [Nat.succ_mul] at hj; omega)]
              rw [← Nat.mod_eq_sub_mod (show l.length ≤ j by omega)]
        rw [hget m j hjl] at hu'
        have h1 := hf (j / l.length) hi
        have hxi : j / l.length < xs.length := by omega
        rw [List.getElem?_eq_getElem hxi] at h1
        have hsz : (j / l.length) * P.cellsOf e + P.cellsOf e ≤ cs.length := by
          rw [← hlen, hfl, ← hc]
          calc (j / l.length) * l.length + l.length = (j / l.length + 1) * l.length := by rw [Nat.succ_mul]
            _ ≤ m * l.length := Nat.mul_le_mul_right _ hi
        refine ih e l n _ _ hl ?_ h1 (j % l.length) v u ?_ hu'
        · rw [List.length_take, List.length_drop]; omega
        · rw [List.getElem?_take, if_pos (by omega), List.getElem?_drop, ← hc, ← hv]
          congr 1
          rw [Nat.mul_comm]; exact hjd
      · cases hif
    · rename_i hu1 hu2 hs
      simp only [Option.some.injEq] at h
      subst h
      intro j v u hv hu'
      have hc1 : cs.length = 1 := by simpa using hlen.symm
      match cs, hc1 with
      | [c], _ =>
        match j with
        | 0 =>
          simp at hv hu'
          subst hv; subst hu'
          exact ⟨fuel, x, ht⟩
        | j + 1 => simp at hv
    · cases h
theorem LeafAt.int {u : TypeId} {v : Value} {k : IntKind} (h : LeafAt enc P w base spare held u v) (hu : P.underlying u = some (.int k)) : ∃ n, v = .int k n ∧ (Lit.int k n).wf = true := by
  obtain ⟨n, y, hy⟩ := h
  obtain ⟨m, h1, _, h2⟩ := DataW.trod_int hu hy
  simp at h1
  exact ⟨m, h1, h2⟩
theorem LeafAt.string {u : TypeId} {v : Value} (h : LeafAt enc P w base spare held u v) (hu : P.underlying u = some .string) : ∃ s, v = .string s ∧ s.size ≤ maxLen := by
  obtain ⟨n, y, hy⟩ := h
  obtain ⟨m, h1, _, h2⟩ := DataW.trod_string hu hy
  simp at h1
  exact ⟨m, h1, h2⟩
theorem LeafAt.bool {u : TypeId} {v : Value} (h : LeafAt enc P w base spare held u v) (hu : P.underlying u = some .bool) : ∃ b, v = .bool b := by
  obtain ⟨n, y, hy⟩ := h
  obtain ⟨m, h1, _⟩ := DataW.trod_bool hu hy
  simp at h1
  exact ⟨m, h1⟩

theorem flatten_get {α : Type} {sz : Nat} (h0 : 0 < sz) : ∀ (xs : List (List α)), (∀ x ∈ xs, x.length = sz) → ∀ j, xs.flatten[j]? = (xs[j / sz]?).bind fun x => x[j % sz]? := by
  intro xs
  induction xs with
  | nil => intro _ j; simp
  | cons x xs ih =>
    intro hx j
    have hxl := hx x List.mem_cons_self
    rw [List.flatten_cons, List.getElem?_append]
    split
    · rename_i h1
      rw [Nat.div_eq_of_lt (by omega), Nat.mod_eq_of_lt (by omega)]
      simp
    · rename_i h1
      rw [ih (fun y hy => hx y (List.mem_cons_of_mem _ hy)), hxl]
      have h2 : j / sz = (j - sz) / sz + 1 := by
        rw [Nat.div_eq_sub_div h0 (by omega)]
      rw [h2, List.getElem?_cons_succ, ← Nat.mod_eq_sub_mod (show sz ≤ j by omega)]
theorem flatten_length {α : Type} {sz : Nat} : ∀ (xs : List (List α)), (∀ x ∈ xs, x.length = sz) → xs.flatten.length = xs.length * sz := by
  intro xs
  induction xs with
  | nil => intro _; simp
  | cons x xs ih =>
    intro hx
    rw [List.flatten_cons, List.length_append, ih (fun y hy => hx y (List.mem_cons_of_mem _ hy)), hx x List.mem_cons_self, List.length_cons, Nat.succ_mul, Nat.add_comm]
theorem add_eq (b off : Nat) (j : Nat) : (⟨b, off, none⟩ : Addr).add j = ⟨b, off + j, none⟩ := by
  unfold Addr.add
  split
  · rename_i h0; subst h0; rfl
  · rfl

/-- A slice that came in: its row, element by element: each element's cells read by the element's type. -/
theorem open_row {t e : TypeId} {fuel : Nat} {A : Option Addr} {n c : Nat} {x : DataW H × List MemPlace} (ht : P.underlying t = some (.slice e)) (h : DataW.trod enc P w base spare held fuel t [.slice A n c] = some x) :
    n ≤ c ∧ c ≤ maxLen ∧ ∃ xs : List (List Value), xs.length = n ∧ (∀ cs ∈ xs, cs.length = P.cellsOf e ∧ ∃ m y, DataW.trod enc P w base spare held m e cs = some y) ∧ (xs.flatten ≠ [] → ∃ b off : Nat, A = some ⟨b, off, none⟩ ∧ ∀ j u, xs.flatten[j]? = some u → w.cell? ⟨b, off + j, none⟩ = some u) := by
  rcases Deep.open_slice ht h with ⟨hcs, _⟩ | ⟨a, len, cap, m, n', D, Pl, hcs, _, hl, hm, hmm, _, hi⟩
  · simp at hcs
    obtain ⟨rfl, rfl, rfl⟩ := hcs
    exact ⟨Nat.le_refl _, Nat.zero_le _, [], rfl, by simp, by simp⟩
  · simp at hcs
    obtain ⟨rfl, rfl, rfl⟩ := hcs
    have hnm : n ≤ m := by rw [hmm]; split <;> omega
    refine ⟨hl, hm, (List.range n).map fun i => ((w.cells? base (a.add (i * P.cellsOf e)) (P.cellsOf e)).getD []), by simp, ?_, ?_⟩
    · intro cs hcs
      simp only [List.mem_map, List.mem_range] at hcs
      obtain ⟨i, hin, rfl⟩ := hcs
      obtain ⟨cs', h1, h2⟩ := hi i (by omega)
      rw [h1]
      exact ⟨(World.cells?_some h1).2.1, n', _, h2⟩
    · intro hne
      have hall : ∀ y ∈ (List.range n).map (fun i => ((w.cells? base (a.add (i * P.cellsOf e)) (P.cellsOf e)).getD [])), y.length = P.cellsOf e := by
        intro y hy
        simp only [List.mem_map, List.mem_range] at hy
        obtain ⟨i, hin, rfl⟩ := hy
        obtain ⟨cs', h1, _⟩ := hi i (by omega)
        rw [h1]
        exact (World.cells?_some h1).2.1
      have hlen0 := flatten_length _ hall
      have hpos : 0 < n * P.cellsOf e := by
        rcases Nat.eq_zero_or_pos (n * P.cellsOf e) with h0 | h0
        · exfalso
          apply hne
          apply List.eq_nil_of_length_eq_zero
          rw [hlen0]
          simpa using h0
        · exact h0
      have hsz : 0 < P.cellsOf e := Nat.pos_of_mul_pos_left hpos
      have hn0 : 0 < n := Nat.pos_of_mul_pos_right hpos
      obtain ⟨b, off, spot⟩ := a
      have hs : spot = none := by
        obtain ⟨cs', h1, _⟩ := hi 0 (by omega)
        obtain ⟨_, hl1, hc1⟩ := World.cells?_some h1
        have h2 := hc1 0 hsz
        have h3 : ((⟨b, off, spot⟩ : Addr).add (0 * P.cellsOf e)).add 0 = ⟨b, off, spot⟩ := by simp [Addr.add]
        rw [h3, List.getElem?_eq_getElem (by omega)] at h2
        exact spot_none h2
      subst hs
      refine ⟨b, off, rfl, fun j u hu => ?_⟩
      rw [flatten_get hsz _ hall] at hu
      simp only [Option.bind_eq_some_iff, List.getElem?_map, Option.map_eq_some_iff] at hu
      obtain ⟨y, ⟨i, hir, rfl⟩, hy⟩ := hu
      have hrl := List.getElem?_eq_some_iff.1 hir
      obtain ⟨hir1, hir2⟩ := hrl
      simp at hir1 hir2
      subst hir2
      obtain ⟨cs', h1, _⟩ := hi (j / P.cellsOf e) (by omega)
      rw [h1] at hy
      simp only [Option.getD_some] at hy
      obtain ⟨_, hl1, hc1⟩ := World.cells?_some h1
      have h2 := hc1 (j % P.cellsOf e) (Nat.mod_lt _ hsz)
      rw [add_eq, add_eq, hy] at h2
      have hjd := Nat.div_add_mod j (P.cellsOf e)
      rw [show off + j = off + j / P.cellsOf e * P.cellsOf e + j % P.cellsOf e by rw [Nat.mul_comm (j / P.cellsOf e)]; omega]
      exact h2
/-- The same, the elements decoded. -/
theorem open_rowOf {α : Type} {cells : α → List Value} {Ok : α → Prop} {t e : TypeId} {fuel : Nat} {A : Option Addr} {n c : Nat} {x : DataW H × List MemPlace} (ht : P.underlying t = some (.slice e)) (h : DataW.trod enc P w base spare held fuel t [.slice A n c] = some x)
    (hdec : ∀ cs, cs.length = P.cellsOf e → (∃ m y, DataW.trod enc P w base spare held m e cs = some y) → ∃ a, cs = cells a ∧ Ok a) :
    n ≤ c ∧ c ≤ maxLen ∧ ∃ xs : List α, xs.length = n ∧ Row w A (xs.flatMap cells) ∧ ∀ a ∈ xs, Ok a := by
  obtain ⟨h1, h2, ys, hl, hall, hrow⟩ := open_row ht h
  have hd : ∀ (ys : List (List Value)), (∀ cs ∈ ys, cs.length = P.cellsOf e ∧ ∃ m y, DataW.trod enc P w base spare held m e cs = some y) → ∃ xs : List α, xs.length = ys.length ∧ ys = xs.map cells ∧ ∀ a ∈ xs, Ok a := by
    intro ys
    induction ys with
    | nil => intro _; exact ⟨[], rfl, rfl, by simp⟩
    | cons cs ys ih =>
      intro hy
      obtain ⟨a, ha, hok⟩ := hdec cs (hy cs List.mem_cons_self).1 (hy cs List.mem_cons_self).2
      obtain ⟨xs, hxl, hxe, hxo⟩ := ih (fun c hc => hy c (List.mem_cons_of_mem _ hc))
      exact ⟨a :: xs, by simp [hxl], by simp [ha, hxe], by simpa using ⟨hok, hxo⟩⟩
  obtain ⟨xs, hxl, hxe, hxo⟩ := hd ys hall
  refine ⟨h1, h2, xs, by omega, ?_, hxo⟩
  intro hne
  have hf : ys.flatten = xs.flatMap cells := by rw [hxe, List.flatMap]
  rw [← hf] at hne
  obtain ⟨b, off, hA, hc⟩ := hrow hne
  exact ⟨b, off, hA, fun j u hu => hc j u (by rw [hf]; exact hu)⟩
end
end Go.Proofs.Ytjbikemecdlolaa
/-
  Rows of bytes that come in as arguments.
-/
namespace Go.Proofs.Ytjbikemecdlolaa
open Go.RowKit Go.ChangeShapes Go.WideShapes Go.ChangeAt

section
variable {H : Type} {enc : TypeId × Value → H} {w : World} {base : Nat} {spare : Nat → Bool} {held : Bool}
theorem open_byte (cs : List Value) (hl : cs.length = Try.prog.cellsOf 5) (h : ∃ m y, DataW.trod enc Try.prog w base spare held m 5 cs = some y) : ∃ c : UInt8, cs = [bc c] ∧ True := by
  obtain ⟨fuel, x, h⟩ := h
  rw [show Try.prog.cellsOf 5 = 1 by kernel_rfl] at hl
  have hlv : leaves Try.prog 4 5 = some [5] := by kernel_rfl
  have hh := leaves_trod 4 _ _ _ _ _ hlv (by simpa using hl.symm) h
  match cs, hl with
  | [v0], _ =>
    obtain ⟨n, rfl, b⟩ := (hh 0 v0 _ rfl rfl).int Try.underlying5
    simp only [Lit.wf, Bool.and_eq_true, decide_eq_true_eq] at b
    have b0 : (0 : Int) ≤ n := b.1
    have b1 : n ≤ (255 : Int) := b.2
    refine ⟨UInt8.ofNat n.toNat, ?_, trivial⟩
    have : ((UInt8.ofNat n.toNat).toNat : Int) = n := by simp; omega
    simp [bc]
    omega
theorem open_bytes {fuel : Nat} {A : Option Addr} {n c : Nat} {x : DataW H × List MemPlace} (h : DataW.trod enc Try.prog w base spare held fuel 23 [.slice A n c] = some x) : ∃ l : List UInt8, l.length = n ∧ n ≤ c ∧ c ≤ maxLen ∧ Row w A (l.map bc) := by
  obtain ⟨h1, h2, xs, h3, h4, _⟩ := open_rowOf (cells := fun c : UInt8 => [bc c]) (Ok := fun _ => True) Try.underlying23 h (fun cs hl hh => open_byte cs hl hh)
  refine ⟨xs, h3, h1, h2, ?_⟩
  have : xs.flatMap (fun c : UInt8 => [bc c]) = xs.map bc := by
    clear h3 h4
    induction xs with
    | nil => rfl
    | cons a xs ih => simp [ih]
  rw [← this]
  exact h4
theorem open_none {t e : TypeId} {fuel : Nat} {A : Option Addr} {n c : Nat} {x : DataW H × List MemPlace} (ht : Try.prog.underlying t = some (.slice e)) (h : DataW.trod enc Try.prog w base spare held fuel t [.slice A n c] = some x) : A = none → c = 0 := by
  intro hA
  rcases Deep.open_slice ht h with ⟨hcs, _⟩ | ⟨a, len, cap, m, n', D, Pl, hcs, _⟩
  · simp at hcs
    exact hcs.2.2
  · simp at hcs
    rw [hA] at hcs
    simp at hcs
theorem open_bytesV {fuel : Nat} {A : Option Addr} {n c : Nat} {x : DataW H × List MemPlace} (h : DataW.trod enc Try.prog w base spare held fuel 23 [.slice A n c] = some x) : ∃ l : List UInt8, BytesV w (.slice A n c) l := by
  obtain ⟨l, rfl, h1, h2, h3⟩ := open_bytes h
  exact ⟨l, A, c, rfl, h1, h2, open_none Try.underlying23 h, h3⟩
end
end Go.Proofs.Ytjbikemecdlolaa
/-
  Arguments that are rows of structs as trees: opened down to their cells; from a walk to the statement.
-/
namespace Go.Proofs.Ytjbikemecdlolaa.A
open Go.RowKit Go.ChangeShapes Go.WideShapes Go.ChangeAt

section
variable {H : Type} {enc : TypeId × Value → H} {w : World} {base : Nat} {spare : Nat → Bool} {held : Bool}
theorem wfIn {a : Int} (h : (Lit.int .i64 a).wf = true) : InR .i64 a := by
  have := bounds_i64 h
  simp only [InR, lo, hi]
  omega
theorem open_rows {α : Type} {abs : α → List Abs} {Ok : α → Prop} {s : Nat} : ∀ {ys : List (List Value)}, (∀ cs ∈ ys, cs.length = s ∧ ∃ a, reps [] w (abs a) cs ∧ Ok a) → ∃ xs : List α, repss [] w s (xs.map abs) ys.flatten ∧ xs.length = ys.length ∧ ∀ a ∈ xs, Ok a
  | [], _ => ⟨[], rfl, rfl, by simp⟩
  | cs :: ys, h => by
    obtain ⟨h1, a, h2, h3⟩ := h cs List.mem_cons_self
    obtain ⟨xs, h4, h5, h6⟩ := open_rows (ys := ys) fun c hc => h c (List.mem_cons_of_mem _ hc)
    exact ⟨a :: xs, ⟨cs, _, rfl, h1, h2, h4⟩, by simp [h5], by simpa using ⟨h3, h6⟩⟩
/-- A slice that came in, as a tree. -/
theorem open_slA {α : Type} {abs : α → List Abs} {Ok : α → Prop} {t e : TypeId} {s : Nat} {v : Value} (ht : Try.prog.underlying t = some (.slice e)) (hs : Try.prog.cellsOf e = s) (h : LeafAt enc Try.prog w base spare held t v)
    (hdec : ∀ cs, cs.length = Try.prog.cellsOf e → (∃ m y, DataW.trod enc Try.prog w base spare held m e cs = some y) → ∃ a, reps [] w (abs a) cs ∧ Ok a) :
    ∃ xs : List α, rep [] w (.sl s (xs.map abs)) v ∧ ∀ a ∈ xs, Ok a := by
  obtain ⟨fuel, x, h⟩ := h
  obtain ⟨A, n, c, rfl⟩ : ∃ A n c, v = .slice A n c := by
    rcases Deep.open_slice ht h with ⟨hcs, _⟩ | ⟨a, len, cap, m, n', D, Pl, hcs, _⟩
    · simp at hcs; exact ⟨_, _, _, hcs⟩
    · simp at hcs; exact ⟨_, _, _, hcs⟩
  obtain ⟨h1, h2, ys, h3, h4, h5⟩ := open_row ht h
  obtain ⟨xs, h6, h7, h8⟩ := open_rows (abs := abs) (Ok := Ok) (s := s) (w := w) (ys := ys) fun cs hc => ⟨by rw [← hs]; exact (h4 cs hc).1, hdec cs (h4 cs hc).1 (h4 cs hc).2⟩
  refine ⟨xs, ⟨ys.flatten, ⟨⟨A, c, ?_, ?_, h2, open_none ht h⟩, fun hn => ?_⟩, h6⟩, h8⟩
  · rw [List.length_map, h7, h3]
  · rw [List.length_map, h7, h3]; exact h1
  · obtain ⟨b, off, rfl, hc⟩ := h5 hn
    exact ⟨b, off, _, _, rfl, by simp, hc⟩
theorem open_u8 : ∀ {cs : List Value}, (∀ v ∈ cs, LeafAt enc Try.prog w base spare held 5 v) → ∃ d : List UInt8, cs = d.map bc
  | [], _ => ⟨[], rfl⟩
  | v :: cs, h => by
    obtain ⟨d, rfl⟩ := open_u8 (cs := cs) fun x hx => h x (List.mem_cons_of_mem _ hx)
    obtain ⟨m, y, hy⟩ := h v List.mem_cons_self
    obtain ⟨c, hc, _⟩ := open_byte [v] (by rw [show Try.prog.cellsOf 5 = 1 by kernel_rfl]; rfl) ⟨m, y, hy⟩
    simp at hc
    exact ⟨c :: d, by rw [hc]; rfl⟩
theorem reps_dig {K : List Nat} (d : List UInt8) : reps K w (digA d) (d.map bc) := by
  have : digA d = (d.map bc).map .v := by simp [digA]
  rw [this]
  exact reps_plain.2 rfl
end
theorem _root_.Go.Proofs.Ytjbikemecdlolaa.IsRow.bytesA {K : List Nat} {w : World} {v : Value} {m : List UInt8} (h : IsRow K w v m.length (m.map bc)) : BytesV w v m := by
  obtain ⟨A, c, rfl, h1, h2, h3⟩ := h.shape
  refine ⟨A, c, rfl, h1, h2, h3, fun hn => ?_⟩
  obtain ⟨b, off, n', c', hv, _, hc⟩ := h.cells hn
  simp at hv
  obtain ⟨rfl, _, _⟩ := hv
  exact ⟨b, off, rfl, hc⟩
/-- A row of bytes as a text. -/
theorem Val.strOf {n : Nat} {W : Wd} {σ : Blks} {l : Slots} {X : List Nat} {x : Operand} {d : Option Nat} {ty : TypeId} {pos : String} {aft : Array Edge} {gq : Option (Nat × Bool)} {m : List UInt8} (hx : look l x = some (byt m)) : Val Try.prog n W σ l X ⟨d, .convert 23 9 x, ty, pos, aft, gq⟩ (.v (.string ⟨m.toArray⟩)) := fun a w hs hX => ⟨_, rfl, fun w' hw' => by
  have h1 := rep_byt.1 (hs.eval hx)
  have h2 := (Carry.of_ext hw' (K := mids σ ++ W.G) (K' := mids σ ++ W.G) (fun k hk => .inl (List.mem_append_left _ (hX k hk))) (fun k hk => .inl hk)).row h1
  have := conv_txtE h2.bytesA
  simp [execOp, this, Result.andThen]⟩
/-- A law's walk, as a call in a world. -/
theorem law_of {f : FuncId} {args : List Abs} (h : Pure Try.prog f args (boo true)) {w : World} {vals : List Value} (hv : reps [] w args vals) : Calls Try.prog f vals.toArray w fun e w' => e = .returned (.bool true) ∧ Ext [] w w' := by
  have hm : Mem w (mids []) [] [] w := ⟨Ext.refl w, by simp [mids], by simp, by simp, by simp, by simp [mids], by simp⟩
  refine (h [] w vals hm hv).mono fun e w' ⟨z, r, he, _, h1, h2⟩ => ⟨?_, h1.ext⟩
  have h2 : r = .bool true := h2
  rw [he, h2]
end Go.Proofs.Ytjbikemecdlolaa.A
/-
  Points: the law's fixed calls.
-/
namespace Go.Proofs.Ytjbikemecdlolaa.A
open Go.RowKit

section
set_option maxHeartbeats 4000000 in
theorem pfixed_s  : Spec Try.prog 6 [] [] (fun _ : Unit => []) (fun _ => boo true) := by
 refine spec_of Try.func6 rfl Try.ntmps6 rfl fun G w => ?_
 refine SC.seq (SC.region ?_)
 refine SL.val (Val.assign rfl) rfl rfl ?_
 refine SL.nil (SE.seq ?_)
 refine SC.seq (SC.region ?_)
 refine SL.call (pnew_s (n := 4) (me := 0) (by decide) (by decide) (by decide)) Casts.refl (by kernel_rfl) rfl rfl rfl ?_
 refine After.sub _ (List.Perm.refl _) (by intro x hx; cases hx) ?_
 intro z0
 refine ⟨_, List.Perm.refl _, ?_⟩
 refine SL.val (Val.assign rfl) rfl rfl ?_
 refine SL.nil (SE.seq ?_)
 refine SC.seq (SC.region ?_)
 refine SL.val (Val.to (C := .agg (digA fxD)) (Val.buildA tabOk rfl rfl rfl rfl) rfl) rfl rfl ?_
 refine SL.val (Val.to (C := .agg fxX.abs) (Val.buildS tabOk rfl rfl rfl rfl) rfl) rfl rfl ?_
 refine SL.eff (Eff.alloc tabOk rfl) rfl rfl ?_
 rintro _ _ ⟨b2, rfl, rfl⟩
 refine SL.eff (Eff.store (L' := fxX.abs) tabOk rfl rfl rfl (by repeat first|assumption|exact Upd.here|apply Upd.there) (Pnt.size _) (lb_ (by rfl)) (Pnt.ones _) (by exact putL_whole (Pnt.size _))) rfl rfl ?_
 rintro _ _ ⟨rfl, rfl⟩
 refine SL.nil (SE.seq ?_)
 refine SC.seq (SC.region ?_)
 refine SL.val (Val.move rfl) rfl rfl ?_
 refine SL.val (Val.to (C := .agg fxX.abs) (Val.loadA tabOk rfl rfl rfl (by repeat first|assumption|exact o0_|exact o1_|apply o2_) List.not_mem_nil (Pnt.size _)) rfl) rfl rfl ?_
 refine SL.call (pvote_s (n := 4) (me := 0) (om := []) (vs := List.replicate 4 []) (bp := z0.1) (bm := z0.2.1) (vv := z0.2.2) (who := 1) (x := fxX) fx_ok0 fx_in) Casts.refl (by kernel_rfl) rfl rfl rfl ?_
 refine After.mid [_] (β := []) rfl (by intro x hx; simp only [List.mem_cons, List.not_mem_nil, or_false] at hx; rcases hx with rfl | rfl | rfl <;> rfl) ?_
 intro _
 rw [fx_v1]
 refine SL.val (Val.assign rfl) rfl rfl ?_
 refine SL.nil (SE.seq ?_)
 refine SC.seq (SC.region ?_)
 refine SL.val (Val.move rfl) rfl rfl ?_
 refine SL.call (pweak_s (n := 4) (me := 0) (om := []) (vs := fxV1) (bp := z0.1) (bm := z0.2.1) (vv := z0.2.2) (above := 0) fx_ok1) Casts.refl (by kernel_rfl) rfl rfl rfl ?_
 refine ap_ ?_
 intro _
 rw [fx_w1]
 refine SL.val (Val.move rfl) rfl rfl ?_
 refine SL.val (Val.extract rfl rfl) rfl rfl ?_
 refine SL.val (Val.extract rfl rfl) rfl rfl ?_
 refine SL.eff (Eff.alloc tabOk rfl) rfl rfl ?_
 rintro _ _ ⟨b4, rfl, rfl⟩
 refine SL.eff (Eff.store (L' := (ptO none).abs) tabOk rfl rfl rfl (by repeat first|assumption|exact Upd.here|apply Upd.there) (Pnt.size _) (lb_ (by rfl)) (Pnt.ones _) (by exact putL_whole (Pnt.size _))) rfl rfl ?_
 rintro _ _ ⟨rfl, rfl⟩
 refine SL.val (Val.assign rfl) rfl rfl ?_
 refine SL.nil (SE.seq ?_)
 refine SC.seq (SC.region ?_)
 refine SL.val (Val.move rfl) rfl rfl ?_
 refine SL.val (Val.to (C := .agg fxX.abs) (Val.loadA tabOk rfl rfl rfl (by repeat first|assumption|exact o0_|exact o1_|apply o2_) List.not_mem_nil (Pnt.size _)) rfl) rfl rfl ?_
 refine SL.call (pvote_s (n := 4) (me := 0) (om := []) (vs := fxV1) (bp := z0.1) (bm := z0.2.1) (vv := z0.2.2) (who := 2) (x := fxX) fx_ok1 fx_in) Casts.refl (by kernel_rfl) rfl rfl rfl ?_
 refine After.mid [_, _] (β := []) rfl (by intro x hx; simp only [List.mem_cons, List.not_mem_nil, or_false] at hx; rcases hx with rfl | rfl | rfl <;> rfl) ?_
 intro _
 rw [fx_v2]
 refine SL.val (Val.assign rfl) rfl rfl ?_
 refine SL.nil (SE.seq ?_)
 refine SC.seq (SC.region ?_)
 refine SL.val (Val.move rfl) rfl rfl ?_
 refine SL.call (pweak_s (n := 4) (me := 0) (om := []) (vs := fxV2) (bp := z0.1) (bm := z0.2.1) (vv := z0.2.2) (above := 0) fx_ok2) Casts.refl (by kernel_rfl) rfl rfl rfl ?_
 refine ap_ ?_
 intro _
 rw [fx_w2]
 refine SL.val (Val.move rfl) rfl rfl ?_
 refine SL.val (Val.extract rfl rfl) rfl rfl ?_
 refine SL.val (Val.extract rfl rfl) rfl rfl ?_
 refine SL.eff (Eff.alloc tabOk rfl) rfl rfl ?_
 rintro _ _ ⟨b7, rfl, rfl⟩
 refine SL.eff (Eff.store (L' := (ptO (some fxX)).abs) tabOk rfl rfl rfl (by repeat first|assumption|exact Upd.here|apply Upd.there) (Pnt.size _) (lb_ (by rfl)) (Pnt.ones _) (by exact putL_whole (Pnt.size _))) rfl rfl ?_
 rintro _ _ ⟨rfl, rfl⟩
 refine SL.val (Val.assign rfl) rfl rfl ?_
 refine SL.nil (SE.seq ?_)
 refine SC.seq (SC.region ?_)
 refine SL.val (Val.move rfl) rfl rfl ?_
 refine SL.call (pstable_s (n := 4) (me := 0) (om := []) (vs := fxV2) (bp := z0.1) (bm := z0.2.1) (vv := z0.2.2) (above := 0) fx_ok2) Casts.refl (by kernel_rfl) rfl rfl rfl ?_
 refine ap_ ?_
 intro _
 rw [fx_s2]
 refine SL.val (Val.move rfl) rfl rfl ?_
 refine SL.val (Val.extract rfl rfl) rfl rfl ?_
 refine SL.val (Val.extract rfl rfl) rfl rfl ?_
 refine SL.eff (Eff.alloc tabOk rfl) rfl rfl ?_
 rintro _ _ ⟨b9, rfl, rfl⟩
 refine SL.eff (Eff.store (L' := (ptO none).abs) tabOk rfl rfl rfl (by repeat first|assumption|exact Upd.here|apply Upd.there) (Pnt.size _) (lb_ (by rfl)) (Pnt.ones _) (by exact putL_whole (Pnt.size _))) rfl rfl ?_
 rintro _ _ ⟨rfl, rfl⟩
 refine SL.val (Val.assign rfl) rfl rfl ?_
 refine SL.nil (SE.seq ?_)
 refine SC.seq (SC.region ?_)
 refine SL.val (Val.move rfl) rfl rfl ?_
 refine SL.val (Val.fieldAddr tabOk rfl rfl rfl rfl rfl) rfl rfl ?_
 refine SL.val (Val.to (C := .agg (digA fxD)) (Val.loadP tabOk rfl rfl rfl (by repeat first|assumption|exact o0_|exact o1_|apply o2_) List.not_mem_nil (by show 1 + 32 ≤ fxX.abs.length; rw [Pnt.size]; omega)) (by exact pnt_part fxX)) rfl rfl ?_
 refine SL.eff (Eff.buildOwn tabOk Try.underlying23 rfl rfl rfl rfl rfl rfl rfl) rfl rfl ?_
 rintro _ _ ⟨r42, rfl, rfl⟩
 refine SL.eff (Eff.litBytes (m := [98]) [] Try.underlying23 Try.underlying5 rfl rfl (by simp)) rfl rfl ?_
 rintro _ _ ⟨rfl, rfl⟩
 refine SL.call (pown_s (n := 4) (me := 0) (om := []) (vs := fxV2) (bp := z0.1) (bm := z0.2.1) (vv := z0.2.2) (k := 4) (o := fxO) (by simp [InR, lo, hi]) (by decide)) Casts.refl (by kernel_rfl) rfl rfl rfl ?_
 refine After.mid [_, _, _, _] (β := []) rfl (by intro x hx; simp only [List.mem_cons, List.not_mem_nil, or_false] at hx; rcases hx with rfl | rfl | rfl <;> rfl) ?_
 intro _
 rw [fx_put]
 refine SL.nil (SE.seq ?_)
 refine SC.seq (SC.region ?_)
 refine SL.val (Val.move rfl) rfl rfl ?_
 refine SL.call (pstable_s (n := 4) (me := 0) (om := [(4, fxO)]) (vs := fxV2) (bp := z0.1) (bm := z0.2.1) (vv := z0.2.2) (above := 0) fx_ok3) Casts.refl (by kernel_rfl) rfl rfl rfl ?_
 refine ap_ ?_
 intro _
 rw [fx_s3]
 refine SL.val (Val.move rfl) rfl rfl ?_
 refine SL.val (Val.extract rfl rfl) rfl rfl ?_
 refine SL.val (Val.extract rfl rfl) rfl rfl ?_
 refine SL.eff (Eff.alloc tabOk rfl) rfl rfl ?_
 rintro _ _ ⟨b11, rfl, rfl⟩
 refine SL.eff (Eff.store (L' := (ptO (some fxX)).abs) tabOk rfl rfl rfl (by repeat first|assumption|exact Upd.here|apply Upd.there) (Pnt.size _) (lb_ (by rfl)) (Pnt.ones _) (by exact putL_whole (Pnt.size _))) rfl rfl ?_
 rintro _ _ ⟨rfl, rfl⟩
 refine SL.val (Val.assign rfl) rfl rfl ?_
 refine SL.nil (SE.seq ?_)
 refine SC.seq (SC.region ?_)
 refine SL.val (Val.move rfl) rfl rfl ?_
 refine SL.val (Val.to (C := .agg fxX.abs) (Val.loadA tabOk rfl rfl rfl (by repeat first|assumption|exact o0_|exact o1_|apply o2_) List.not_mem_nil (Pnt.size _)) rfl) rfl rfl ?_
 refine SL.call (pbytes_s (n := 4) (me := 0) (om := [(4, fxO)]) (vs := fxV2) (bp := z0.1) (bm := z0.2.1) (vv := z0.2.2) (x := fxX) fx_ok3 fx_in (by intro e he; rw [List.mem_singleton.1 he]; decide)) Casts.refl (by kernel_rfl) rfl rfl rfl ?_
 refine ap_ ?_
 intro _
 rw [fx_by]
 refine SL.val (Val.move rfl) rfl rfl ?_
 refine SL.val (Val.extract rfl rfl) rfl rfl ?_
 refine SL.val (Val.extract rfl rfl) rfl rfl ?_
 iterate 2 refine SL.val (Val.assign rfl) rfl rfl ?_
 refine SL.nil (SE.seq ?_)
 refine SC.seq (SC.region ?_)
 iterate 3 refine SL.val (Val.move rfl) rfl rfl ?_
 refine SL.val (Val.pickT rfl rfl) rfl rfl ?_
 iterate 2 refine SL.val (Val.move rfl) rfl rfl ?_
 refine SL.val (Val.notF rfl) rfl rfl ?_
 refine SL.val (Val.pickT rfl rfl) rfl rfl ?_
 iterate 2 refine SL.val (Val.move rfl) rfl rfl ?_
 refine SL.val (Val.pickT rfl rfl) rfl rfl ?_
 refine SL.val (Val.move rfl) rfl rfl ?_
 refine SL.val (Val.to (C := .agg fxX.abs) (Val.loadA tabOk rfl rfl rfl (by repeat first|assumption|exact o0_|exact o1_|apply o2_) List.not_mem_nil (Pnt.size _)) rfl) rfl rfl ?_
 refine SL.val (Val.to (C := .agg fxX.abs) (Val.loadA tabOk rfl rfl rfl (by repeat first|assumption|exact o0_|exact o1_|apply o2_) List.not_mem_nil (Pnt.size _)) rfl) rfl rfl ?_
 refine SL.val (Val.eqA rfl rfl (pnt_plains _) (pnt_plains _) (by kernel_rfl) (eqP fx_in fx_in)) rfl rfl ?_
 refine SL.val (Val.pickT rfl rfl) rfl rfl ?_
 refine SL.val (Val.move rfl) rfl rfl ?_
 refine SL.bothP (t := 72) rfl ?_ (by intro hc72; exfalso; exact hc72 rfl)
 intro hc72
 refine SL.val (Val.move rfl) rfl rfl ?_
 refine SL.val (Val.notF rfl) rfl rfl ?_
 refine SL.val (Val.pickT rfl rfl) rfl rfl ?_
 iterate 2 refine SL.val (Val.move rfl) rfl rfl ?_
 refine SL.val (Val.pickT rfl rfl) rfl rfl ?_
 refine SL.val (Val.move rfl) rfl rfl ?_
 refine SL.val (Val.to (C := .agg fxX.abs) (Val.loadA tabOk rfl rfl rfl (by repeat first|assumption|exact o0_|exact o1_|apply o2_) List.not_mem_nil (Pnt.size _)) rfl) rfl rfl ?_
 refine SL.val (Val.to (C := .agg fxX.abs) (Val.loadA tabOk rfl rfl rfl (by repeat first|assumption|exact o0_|exact o1_|apply o2_) List.not_mem_nil (Pnt.size _)) rfl) rfl rfl ?_
 refine SL.val (Val.eqA rfl rfl (pnt_plains _) (pnt_plains _) (by kernel_rfl) (eqP fx_in fx_in)) rfl rfl ?_
 refine SL.val (Val.pickT rfl rfl) rfl rfl ?_
 refine SL.val (Val.move rfl) rfl rfl ?_
 refine SL.bothP (t := 84) rfl ?_ (by intro hc84; exfalso; exact hc84 rfl)
 intro hc84
 refine SL.val (Val.move rfl) rfl rfl ?_
 refine SL.val (Val.to (C := .agg fxX.abs) (Val.loadA tabOk rfl rfl rfl (by repeat first|assumption|exact o0_|exact o1_|apply o2_) List.not_mem_nil (Pnt.size _)) rfl) rfl rfl ?_
 refine SL.call (psup_s (n := 4) (me := 0) (om := [(4, fxO)]) (vs := fxV2) (bp := z0.1) (bm := z0.2.1) (vv := z0.2.2) (x := fxX) fx_ok3 fx_in) Casts.refl (by kernel_rfl) rfl rfl rfl ?_
 refine ap_ ?_
 intro _
 rw [fx_sup]
 refine SL.val (Val.eqI rfl rfl) rfl rfl ?_
 refine SL.val (Val.pickT rfl rfl) rfl rfl ?_
 refine SL.val (Val.move rfl) rfl rfl ?_
 refine SL.bothP (t := 90) rfl ?_ (by intro hc90; exfalso; omega)
 intro hc90
 refine SL.val (Val.move rfl) rfl rfl ?_
 refine SL.val (Val.pickT rfl rfl) rfl rfl ?_
 iterate 2 refine SL.val (Val.move rfl) rfl rfl ?_
 refine SL.val (Val.strOf rfl) rfl rfl ?_
 refine SL.val (Val.eqS rfl rfl) rfl rfl ?_
 refine SL.val (Val.pickT rfl rfl) rfl rfl ?_
 refine SL.val (Val.move rfl) rfl rfl ?_
 refine SL.bothP (t := 98) rfl ?_ (by intro hc98; exfalso; exact hc98 (by decide))
 intro hc98
 refine SL.val (Val.move rfl) rfl rfl ?_
 refine SL.call (ptold_s (n := 4) (me := 0) (om := [(4, fxO)]) (vs := fxV2) (bp := z0.1) (bm := z0.2.1) (vv := z0.2.2) fx_ok3) Casts.refl (by kernel_rfl) rfl rfl rfl ?_
 refine After.make (by repeat (first | exact Reads.nil | (refine Reads.blk ?_ ?_; focus ((repeat first|assumption|exact m0_|apply m1_); done)) | (refine Reads.rd ?_ ?_; focus ((repeat first|assumption|exact m0_|apply m1_); done)) | (refine Reads.pc ?_ ?_; focus ((repeat first|assumption|exact m0_|apply m1_); done)) | (refine Reads.rdpc ?_ ?_; focus ((repeat first|assumption|exact m0_|apply m1_); done)))) (fun _ => rfl) ?_
 intro r100
 rw [fx_told]
 refine SL.val (Val.lenOwn (m := 1) rfl (by repeat first|assumption|exact m0_|apply m1_) Try.underlying40 rfl) rfl rfl ?_
 refine SL.val (Val.eqI rfl rfl) rfl rfl ?_
 refine SL.val (Val.pickT rfl rfl) rfl rfl ?_
 refine SL.val (Val.assign rfl) rfl rfl ?_
 refine SL.nil (SE.seq ?_)
 refine SC.ret ?_
 refine SE.fin (rs := [.tmp 0]) rfl (RV.tmp rfl RV.nil) (()) (by repeat first|exact s0_ _|exact s1_ _|apply s2_|apply s3_) (by simp [It.rids]) ?_
 exact rfl
end
end Go.Proofs.Ytjbikemecdlolaa.A
/-
  Points, plain: the document's.
-/
namespace Go.Proofs.Ytjbikemecdlolaa.A
open Go.RowKit

/-- The document's votes: among them the own points. -/
def dV (me : Nat) (om : List (Int × Ow)) (vs : List (List Pnt)) : List (List Pnt) := vs.set me (ownP om)
/-- The own points' bytes. -/
def rowsP (om : List (Int × Ow)) : List (List UInt8) := (srt (om.map (·.1))).map fun k => ((aget om k).getD Ow.zero).b
/-- How many vote for a point. -/
def supD (dvs : List (List Pnt)) (x : Pnt) : Nat := (dvs.map fun l => l.countP fun y => decide (y = x)).sum
def goodD (dvs : List (List Pnt)) (above at_ : Int) (y : Pnt) : Bool := decide (above < y.seq) && decide (at_ ≤ (supD dvs y : Nat))
def bestD (dvs : List (List Pnt)) (l : List Pnt) (above at_ : Int) : Option Pnt := l.reverse.find? (goodD dvs above at_)
theorem best_step {dvs : List (List Pnt)} {l : List Pnt} {above at_ : Int} {z : Nat} (hz : z < l.length) : bestD dvs (l.take (z + 1)) above at_ = if goodD dvs above at_ l[z] then some l[z] else bestD dvs (l.take z) above at_ := by
  unfold bestD
  rw [List.take_succ_eq_append_getElem hz, List.reverse_append, List.reverse_cons, List.reverse_nil, List.nil_append, List.singleton_append, List.find?_cons]
  cases goodD dvs above at_ l[z] <;> rfl
theorem supD_step {dvs : List (List Pnt)} {x : Pnt} {z : Nat} (hz : z < dvs.length) : supD (dvs.take (z + 1)) x = supD (dvs.take z) x + dvs[z].countP fun y => decide (y = x) := by
  unfold supD
  rw [List.take_succ_eq_append_getElem hz, List.map_append, List.sum_append]
  simp
theorem countP_take {l : List Pnt} {x : Pnt} {z : Nat} (hz : z < l.length) : (l.take (z + 1)).countP (fun y => decide (y = x)) = (l.take z).countP (fun y => decide (y = x)) + if l[z] = x then 1 else 0 := by
  rw [List.take_succ_eq_append_getElem hz, List.countP_append]
  by_cases h : l[z] = x <;> simp [h]
section
variable {n me : Nat} {om : List (Int × Ow)} {vs : List (List Pnt)} {x : Pnt} {k above at_ : Int}
theorem ownP_mem : x ∈ ownP om ↔ ownHas om x = true := by
  unfold ownP ownHas
  rw [List.mem_map, Bool.and_eq_true, decide_eq_true_eq]
  constructor
  · rintro ⟨k, hk, rfl⟩
    rw [srt_mem, aget_key'] at hk
    exact ⟨hk, rfl⟩
  · rintro ⟨h1, h2⟩
    exact ⟨x.seq, by rw [srt_mem, aget_key']; exact h1, Pnt.same rfl h2⟩
where
  aget_key' {γ : Type} {m : List (Int × γ)} {k : Int} : k ∈ m.map (·.1) ↔ (aget m k).isSome = true := by
    induction m with
    | nil => simp [aget]
    | cons e m ih =>
      unfold aget at ih ⊢
      rw [List.map_cons, List.mem_cons, List.find?_cons]
      by_cases he : e.1 = k
      · simp [he]
      · have he2 : ¬ k = e.1 := fun h => he h.symm
        simp only [he, he2, decide_false, false_or]
        exact ih
theorem count_rising {l : List Pnt} (h : Rising l) : l.countP (fun y => decide (y = x)) = if x ∈ l then 1 else 0 := by
  induction l with
  | nil => rfl
  | cons y l ih =>
    have h2 := List.pairwise_cons.1 h
    rw [List.countP_cons, ih h2.2]
    by_cases hy : y = x
    · subst hy
      have hn : y ∉ l := fun h3 => by have := h2.1 y h3; omega
      simp [hn]
    · have hy2 : ¬ x = y := fun h => hy h.symm
      simp [hy, hy2]
theorem sum_map_if {l : List (List Pnt)} : (l.map fun r => if x ∈ r then 1 else 0).sum = (l.filter fun r => decide (x ∈ r)).length := by
  induction l with
  | nil => rfl
  | cons r l ih =>
    rw [List.map_cons, List.sum_cons, ih, List.filter_cons]
    by_cases h : x ∈ r <;> simp [h]; omega
/-- The document counts as the program does. -/
theorem supD_eq (hok : PtsOk n me om vs) (hme : vs[me]? = some []) : supD (dV me om vs) x = supF om vs x := by
  have hlt : me < vs.length := by rw [hok.len]; exact hok.slf
  have hr : ∀ l ∈ dV me om vs, Rising l := fun l hl => by
    rcases List.mem_or_eq_of_mem_set hl with h | h
    · exact hok.rise l h
    · rw [h]; exact ownP_rising hok.nd
  unfold supD
  rw [List.map_congr_left (g := fun r => if x ∈ r then 1 else 0) (fun l hl => count_rising (hr l hl)), sum_map_if, ← List.countP_eq_length_filter]
  unfold dV supF
  rw [List.countP_set hlt, ← List.countP_eq_length_filter]
  have h0 : vs[me] = [] := by rw [List.getElem?_eq_getElem hlt] at hme; exact Option.some.inj hme
  rw [h0]
  by_cases hx : ownHas om x = true
  · have := ownP_mem.2 hx
    simp [hx, this]; omega
  · have : x ∉ ownP om := fun h => hx (ownP_mem.1 h)
    simp [hx, this]
theorem goodD_eq (hok : PtsOk n me om vs) (hme : vs[me]? = some []) : goodD (dV me om vs) above at_ = fun y => decide (above < y.seq) && decide (at_ ≤ (supF om vs y : Nat)) := by
  funext y
  unfold goodD
  rw [supD_eq hok hme]
theorem dV_get (hok : PtsOk n me om vs) {who : Nat} (hw : who < n) : (dV me om vs)[who]? = some (votesF me om vs who) := by
  unfold dV votesF
  have hlt : who < vs.length := by rw [hok.len]; exact hw
  by_cases he : who = me
  · subst he
    rw [List.getElem?_set_self hlt, if_pos rfl]
  · rw [List.getElem?_set_ne (fun h => he h.symm), if_neg he, List.getElem?_eq_getElem hlt]
    rfl
theorem votesI_nat {who : Nat} (hw : who < n) : votesI n me om vs (who : Int) = votesF me om vs who := by
  unfold votesI
  rw [if_neg (by omega)]
  rfl
theorem bestD_eq (hok : PtsOk n me om vs) (hme : vs[me]? = some []) {who : Nat} (hw : who < n) : bestD (dV me om vs) (votesF me om vs who) above at_ = bestF om vs (votesI n me om vs (who : Int)) above at_ := by
  rw [votesI_nat hw]
  unfold bestD bestF
  rw [goodD_eq hok hme]
/-! ### An own point more -/
theorem there_own : thereP (ownP om) k = (aget om k).isSome := by
  unfold thereP ownP
  rw [Bool.eq_iff_iff, List.any_eq_true, ← ownP_mem.aget_key']
  constructor
  · rintro ⟨x, hx, h2⟩
    obtain ⟨j, hj, rfl⟩ := List.mem_map.1 hx
    rw [← (of_decide_eq_true h2 : j = k)]
    exact srt_mem.1 hj
  · intro h
    exact ⟨_, List.mem_map.2 ⟨k, srt_mem.2 h, rfl⟩, decide_eq_true rfl⟩
theorem drop_while {α : Type} (p : α → Bool) : ∀ l : List α, l.drop (l.takeWhile p).length = l.dropWhile p
  | [] => rfl
  | a :: l => by
    have ih := drop_while p l
    by_cases h : p a = true
    · simp [List.takeWhile_cons, List.dropWhile_cons, h, ih]
    · simp [List.takeWhile_cons, List.dropWhile_cons, h]
theorem srt_put_new (h : (aget om k).isSome = false) (o : Ow) : srt ((aput om k o).map (·.1)) = (srt (om.map (·.1))).take (lbP (ownP om) k) ++ k :: (srt (om.map (·.1))).drop (lbP (ownP om) k) := by
  have hk : k ∉ om.map (·.1) := fun hm => by rw [ownP_mem.aget_key'.1 hm] at h; cases h
  have hp : ((aput om k o).map (·.1)).Perm ((srt (om.map (·.1))).take (lbP (ownP om) k) ++ k :: (srt (om.map (·.1))).drop (lbP (ownP om) k)) := by
    unfold aput
    rw [h, if_neg (by decide), List.map_append]
    refine List.Perm.trans ?_ List.perm_middle.symm
    refine (List.perm_append_comm (l₁ := om.map (·.1)) (l₂ := [k])).trans ?_
    refine List.Perm.cons k ?_
    rw [List.take_append_drop]
    exact (srt_perm _).symm
  refine sorted_unique ((srt_perm _).trans hp) (srt_sorted _) ?_
  have hs := srt_sorted (om.map (·.1))
  have hlb : lbP (ownP om) k = ((srt (om.map (·.1))).takeWhile fun j => decide (j < k)).length := by
    unfold lbP ownP
    rw [List.takeWhile_map, List.length_map]
    rfl
  have ht : (srt (om.map (·.1))).take (lbP (ownP om) k) = (srt (om.map (·.1))).takeWhile fun j => decide (j < k) := by
    rw [hlb]
    exact (List.prefix_iff_eq_take.1 (List.takeWhile_prefix _)).symm
  have hd : (srt (om.map (·.1))).drop (lbP (ownP om) k) = (srt (om.map (·.1))).dropWhile fun j => decide (j < k) := by
    rw [hlb]
    exact drop_while _ _
  rw [List.pairwise_append]
  refine ⟨hs.sublist (List.take_sublist _ _), ?_, fun a ha b hb => ?_⟩
  · rw [List.pairwise_cons]
    refine ⟨fun b hb => ?_, hs.sublist (List.drop_sublist _ _)⟩
    rw [hd] at hb
    have hs2 : (srt (om.map (·.1))).dropWhile (fun j => decide (j < k)) |>.Pairwise (· ≤ ·) := hs.sublist (List.dropWhile_sublist _)
    cases hc : (srt (om.map (·.1))).dropWhile (fun j => decide (j < k)) with
    | nil => rw [hc] at hb; cases hb
    | cons c r =>
      have h2 : ¬ c < k := by
        have h3 := List.head?_dropWhile_not (fun j => decide (j < k)) (srt (om.map (·.1)))
        rw [hc] at h3
        simpa using h3
      rw [hc] at hb hs2
      rcases List.mem_cons.1 hb with rfl | hb
      · omega
      · have := (List.pairwise_cons.1 hs2).1 b hb
        omega
  · have ha2 : a < k := by
      rw [ht] at ha
      have := List.all_takeWhile (p := fun j => decide (j < k)) (l := srt (om.map (·.1)))
      exact of_decide_eq_true (List.all_eq_true.1 this a ha)
    rcases List.mem_cons.1 hb with rfl | hb
    · omega
    · have h1 : (srt (om.map (·.1))).Pairwise (· ≤ ·) := hs
      rw [← List.take_append_drop (lbP (ownP om) k) (srt (om.map (·.1))), List.pairwise_append] at h1
      exact h1.2.2 a ha b hb
end
end Go.Proofs.Ytjbikemecdlolaa.A
/-
  Points, plain: the document's own points: one more, another one, fewer.
-/
namespace Go.Proofs.Ytjbikemecdlolaa.A
open Go.RowKit

section
variable {n me : Nat} {om : List (Int × Ow)} {vs : List (List Pnt)} {x : Pnt} {k low : Int} {o : Ow}
def ptAt (om : List (Int × Ow)) (k : Int) : Pnt := ⟨k, ((aget om k).getD Ow.zero).dig, ((aget om k).getD Ow.zero).len⟩
def rowAt (om : List (Int × Ow)) (k : Int) : List UInt8 := ((aget om k).getD Ow.zero).b
theorem ownP_def : ownP om = (srt (om.map (·.1))).map (ptAt om) := rfl
theorem rowsP_def : rowsP om = (srt (om.map (·.1))).map (rowAt om) := rfl
theorem rowsP_length : (rowsP om).length = (ownP om).length := by rw [rowsP_def, ownP_def, List.length_map, List.length_map]
theorem pt_other {j : Int} (h : j ≠ k) : ptAt (aput om k o) j = ptAt om j ∧ rowAt (aput om k o) j = rowAt om j := by
  unfold ptAt rowAt
  have h2 : aget (aput om k o) j = aget om j := by rw [aget_aput, if_neg h]
  exact ⟨Pnt.same rfl (by dsimp only; rw [h2]), by rw [h2]⟩
theorem pt_same : ptAt (aput om k o) k = ⟨k, o.dig, o.len⟩ ∧ rowAt (aput om k o) k = o.b := by
  unfold ptAt rowAt
  have h2 : aget (aput om k o) k = some o := by rw [aget_aput, if_pos rfl]
  exact ⟨Pnt.same rfl (by dsimp only; rw [h2]; rfl), by rw [h2]; rfl⟩
theorem own_new (h : (aget om k).isSome = false) : ownP (aput om k o) = (ownP om).take (lbP (ownP om) k) ++ ⟨k, o.dig, o.len⟩ :: (ownP om).drop (lbP (ownP om) k) ∧ rowsP (aput om k o) = (rowsP om).take (lbP (ownP om) k) ++ o.b :: (rowsP om).drop (lbP (ownP om) k) := by
  have hk : ∀ j ∈ srt (om.map (·.1)), j ≠ k := fun j hj e => by
    rw [e] at hj
    rw [ownP_mem.aget_key'.1 (srt_mem.1 hj)] at h
    cases h
  rw [ownP_def, rowsP_def, srt_put_new h o, List.map_append, List.map_append, List.map_cons, List.map_cons, pt_same.1, pt_same.2, ownP_def, rowsP_def, ← List.map_take, ← List.map_drop, ← List.map_take, ← List.map_drop]
  have e1 : ∀ l : List Int, (∀ j ∈ l, j ≠ k) → l.map (ptAt (aput om k o)) = l.map (ptAt om) := fun l hl => List.map_congr_left fun j hj => (pt_other (hl j hj)).1
  have e2 : ∀ l : List Int, (∀ j ∈ l, j ≠ k) → l.map (rowAt (aput om k o)) = l.map (rowAt om) := fun l hl => List.map_congr_left fun j hj => (pt_other (hl j hj)).2
  have t1 : ∀ q, ∀ j ∈ (srt (om.map (·.1))).take q, j ≠ k := fun q j hj => hk j (List.mem_of_mem_take hj)
  have d1 : ∀ q, ∀ j ∈ (srt (om.map (·.1))).drop q, j ≠ k := fun q j hj => hk j (List.mem_of_mem_drop hj)
  rw [e1 _ (t1 _), e1 _ (d1 _), e2 _ (t1 _), e2 _ (d1 _)]
  exact ⟨rfl, rfl⟩
theorem map_one {α : Type} {ks : List Int} {f g : Int → α} {p : Nat} (hn : ks.Nodup) (hp : p < ks.length) (h : ∀ j, j ≠ ks[p] → g j = f j) : ks.map g = (ks.map f).set p (g ks[p]) := by
  refine List.ext_getElem (by simp) fun i h1 h2 => ?_
  rw [List.getElem_set, List.getElem_map]
  split
  · next he => subst he; rfl
  · next he =>
    rw [List.getElem_map]
    refine h _ fun e => he ?_
    exact ((List.getElem_inj hn).1 e).symm
theorem own_old (hn : (om.map (·.1)).Nodup) (h : (aget om k).isSome = true) : lbP (ownP om) k < (ownP om).length ∧ ownP (aput om k o) = (ownP om).set (lbP (ownP om) k) ⟨k, o.dig, o.len⟩ ∧ rowsP (aput om k o) = (rowsP om).set (lbP (ownP om) k) o.b := by
  have hr : Rising (ownP om) := ownP_rising hn
  have ht : thereP (ownP om) k = true := by rw [there_own]; exact h
  obtain ⟨hq, he⟩ := (thereP_at hr).1 ht
  have hql : lbP (ownP om) k < (srt (om.map (·.1))).length := by rw [ownP_def, List.length_map] at hq; exact hq
  have hk : (srt (om.map (·.1)))[lbP (ownP om) k] = k := by
    have h2 : (ownP om)[lbP (ownP om) k] = ptAt om ((srt (om.map (·.1)))[lbP (ownP om) k]) := by simp [ownP_def]
    rw [h2] at he
    exact he
  have hkeys : (aput om k o).map (·.1) = om.map (·.1) := by
    unfold aput
    rw [h, if_pos rfl, List.map_map]
    refine List.map_congr_left fun e _ => ?_
    show (if e.1 = k then (k, o) else e).1 = e.1
    split
    · next h2 => exact h2.symm
    · rfl
  have hnd : (srt (om.map (·.1))).Nodup := (srt_perm _).nodup_iff.2 hn
  refine ⟨hq, ?_, ?_⟩
  · rw [ownP_def, hkeys, map_one (f := ptAt om) hnd hql (fun j hj => (pt_other (by rw [hk] at hj; exact hj)).1), hk, pt_same.1]
    rfl
  · rw [rowsP_def, hkeys, map_one (f := rowAt om) hnd hql (fun j hj => (pt_other (by rw [hk] at hj; exact hj)).2), hk, pt_same.2]
    rfl
/-- Those below a number are let go. -/
theorem own_move (hn : (om.map (·.1)).Nodup) {z : Nat} (hz : z ≤ (ownP om).length) (h1 : ∀ j (h : j < (ownP om).length), j < z → (ownP om)[j].seq < low) (h2 : ∀ h : z < (ownP om).length, ¬ (ownP om)[z].seq < low) : ownP (om.filter fun e => !decide (e.1 < low)) = (ownP om).drop z ∧ rowsP (om.filter fun e => !decide (e.1 < low)) = (rowsP om).drop z := by
  have hs := srt_sorted (om.map (·.1))
  have hzl : z ≤ (srt (om.map (·.1))).length := by rw [ownP_def, List.length_map] at hz; exact hz
  have hat : ∀ j (h : j < (srt (om.map (·.1))).length), (srt (om.map (·.1)))[j] < low ↔ j < z := fun j h => by
    have hl : (ownP om).length = (srt (om.map (·.1))).length := by rw [ownP_def, List.length_map]
    have e : ∀ i (hi : i < (srt (om.map (·.1))).length), ((ownP om)[i]'(by omega)).seq = (srt (om.map (·.1)))[i] := fun i hi => by
      have h9 : (ownP om)[i]'(by omega) = ptAt om ((srt (om.map (·.1)))[i]) := by simp [ownP_def]
      rw [h9]; rfl
    constructor
    · intro h3
      refine Classical.byContradiction fun h4 => ?_
      have h5 := h2 (by omega)
      rw [e z (by omega)] at h5
      rcases Nat.lt_or_ge z j with h6 | h6
      · have := List.pairwise_iff_getElem.1 hs z j (by omega) h h6
        omega
      · obtain rfl : j = z := by omega
        exact h5 h3
    · intro h3
      have h4 := h1 j (by omega) h3
      rw [e j h] at h4
      exact h4
  have hkeys : srt ((om.filter fun e => !decide (e.1 < low)).map (·.1)) = (srt (om.map (·.1))).drop z := by
    refine sorted_unique ((srt_perm _).trans ?_) (srt_sorted _) (hs.sublist (List.drop_sublist _ _))
    have e1 : (om.filter fun e => !decide (e.1 < low)).map (·.1) = (om.map (·.1)).filter fun j => !decide (j < low) := by
      rw [List.filter_map]; rfl
    rw [e1]
    refine ((srt_perm (om.map (·.1))).symm.filter _).trans ?_
    have e2 : (srt (om.map (·.1))).filter (fun j => !decide (j < low)) = (srt (om.map (·.1))).drop z := by
      conv => lhs; rw [← List.take_append_drop z (srt (om.map (·.1)))]
      rw [List.filter_append, List.filter_eq_nil_iff.2 (fun j hj => ?_), List.filter_eq_self.2 (fun j hj => ?_), List.nil_append]
      · obtain ⟨i, hi, rfl⟩ := List.getElem_of_mem hj
        rw [List.length_drop] at hi
        rw [List.getElem_drop]
        have := (hat (z + i) (by omega))
        simp; omega
      · obtain ⟨i, hi, rfl⟩ := List.getElem_of_mem hj
        rw [List.length_take] at hi
        rw [List.getElem_take]
        have := (hat i (by omega))
        simp; omega
    rw [e2]
  have hget : ∀ j ∈ (srt (om.map (·.1))).drop z, aget (om.filter fun e => !decide (e.1 < low)) j = aget om j := fun j hj => by
    obtain ⟨i, hi, rfl⟩ := List.getElem_of_mem hj
    rw [List.length_drop] at hi
    rw [List.getElem_drop]
    have hnl : ¬ (srt (om.map (·.1)))[z + i] < low := fun h => by have := (hat (z + i) (by omega)).1 h; omega
    exact get_filter hnl
  rw [ownP_def, rowsP_def, hkeys, ownP_def, rowsP_def, ← List.map_drop, ← List.map_drop]
  refine ⟨List.map_congr_left fun j hj => ?_, List.map_congr_left fun j hj => ?_⟩
  · unfold ptAt; exact Pnt.same rfl (by dsimp only; rw [hget j hj])
  · unfold rowAt; rw [hget j hj]
where
  get_filter {om : List (Int × Ow)} {j low : Int} (h : ¬ j < low) : aget (om.filter fun e => !decide (e.1 < low)) j = aget om j := by
    induction om with
    | nil => rfl
    | cons e om ih =>
      unfold aget at ih ⊢
      rw [List.filter_cons, List.find?_cons]
      by_cases he : e.1 = j
      · rw [if_pos (by rw [he]; simpa using h), List.find?_cons]
        simp [he]
      · split
        · rw [List.find?_cons]
          simp only [he, decide_false]
          exact ih
        · simp only [he, decide_false]
          exact ih
/-- An own point's bytes stand where the point does. -/
theorem bytes_at {z : Nat} (hz : z < (ownP om).length) (hx : (ownP om)[z] = x) : bytesF om x = some ((rowsP om)[z]'(by rw [rowsP_length]; exact hz)) := by
  have hl : z < (srt (om.map (·.1))).length := by rw [ownP_def, List.length_map] at hz; exact hz
  have hm : x ∈ ownP om := by rw [← hx]; exact List.getElem_mem hz
  unfold bytesF
  rw [if_pos (ownP_mem.1 hm)]
  congr 1
  have h9 : (ownP om)[z] = ptAt om ((srt (om.map (·.1)))[z]) := by simp [ownP_def]
  have h8 : (rowsP om)[z]'(by rw [rowsP_length]; exact hz) = rowAt om ((srt (om.map (·.1)))[z]) := by simp [rowsP_def]
  rw [h8, ← hx, h9]
  rfl
theorem bytes_no (h : x ∉ ownP om) : bytesF om x = none := by
  unfold bytesF
  rw [if_neg fun h2 => h (ownP_mem.2 h2)]
theorem dV_set {who : Nat} {l : List Pnt} (h : who ≠ me) : dV me om (vs.set who l) = (dV me om vs).set who l := by
  unfold dV
  exact List.set_comm _ _ h
theorem dV_own {om2 : List (Int × Ow)} : dV me om2 vs = (dV me om vs).set me (ownP om2) := by
  unfold dV
  rw [List.set_set]
/-- The first told ones. -/
def toldTo (l : List Pnt) (z : Nat) : List Pnt := if 1 < l.length - 3 then l.take (min z 1) ++ (l.take z).drop (l.length - 3) else l.take z
theorem told_end (l : List Pnt) : toldTo l l.length = toldF l := by
  unfold toldTo toldF
  split
  · rw [Nat.min_eq_right (by omega), List.take_length]
  · rw [List.take_length]
theorem told_yes {l : List Pnt} {z : Nat} (hz : z < l.length) (h : z = 0 ∨ (l.length : Int) - 3 ≤ z) : toldTo l (z + 1) = toldTo l z ++ [l[z]] := by
  unfold toldTo
  split
  · next h2 =>
    rcases Nat.eq_zero_or_pos z with rfl | hp
    · have e1 : (l.take 1).drop (l.length - 3) = [] := List.drop_eq_nil_of_le (by rw [List.length_take]; omega)
      have e2 : l.take 1 = [l[0]] := by rw [List.take_succ_eq_append_getElem hz]; rfl
      simp [e1, e2]
      try omega
    · rw [Nat.min_eq_right (by omega), Nat.min_eq_right (by omega), List.take_succ_eq_append_getElem hz, List.drop_append_of_le_length (by rw [List.length_take]; omega), List.append_assoc]
  · rw [List.take_succ_eq_append_getElem hz]
theorem told_no {l : List Pnt} {z : Nat} (hz : z < l.length) (h : ¬ (z = 0 ∨ (l.length : Int) - 3 ≤ z)) : toldTo l (z + 1) = toldTo l z := by
  unfold toldTo
  split
  · rw [Nat.min_eq_right (by omega), Nat.min_eq_right (by omega), List.drop_eq_nil_of_le (by rw [List.length_take]; omega), List.drop_eq_nil_of_le (by rw [List.length_take]; omega)]
  · omega
theorem toldTo_len {l : List Pnt} {z : Nat} : (toldTo l z).length ≤ 1 + l.length := by
  unfold toldTo
  split
  · rw [List.length_append, List.length_take, List.length_drop, List.length_take]; omega
  · rw [List.length_take]; omega
end
end Go.Proofs.Ytjbikemecdlolaa.A
/-
  The second engine: a row of one's own whose first elements may have been cut off ('s = s[1:]'), of elements of one cell.
-/
namespace Go.Proofs.Ytjbikemecdlolaa.A
open Go.RowKit

def offPc (e : TypeId) (v : Value) (xs : List (List Abs)) : Pc where
  ids := v.ownBlock.toList
  p := fun K w => ∃ us, repss K w 1 xs us ∧ IsRow [] w v xs.length us ∧ (∀ g, v.ownBlock = some g → g < w.heap.size) ∧
    (xs ≠ [] → ∃ g off cap cur, v = .slice (some ⟨g, off, none⟩) xs.length cap ∧ w.heap[g]? = some (.cells cur e (0, 0)) ∧ off + xs.length ≤ cur.size ∧ (cur.toList.drop off).take xs.length = us)
  carry := fun K w K' w' hc hs ⟨us, h1, h2, h3, h4⟩ => by
    have hk : ∀ g, v.ownBlock = some g → w'.heap[g]? = w.heap[g]? := fun g hg => hs g (by simp [hg])
    refine ⟨us, repss_carry hc 1 xs us h1, ⟨h2.shape, fun hn => ?_⟩, fun g hg => Nat.lt_of_lt_of_le (h3 g hg) hc.size, fun hx => ?_⟩
    · obtain ⟨b, off, n', c, hv, hb, hcl⟩ := h2.cells hn
      refine ⟨b, off, n', c, hv, hb, fun j u hu => ?_⟩
      rw [← hcl j u hu]
      exact World.cell?_of_block (w := w) (hk b (by rw [hv]; rfl))
    · obtain ⟨g, off, cap, cur, hv, hg, h5, h6⟩ := h4 hx
      exact ⟨g, off, cap, cur, hv, (hk g (by rw [hv]; rfl)).trans hg, h5, h6⟩
  lt := fun K w ⟨us, _, _, h3, _⟩ k hk => h3 k (by simpa using hk)
abbrev off_ (e : TypeId) (v : Value) (xs : List (List Abs)) : It := .pc (offPc e v xs)
abbrev isOff (σ : Blks) (e : TypeId) (v : Value) (xs : List (List Abs)) : Prop := off_ e v xs ∈ σ ∨ It.rdpc (offPc e v xs) ∈ σ
theorem off_nodup {e : TypeId} {v : Value} {xs : List (List Abs)} : (off_ e v xs).mids.Nodup := own_nodup (e := e) (s := 1) (v := v) (xs := xs)
section
variable {P : Program} {n : Nat} {W : Wd} {σ τ : Blks} {l : Slots} {X : List Nat} {x y z : Operand} {d : Option Nat} {ty t t' e e' : TypeId} {pos : String} {aft : Array Edge} {g : Option (Nat × Bool)} {v : Value} {k : IntKind} {A : Abs} {tab : List (Nat × TI)} {xs : List (List Abs)} {q : Nat} {cs : List Abs} {Q : Exit → Act → World → Prop} {ops : Array Oper} {rest : List Oper} {ix : Plan}
theorem Re.offOf : Re [own e 1 v xs] [off_ e v xs] := ⟨⟨[], by simp [mids, It.mids, ownPc, offPc]⟩, by simp [It.rids], fun K w h y hy => by
  rw [List.mem_singleton.1 hy]
  obtain ⟨us, h1, h2⟩ : (ownPc e 1 v xs).p K w := h _ List.mem_cons_self
  refine ⟨us, h2, ownsRow.isRow h1 (by simp), fun g hg => ?_, fun hx => ?_⟩
  · exact (ownPc e 1 v xs).lt K w ⟨us, h1, h2⟩ g (by simp [ownPc, hg])
  · rcases h1.2 with ⟨_, h0⟩ | ⟨gb, cap, cur, hv, _, hg, hn, _, hcs, htk⟩
    · exact absurd (List.length_eq_zero_iff.1 h0) hx
    · refine ⟨gb, 0, cap, cur, hv, hg, by omega, ?_⟩
      rw [List.drop_zero, ← htk, Nat.mul_one]⟩
theorem Mem.offR {w0 w : World} {F G : List Nat} (h : Mem w0 F G σ w) (hb : isOff σ e v xs) : ∃ us, IsRow [] w v xs.length us ∧ repss (mids σ ++ G) w 1 xs us := by
  have hp : (offPc e v xs).p (mids σ ++ G) w := by
    rcases hb with hb | hb
    · exact h.hold _ hb
    · exact h.hold _ hb
  obtain ⟨us, h1, h2, _⟩ := hp
  exact ⟨us, h2, h1⟩
theorem Val.indexOff (hT : TabOk P tab) {j : TI} (hu : P.underlying t = some (.slice e)) (hj : ti tab e = some j) (hx : look l x = some (.v v)) (hb : isOff σ e' v xs) {r : Int} (hy : look l y = some (.v (.int k r))) (hr : r = (q : Nat)) (hq : q < xs.length) (hsz : Nat.beq 1 j.size = true) :
    Val P n W σ l X ⟨d, .indexAddr t x y, ty, pos, aft, g⟩ (.v (eptr v (q * 1))) := Val.mk' fun a w hs hX => by
  subst hr
  have hsz := Nat.eq_of_beq_eq_true hsz
  obtain ⟨us, h1, h2⟩ := hs.mem.offR hb
  obtain ⟨b, off, c, hv, _⟩ := own_at h1 h2 (by omega) (List.getElem?_eq_getElem hq)
  refine ⟨_, rfl, fun w' _ => ?_⟩
  rw [hv]
  show Proofs.Ytjbikemecdlolaa.Val _ _ _ _ _ (.pointer (some ⟨b, off + q * 1, none⟩))
  rw [hsz]
  exact Proofs.Ytjbikemecdlolaa.Val.indexSlN hT hu hj (by rw [hs.at2 hx, hs.plain hx, hv]) (by rw [hs.at2 hy, hs.plain hy]) hq
theorem Val.loadOff (hT : TabOk P tab) {sz : Nat} {zs : List Value} (ht : ti tab t = some ⟨sz, .one, zs⟩) (hx : look l x = some (.v (eptr v (q * 1)))) (hb : isOff σ e' v xs) (hq : xs[q]? = some cs) (hv : cs[0]? = some A) : Val P n W σ l [] ⟨d, .load t x, ty, pos, aft, g⟩ A := Val.mk' fun a w hs hX => by
  obtain ⟨us, h1, h2⟩ := hs.mem.offR hb
  obtain ⟨b, off, c, hvv, hbl, vs, h3, h4, h5⟩ := own_at h1 h2 (by omega) hq
  obtain ⟨u, h6, h7⟩ := reps_get h4 hv
  refine ⟨u, h7, fun w' hw' => Proofs.Ytjbikemecdlolaa.Val.load1C (b := b) (o := off + q * 1) hT ht (by rw [hs.at2 hx, hs.plain hx, hvv]; rfl) fun w1 e => by subst e; exact cell_later hw' (by simp) (h5 0 u h6)⟩
/-- 's[q:]'. -/
theorem Val.cutOff (hT : TabOk P tab) {j : TI} (hu : P.underlying t = some (.slice e)) (hj : ti tab e = some j) (h1 : Nat.beq j.size 1 = true) (hx : look l x = some (.v v)) (hb : isOff σ e' v xs) {r : Int} (hy : look l y = some (.v (.int k r))) (hr : r = (q : Nat)) (hn : xs ≠ []) (hq : q ≤ xs.length) :
    Val P n W σ l X ⟨d, .slice t x (some y) none none, ty, pos, aft, g⟩ (.v (cutS 1 v q)) := fun a w hs _ => by
  subst hr
  have h1 := Nat.eq_of_beq_eq_true h1
  obtain ⟨us, hr1, hr2⟩ := hs.mem.offR hb
  obtain ⟨A', c, hsh, h6, h7, h8⟩ := hr1.shape
  obtain ⟨b, off, c', hv, _⟩ := own_at hr1 hr2 (by omega) (List.getElem?_eq_getElem (i := 0) (List.length_pos_iff.2 hn))
  refine ⟨_, rfl, fun w' _ => ?_⟩
  have h9 := (hT _ _ hj).sizeOf (w := w')
  have e1 : a.eval x = .slice (some ⟨b, off, none⟩) xs.length c' := by rw [← hv]; exact hs.plain hx
  have e2 : a.eval y = .int k ((q : Nat) : Int) := hs.plain hy
  have hcc : xs.length ≤ c' := by rw [hv] at hsh; cases hsh; exact h6
  have hq' : q ≤ xs.length := hq
  rw [hv]
  by_cases hc : c' = q
  · subst hc
    simp [execOp, Instr.sliceAt, Instr.slice, Instr.sliceBounds, Instr.sliceBound, asIntOf, e1, e2, run_underlying hu, Sem.run_bind, Result.andThen, h9, h1, hq', Addr.add, cutS]
    try omega
  · simp [execOp, Instr.sliceAt, Instr.slice, Instr.sliceBounds, Instr.sliceBound, asIntOf, e1, e2, run_underlying hu, Sem.run_bind, Result.andThen, h9, h1, hq', hc, Addr.add, cutS]
    try omega
theorem cutS_block (v : Value) (q : Nat) (s : Nat) : (cutS s v q).ownBlock = v.ownBlock := by
  unfold cutS
  split
  · split <;> rfl
  · rfl
  · rfl
/-- The first elements are let go. -/
theorem St.cutOff {a : Act} {w : World} (h : St n W σ l a w) (hu : Upd (off_ e v xs) (off_ e (cutS 1 v q) (xs.drop q)) σ τ) (hn : xs ≠ []) (hq : q ≤ xs.length) : St n W τ l a w := by
  obtain ⟨us, h1, h2, h3, h4⟩ : (offPc e v xs).p _ w := h.mem.hold _ hu.mem
  obtain ⟨A', c', hsh, h6, h7, h8⟩ := h2.shape
  obtain ⟨g, off, cap, cur, hv, hg, h5, h9⟩ := h4 hn
  rw [hv] at hsh
  cases hsh
  have hlen := repss_length h1
  have hcs : cutS 1 v q = .slice (some (if c' = q then ⟨g, off, none⟩ else ⟨g, off + q, none⟩)) (xs.drop q).length (c' - q) := by
    rw [hv, List.length_drop]
    simp [cutS]
  have hmx : ∀ c, xs.drop q ≠ [] → c = c' → ¬ c = q := fun c h0 h1 h3 => h0 (List.drop_eq_nil_of_le (by omega))
  have hm := h.mem.upd hu (Ext.refl w) off_nodup (fun k hk => .inl (by simpa [It.mids, offPc, cutS_block] using hk)) rfl fun hc => by
    have hdr : repss (mids τ ++ W.G) w 1 (xs.drop q) (us.drop q) := by
      have h0 := (repss_cut (repss_carry hc 1 _ _ h1) q (by omega)).2
      rwa [Nat.mul_one] at h0
    refine ⟨us.drop q, hdr, ⟨⟨_, _, hcs, by rw [List.length_drop]; omega, by omega, by simp⟩, fun hn => ⟨g, off + q, _, _, by rw [hcs, if_neg (fun h0 => hn (List.drop_eq_nil_of_le (by omega)))], by simp, fun j u hu => ?_⟩⟩, fun g' hg' => h3 g' (by rw [← cutS_block v q 1]; exact hg'), fun hx => ⟨g, off + q, _, cur, by rw [hcs, if_neg (hmx _ hx rfl)], hg, by rw [List.length_drop]; omega, ?_⟩⟩
    · rw [List.getElem?_drop] at hu
      obtain ⟨b, off2, n', c2, hv2, hb, hcl⟩ := h2.cells (by intro h0; rw [h0] at hu; simp at hu)
      rw [hv] at hv2
      cases hv2
      rw [Nat.add_assoc]
      exact hcl _ u hu
    · rw [List.length_drop, ← h9, List.drop_take, List.drop_drop]
  exact h.to hm.1 hm.2
theorem SL.cutOff (hu : Upd (off_ e v xs) (off_ e (cutS 1 v q) (xs.drop q)) σ τ) (hn : xs ≠ []) (hq : q ≤ xs.length) (k : SL P ops rest (St n W τ l) Q) : SL P ops rest (St n W σ l) Q := fun a w h => k a w (h.cutOff hu hn hq)
/-- It is only read from then on. -/
theorem off_sl {w0 w : World} {F G : List Nat} {pre post : Blks} (h : Mem w0 F G (pre ++ off_ e v xs :: post) w) : rep (mids (pre ++ post) ++ G) w (.sl 1 xs) v := by
  obtain ⟨us, h1, h2, h3, h4⟩ : (offPc e v xs).p _ w := h.hold (off_ e v xs) (by simp)
  have hc := (h.sub (τ := pre ++ post) (List.Sublist.append (List.Sublist.refl _) (List.sublist_cons_self _ _))).2
  refine ⟨us, ⟨h2.shape, fun hn => ?_⟩, repss_carry hc 1 xs us h1⟩
  obtain ⟨b, off, n', c, hv, hb, hcl⟩ := h2.cells hn
  refine ⟨b, off, n', c, hv, fun hm => ?_, hcl⟩
  have hk' : b ∈ (off_ e v xs).mids := by rw [hv]; simp [It.mids, offPc, Value.ownBlock]
  have hnd := h.nodup
  simp only [mids_append, mids_cons, List.nodup_append] at hnd hm
  obtain ⟨n1, ⟨n2, n3, n4⟩, n5⟩ := hnd
  rcases List.mem_append.1 hm with hm | hm
  · rcases List.mem_append.1 hm with hm | hm
    · exact n5 b hm b (List.mem_append_left _ hk') rfl
    · exact n4 b hk' b hm rfl
  · exact h.sep b (by simp [mids_append, mids_cons, hk']) hm
/-- A row that a block's cell holds is only read from then on. -/
theorem St.freezeOffC {a : Act} {w : World} {pre post : Blks} {b o : Nat} {cs : List Abs} (h : St n W (pre ++ off_ e v xs :: post) l a w) (hu : Upd (.blk b t cs) (.blk b t (putL cs o [.sl 1 xs])) (pre ++ post) τ) (hv : cs[o]? = some (.v v)) : St n W τ l a w := by
  have hsub : (pre ++ post).Sublist (pre ++ off_ e v xs :: post) := List.Sublist.append (List.Sublist.refl _) (List.sublist_cons_self _ _)
  have h1 := h.less hsub
  have h2 := off_sl h.mem
  obtain ⟨us, hb, hr⟩ := h1.mem.hold _ hu.mem
  obtain ⟨u, h3, h4⟩ := reps_get hr hv
  rw [show u = v from h4] at h3
  have hm := h1.mem.upd hu (Ext.refl w) (by simp [It.mids]) (fun k hk => .inl hk) rfl fun hc => ⟨us, hb, reps_carry hc _ _ (reps_set hr h3 h2)⟩
  exact h1.to hm.1 hm.2
theorem SC.freezeOffC {c : Code} (pre : Blks) {post : Blks} {b : Nat} (o : Nat) (hσ : σ = pre ++ off_ e v xs :: post) (hu : Upd (.blk b t cs) (.blk b t (putL cs o [.sl 1 xs])) (pre ++ post) τ) (hv : cs[o]? = some (.v v)) (k : SC P c (St n W τ l) Q) : SC P c (St n W σ l) Q := by
  subst hσ; exact fun a w h => k a w (h.freezeOffC hu hv)
/-- 's[q] = x'. -/
theorem Eff.setOff (hT : TabOk P tab) {sz : Nat} {zs : List Value} (ht : ti tab t = some ⟨sz, .one, zs⟩) (hsz : Nat.beq sz 1 = true) (hx : look l x = some (.v (eptr v (q * 1)))) (hy : look l y = some A) (h1 : A.one = true) (hu : Upd (off_ e v xs) (off_ e v (xs.set q [A])) σ τ) (hq : q < xs.length) :
    Eff P n W σ l v.ownBlock.toList ⟨d, .store t x y, ty, pos, aft, g⟩ fun u τ' => u = .v undef ∧ τ' = τ := fun ac w hst => by
  have hsz := Nat.eq_of_beq_eq_true hsz
  subst hsz
  obtain ⟨us, hr, h2, h3, h4⟩ : (offPc e v xs).p _ w := hst.mem.hold _ hu.mem
  obtain ⟨gb, off, cap, cur, hv, hg, h5, h9⟩ := h4 (by intro h0; rw [h0] at hq; cases hq)
  subst hv
  have hlen := repss_length hr
  rw [Nat.mul_one] at hlen
  have hry : rep (mids σ ++ W.G) w A (ac.eval y) := hst.eval hy
  have hone := Abs.one_rep hry h1
  have h6 := (hT t _ ht).sizeOf (w := w)
  have hrun := run_storeCells_at (P := P) gb (off + q) e [ac.eval y] 0 cur w hg (by simp only [List.length_cons, List.length_nil]; omega) (by intro u hu; rw [List.mem_singleton.1 hu]; exact hone)
  rw [Nat.add_zero] at hrun
  have hcl : cur.toList.length = cur.size := by simp
  have hxx : Ext (Value.ownBlock (.slice (some ⟨gb, off, none⟩) xs.length cap)).toList w (w.setRow gb (cur.toList.take (off + q) ++ [ac.eval y] ++ cur.toList.drop (off + q + [ac.eval y].length)).toArray) := (Ext.refl w).setRow (.inl (by simp [Value.ownBlock])) _
  have hnew : ((cur.toList.take (off + q) ++ [ac.eval y] ++ cur.toList.drop (off + q + [ac.eval y].length)).drop off).take xs.length = us.set q (ac.eval y) := by
    rw [← h9]
    apply List.ext_getElem?
    intro j
    simp only [List.getElem?_take, List.getElem?_drop, List.getElem?_append, List.length_append, List.length_take, List.length_cons, List.length_nil, List.getElem?_set, List.length_drop]
    grind
  have hrs : ∀ {K : List Nat} {w' : World}, rep K w' A (ac.eval y) → ∀ {xs : List (List Abs)} {us : List Value} {q : Nat}, repss K w' 1 xs us → repss K w' 1 (xs.set q [A]) (us.set q (ac.eval y)) := by
    intro K w' hA xs
    induction xs with
    | nil => intro us q h; have h : us = [] := h; subst h; exact rfl
    | cons x xs ih =>
      rintro us q ⟨us1, us2, rfl, hl, hx1, hx2⟩
      match us1, hl with
      | [u1], _ =>
        cases q with
        | zero => exact ⟨[ac.eval y], us2, rfl, rfl, ⟨_, _, rfl, hA, rfl⟩, hx2⟩
        | succ q => exact ⟨[u1], _, rfl, rfl, hx1, ih hx2⟩
  have hset : (xs.set q [A]).length = xs.length := List.length_set
  have hgl := heap_lt hg
  have hm := hst.mem.upd hu hxx off_nodup (fun k hk => .inl hk) rfl fun hca => ⟨us.set q (ac.eval y), hrs (rep_carry hca _ _ hry) (repss_carry hca _ _ _ hr), ?_, fun g' hg' => ?_, fun hx => ⟨gb, off, cap, _, by rw [hset], setRow_heap w gb cur _ e (0, 0) hg, ?_, by rw [hset]; simpa using hnew⟩⟩
  · refine ⟨undef, _, _, _, ⟨rfl, rfl⟩, hxx, rfl, hm.1, hm.2, .inr ⟨rfl, ?_⟩⟩
    have hx2 : ac.eval x = .pointer (some ⟨gb, off + q * 1, none⟩) := hst.plain hx
    rw [Nat.mul_one] at hx2
    have hcs : (ac.eval y).cells = #[ac.eval y] := by
      rw [cellsL_eq]
      cases hv9 : ac.eval y <;> first | rfl | (rw [hv9] at hone; cases hone)
    simp [execOp, hx2, Instr.storeAt, Instr.sureAddr, storeVar, Sem.run_bind, hcs, h6, hrun, Result.andThen]
    try simp_all
  · refine ⟨by rw [hset]; exact h2.shape, fun hn => ⟨gb, off, _, _, rfl, by simp, fun j u hu => ?_⟩⟩
    rw [← hnew, List.getElem?_take] at hu
    split at hu
    · rw [List.getElem?_drop] at hu
      simp only [World.cell?, setRow_heap w gb cur _ e (0, 0) hg]
      simpa using hu
    · cases hu
  · have hg2 : g' = gb := by simpa [Value.ownBlock, eq_comm] using hg'
    subst hg2
    exact Nat.lt_of_lt_of_le hgl hxx.size
  · rw [hset]
    simp only [List.size_toArray, List.length_append, List.length_take, List.length_drop, List.length_cons, List.length_nil]
    omega
theorem Eff.storeOff (hT : TabOk P tab) {sz b o : Nat} {zs : List Value} {cs L' : List Abs} (ht : ti tab t = some ⟨sz, .one, zs⟩) (h1 : Nat.beq sz 1 = true) (hx : look l x = some (.v (.pointer (some ⟨b, o, none⟩)))) (hy : look l y = some (.v v)) (hb : off_ e v xs ∈ σ) (hu : Upd (.blk b t' cs) (.blk b t' L') σ τ) (hn : Nat.blt o cs.length = true) (hL : putL cs o [.v v] = L') :
    Eff P n W σ l [b] ⟨d, .store t x y, ty, pos, aft, g⟩ fun u τ' => u = .v undef ∧ τ' = τ := fun a w hs => by
  obtain ⟨us, h2, _⟩ := hs.mem.offR (.inl hb)
  have h1 := Nat.eq_of_beq_eq_true h1
  subst h1
  have hn : o < cs.length := by simpa [Nat.blt_eq] using hn
  obtain ⟨A', c', rfl, _⟩ := h2.shape
  exact Eff.store hT ht hx hy hu rfl (by show o + 1 ≤ _; omega) rfl hL a w hs
end
end Go.Proofs.Ytjbikemecdlolaa.A
