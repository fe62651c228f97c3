/-
  Packed out of the texts: PT5, Bst, FQ, PT6, A34, PT7, PtsF, Law, Open, OpenBytes, AOpen, PT8.
-/
import Derived.Test.YtjbikemecdlolaaQ05
import Derived.Test.YtjbikemecdlolaaRows
import Derived.OpenShut
import Derived.SizedLaws
import Derived.Deep.Slices
/-
  Points: support.
-/
set_option maxRecDepth 100000
set_option linter.unusedSimpArgs false
set_option linter.unusedVariables false
namespace Go.Proofs.Ytjbikemecdlolaa.A
open Go.RowKit

theorem own_ones (o : Ow) : ones o.cells = true := by
  rw [ones_iff]; intro a ha
  rcases List.mem_append.1 ha with ha | ha
  · obtain ⟨b, _, rfl⟩ := List.mem_map.1 ha; rfl
  · rw [List.mem_singleton.1 ha]; rfl
section
variable {n me : Nat} {om : List (Int × Ow)} {vs : List (List Pnt)} {bp bm : Nat} {vv : Value} {x : Pnt} {who k : Int} {o : Ow} {l : List Pnt}
set_option maxHeartbeats 2000000 in
theorem psup_s (hok : PtsOk n me om vs) (hx : InR .i64 x.seq) : Spec Try.prog 11 [ptr bp, .agg x.abs] [.rd bp 57 [int (n : Nat), int (me : Nat), mapV bm, .v vv], .rdpc (ownPc 40 1 vv (vs.map fun l => [pntsA l])), .rdpc (tmPc bm intK intOk Ow.enc om)] (fun _ : Unit => []) (fun _ => int (supF om vs x : Nat)) := by
 refine spec_of Try.func11 rfl Try.ntmps11 rfl fun G w => ?_
 refine SC.seq (SC.region ?_)
 refine SL.eff (Eff.boxA (cs := x.abs) rfl) rfl rfl ?_
 rintro _ _ ⟨b3, rfl, rfl⟩
 refine SL.val (Val.assign rfl) rfl rfl ?_
 refine SL.nil (SE.seq ?_)
 refine SC.seq ?_
 refine SC.seq (SC.region ?_)
 refine SL.val (Val.move rfl) rfl rfl ?_
 refine SL.val (Val.eqP rfl rfl (by kernel_rfl)) rfl rfl ?_
 refine SL.nil (SE.seq ?_)
 refine SC.condF rfl ?_
 refine SC.skip ?_
 refine SE.seq ?_
 refine SC.seq (SC.region ?_)
 refine SL.val (Val.assign rfl) rfl rfl ?_
 refine SL.nil (SE.seq ?_)
 refine SC.cutS (ι := Unit) (fun z => [.blk b3 27 x.abs, .rd bp 57 [int (n : Nat), int (me : Nat), mapV bm, .v vv], .rdpc (ownPc 40 1 vv (vs.map fun l => [pntsA l])), .rdpc (tmPc bm intK intOk Ow.enc om)]) (fun z => [(0, ptr bp), (3, ptr b3), (5, int (((if ownHas om x then 1 else 0) + ((vs.take 0).filter fun l => decide (x ∈ l)).length) : Nat))]) (fun z => True) ?_ ?_
 ·skip
  refine SC.seq ?_
  refine SC.draw [] (.q 0 (.q 1 (.q 2 (.q 3 (.q 4 (.q 5 (.q 6 (.q 7 (.q 8 (.q 9 (.e 10 (.e 11 (.q 12 .nil))))))))))))) (by kernel_rfl) (by kernel_rfl) ?_
  refine SX.val rfl (Val.move rfl) (by simp) rfl rfl ?_
  refine SX.val rfl (Val.nilCheck rfl) (by simp) rfl rfl ?_
  refine SX.val rfl (Val.fieldAddr tabOk rfl rfl rfl rfl rfl) (by simp) rfl rfl ?_
  refine SX.val rfl (Val.load1 tabOk rfl rfl (by repeat first|assumption|exact o0_|exact o1_|apply o2_) List.not_mem_nil (by rfl)) (by simp) rfl rfl ?_
  refine SX.val rfl (Val.fieldAddr tabOk rfl rfl rfl rfl rfl) (by simp) rfl rfl ?_
  refine SX.hx (by first|(simp[mids,It.mids,ownPc];done)|(intro k hk;simp[mids,It.mids,ownPc] at hk ⊢;grind)) fun hx9 => ?_
  refine SX.val rfl (Val.to (C := int x.seq) (Val.load1 tabOk rfl rfl (by repeat first|assumption|exact o0_|exact o1_|apply o2_) List.not_mem_nil (by rfl)) rfl) hx9 rfl rfl ?_
  refine SX.val rfl (Val.tmGetOk (a := x.seq) (m := om) (enc := Ow.enc) (z0 := Ow.zero) (zv := zow) (int_fit Try.underlying2) Try.underlying55 zero_ow zow_rep rfl (by repeat first|assumption|exact o0_|exact o1_|apply o2_) List.not_mem_nil rfl is_v hx) hx9 rfl rfl ?_
  refine SX.val rfl (Val.move rfl) (by simp) rfl rfl ?_
  refine SX.val rfl (Val.extract rfl rfl) (by simp) rfl rfl ?_
  refine SX.val rfl (Val.extract rfl rfl) (by simp) rfl rfl ?_
  refine SX.alloc tabOk rfl rfl rfl rfl fun b6 => ?_
  refine SX.eff rfl (Eff.store (L' := ((aget om x.seq).getD Ow.zero).cells) tabOk rfl rfl rfl (by repeat first|assumption|exact Upd.here|apply Upd.there) (own_clen _) (lb_ (by rfl)) (own_ones _) (by exact putL_whole (own_clen _))) (by simp) rfl rfl ?_
  rintro _ _ ⟨rfl, rfl⟩
  refine SX.hx (by first|(simp[mids,It.mids,ownPc];done)|(intro k hk;simp[mids,It.mids,ownPc] at hk ⊢;grind)) fun hx9 => ?_
  refine SX.val rfl (Val.assign rfl) hx9 rfl rfl ?_
  refine SX.nil (SE.seq ?_)
  refine SC.seq (SC.region ?_)
  iterate 2 refine SL.val (Val.move rfl) rfl rfl ?_
  refine SL.both (t := 23) rfl ?_ ?_
  rotate_left
  ·intro hc23
   have e9 : ownHas om x = false := by unfold ownHas; simp_all
   iterate 5 refine SL.skip rfl rfl ?_
   refine SL.val (Val.pickF rfl rfl) rfl rfl ?_
   refine SL.nil (SE.seq ?_)
   refine SC.condF rfl ?_
   refine SC.skip ?_
   refine SE.meet (()) (trivial) (by refine ⟨rfl, rfl, ?_, trivial⟩; first | (rw [e9]; rfl) | (simp only [e9]; rfl)) (by repeat first|exact s0_ _|exact s1_ _|apply s2_|apply s3_)
  intro hc23
  refine SL.val (Val.fieldAddr tabOk rfl rfl rfl rfl rfl) rfl rfl ?_
  refine SL.val (Val.to (C := .agg (digA ((aget om x.seq).getD Ow.zero).dig)) (Val.loadP tabOk rfl rfl rfl (by repeat first|assumption|exact o0_|exact o1_|apply o2_) List.not_mem_nil (by show 0 + 32 ≤ ((aget om x.seq).getD Ow.zero).cells.length; rw [own_clen]; omega)) (by exact own_part _)) rfl rfl ?_
  refine SL.val (Val.fieldAddr tabOk rfl rfl rfl rfl rfl) rfl rfl ?_
  refine SL.val (Val.to (C := .agg (digA x.dig)) (Val.loadP tabOk rfl rfl rfl (by repeat first|assumption|exact o0_|exact o1_|apply o2_) List.not_mem_nil (by show 1 + 32 ≤ x.abs.length; rw [Pnt.size]; omega)) (by exact pnt_part _)) rfl rfl ?_
  refine SL.val (Val.eqA rfl rfl (plains_dig _) (plains_dig _) (by kernel_rfl) (eqlD _ _ ((aget om x.seq).getD Ow.zero).len x.len (decide (((aget om x.seq).getD Ow.zero).dig = x.dig)) rfl)) rfl rfl ?_
  refine SL.val (Val.pickT rfl rfl) rfl rfl ?_
  refine SL.nil (SE.seq ?_)
  refine SC.condP rfl ?_ ?_
  rotate_left
  ·intro hc29
   have e9 : ownHas om x = false := by unfold ownHas; simp_all
   refine SC.skip ?_
   refine SE.meet (()) (trivial) (by refine ⟨rfl, rfl, ?_, trivial⟩; first | (rw [e9]; rfl) | (simp only [e9]; rfl)) (by repeat first|exact s0_ _|exact s1_ _|apply s2_|apply s3_)
  intro hc29
  have e9 : ownHas om x = true := by unfold ownHas; simp_all
  refine SC.region ?_
  refine SL.val (Val.move rfl) rfl rfl ?_
  first
   | refine SL.val (Val.addI rfl rfl (by simp only [InR, lo, hi]; omega)) rfl rfl ?_
   | refine SL.val (Val.addW rfl rfl) rfl rfl ?_
  refine SL.val (Val.assign rfl) rfl rfl ?_
  refine SL.nil ?_
  refine SE.meet (()) (trivial) (by refine ⟨rfl, rfl, ?_, trivial⟩; first | (rw [e9]; rfl) | (simp only [e9]; rfl)) (by repeat first|exact s0_ _|exact s1_ _|apply s2_|apply s3_)
 ·intro z hz
  refine SC.seq ?_
  refine SC.seq (SC.region ?_)
  refine SL.val (Val.move rfl) rfl rfl ?_
  refine SL.val (Val.nilCheck rfl) rfl rfl ?_
  refine SL.val (Val.fieldAddr tabOk rfl rfl rfl rfl rfl) rfl rfl ?_
  refine SL.val (Val.load1 tabOk rfl rfl (by repeat first|assumption|exact o0_|exact o1_|apply o2_) List.not_mem_nil (by rfl)) rfl rfl ?_
  refine SL.val (Val.lenOwnR (m := vs.length) rfl (by repeat first|assumption|exact o0_|exact o1_|apply o2_) Try.underlying50 (List.length_map _)) rfl rfl ?_
  refine SL.val (Val.move rfl) rfl rfl ?_
  refine SL.nil (SE.seq ?_)
  refine SC.block ?_
  have hvn := hok.len
  have hn7 := hok.n7
  refine SC.loop (ι := Nat × Unit) (fun z => [.blk b3 27 x.abs, .rd bp 57 [int (n : Nat), int (me : Nat), mapV bm, .v vv], .rdpc (ownPc 40 1 vv (vs.map fun l => [pntsA l])), .rdpc (tmPc bm intK intOk Ow.enc om)]) (fun z => [(0, ptr bp), (3, ptr b3), (5, int (((if ownHas om x then 1 else 0) + ((vs.take z.1).filter fun l => decide (x ∈ l)).length) : Nat)), (35, .v vv), (36, int (vs.length : Nat)), (37, int (z.1 : Nat))]) (fun z => z.1 ≤ vs.length ∧ ((if ownHas om x then 1 else 0) + ((vs.take z.1).filter fun l => decide (x ∈ l)).length) ≤ z.1 + 1) (fun z => vs.length - z.1) (0, ()) (⟨Nat.zero_le _, by simp only [List.take_zero, List.filter_nil, List.length_nil]; split <;> omega⟩) (by exact ⟨rfl, rfl, rfl, rfl, rfl, rfl, trivial⟩) (by repeat first|exact s0_ _|exact s1_ _|apply s2_|apply s3_) ?_
  intro z hz
  refine SC.seq (SC.region ?_)
  refine SL.val (Val.ltI rfl rfl) rfl rfl ?_
  refine SL.nil (SE.seq ?_)
  refine SC.seq ?_
  refine SC.condP rfl ?_ ?_
  rotate_left
  ·intro hc38
   have hta : vs.take z.1 = vs := List.take_of_length_le (by omega)
   refine SC.exit ?_
   refine SE.then_ nofun ?_
   refine SE.then_ nofun ?_
   refine SE.exit ?_
   refine SE.seq ?_
   refine SC.seq (SC.region ?_)
   refine SL.val (Val.move rfl) rfl rfl ?_
   refine SL.val (Val.assign rfl) rfl rfl ?_
   refine SL.nil (SE.seq ?_)
   refine SC.ret ?_
   refine SE.fin (rs := [.tmp 4]) rfl (RV.tmp rfl RV.nil) (()) (by repeat first|exact s0_ _|exact s1_ _|apply s2_|apply s3_) (by simp [It.rids]) ?_
   rw [hta] at *
   exact rfl
  intro hc38
  have hlt : z.1 < vs.length := by omega
  obtain ⟨l, hvl⟩ : ∃ l, vs[z.1]? = some l := ⟨_, List.getElem?_eq_getElem hlt⟩
  have hlm := List.mem_of_getElem? hvl
  have hl3 := hok.few l hlm
  refine SC.skip ?_
  refine SE.seq ?_
  refine SC.seq ?_
  refine SC.block ?_
  refine SC.seq (SC.region ?_)
  refine SL.val (Val.indexOwn (q := z.1) tabOk Try.underlying50 rfl rfl (by repeat first|assumption|exact o0_|exact o1_|apply o2_) rfl rfl (by rw [List.length_map]; exact hlt) rfl rfl) rfl rfl ?_
  refine SL.val (Val.to (C := pntsA l) (Val.loadOwn1 (q := z.1) (s := 1) (cs := [pntsA l]) tabOk rfl rfl (by repeat first|assumption|exact o0_|exact o1_|apply o2_) rfl (by rw [List.getElem?_map, hvl]; rfl) rfl) rfl) rfl rfl ?_
  refine SL.val (Val.assign rfl) rfl rfl ?_
  refine SL.nil (SE.seq ?_)
  refine SC.seq (SC.region ?_)
  refine SL.val (Val.move rfl) rfl rfl ?_
  refine SL.val (Val.to (C := .agg x.abs) (Val.loadA tabOk rfl rfl rfl (by repeat first|assumption|exact o0_|exact o1_|apply o2_) List.not_mem_nil (Pnt.size _)) rfl) rfl rfl ?_
  refine SL.call (pcontains_s (l := l) hx (hok.ins l hlm) (by omega)) Casts.refl (by kernel_rfl) rfl rfl rfl ?_
  refine ap_ ?_
  intro _
  refine SL.nil (SE.seq ?_)
  refine SC.condP rfl ?_ ?_
  rotate_left
  ·intro hc43
   refine SC.skip ?_
   refine SE.inBlock ?_
   refine SE.seq ?_
   refine SC.region ?_
   first
    | refine SL.val (Val.addI rfl rfl (by simp only [InR, lo, hi]; omega)) rfl rfl ?_
    | refine SL.val (Val.addW rfl rfl) rfl rfl ?_
   refine SL.val (Val.move rfl) rfl rfl ?_
   refine SL.nil ?_
   refine SE.round (z.1 + 1, ()) (by first | omega | (dsimp only; omega)) (⟨by dsimp only; omega, by have h := hz.2; dsimp only; rw [sup_step hvl]; have h3 : (if x ∈ l then 1 else 0) ≤ 1 := (by split <;> omega); omega⟩) (by refine ⟨rfl, rfl, ?_, rfl, rfl, rfl, trivial⟩; dsimp only; rw [sup_step hvl, if_neg hc43]; rfl) (by repeat first|exact s0_ _|exact s1_ _|apply s2_|apply s3_)
  intro hc43
  refine SC.region ?_
  refine SL.val (Val.move rfl) rfl rfl ?_
  refine SL.val (Val.to (C := int (((if ownHas om x then 1 else 0) + ((vs.take (z.1 + 1)).filter fun l => decide (x ∈ l)).length) : Nat)) (Val.addI rfl rfl (by simp only [InR, lo, hi]; omega)) (congrArg int (by rw [sup_step hvl, if_pos hc43]; omega))) rfl rfl ?_
  refine SL.val (Val.assign rfl) rfl rfl ?_
  refine SL.nil ?_
  refine SE.inBlock ?_
  refine SE.seq ?_
  refine SC.region ?_
  first
   | refine SL.val (Val.addI rfl rfl (by simp only [InR, lo, hi]; omega)) rfl rfl ?_
   | refine SL.val (Val.addW rfl rfl) rfl rfl ?_
  refine SL.val (Val.move rfl) rfl rfl ?_
  refine SL.nil ?_
  refine SE.round (z.1 + 1, ()) (by first | omega | (dsimp only; omega)) (⟨by dsimp only; omega, by have h := hz.2; dsimp only; rw [sup_step hvl]; have h3 : (if x ∈ l then 1 else 0) ≤ 1 := (by split <;> omega); omega⟩) (by exact ⟨rfl, rfl, rfl, rfl, rfl, rfl, trivial⟩) (by repeat first|exact s0_ _|exact s1_ _|apply s2_|apply s3_)
theorem backward_s  : Spec Try.prog 49 [pntsA l] [] (fun b : Nat => [.blk b 40 [pntsA l]]) (fun b => .fn (.func 55) [] [ptr b]) := by
 refine spec_of Try.func49 rfl Try.ntmps49 rfl fun G w => ?_
 refine SC.seq (SC.region ?_)
 refine SL.eff (Eff.box1 rfl rfl) rfl rfl ?_
 rintro _ _ ⟨b1, rfl, rfl⟩
 refine SL.val (Val.assign rfl) rfl rfl ?_
 refine SL.nil (SE.seq ?_)
 refine SC.seq (SC.region ?_)
 refine SL.val (Val.makeFunc rfl rfl) rfl rfl ?_
 refine SL.val (Val.assign rfl) rfl rfl ?_
 refine SL.nil (SE.seq ?_)
 refine SC.ret ?_
 refine SE.fin (rs := [.tmp 2]) rfl (RV.tmp rfl RV.nil) (b1) (by repeat first|exact s0_ _|exact s1_ _|apply s2_|apply s3_) (by simp [It.rids]) ?_
 exact rfl
end
end Go.Proofs.Ytjbikemecdlolaa.A
/-
  Points: the greatest one that enough support (a range over slices.Backward).
-/
namespace Go.Proofs.Ytjbikemecdlolaa.A
open Go.RowKit

/-! ### Pieces looked at from here; acts with calls that are put off -/
theorem Mem.focus {w0 w : World} {F G : List Nat} {σ σ1 φ : Blks} (hm : Mem w0 F G σ w) (hp : Split σ σ1 φ) : Mem w (mids σ1) (mids φ ++ G) σ1 w ∧ Carry (mids σ ++ G) w (mids σ1 ++ (mids φ ++ G)) w := by
  have hmem : ∀ k, k ∈ mids σ ↔ k ∈ mids σ1 ∨ k ∈ mids φ := fun k => by rw [← hp.perm.mem_iff, List.mem_append]
  have hnd : (mids σ1 ++ mids φ).Nodup := hp.perm.nodup_iff.2 hm.nodup
  obtain ⟨n1, n2, n3⟩ := List.nodup_append.1 hnd
  have hc1 : Carry (mids σ ++ G) w (mids σ1 ++ (mids φ ++ G)) w := Carry.less fun k hk => by
    simp only [List.mem_append] at hk ⊢
    rw [hmem]
    rcases hk with h | h | h
    · exact .inl (.inl h)
    · exact .inl (.inr h)
    · exact .inr h
  refine ⟨⟨Ext.refl w, fun k hk => .inl hk, fun k hk hg => ?_, fun k hk => ?_, fun x hx k hk => ?_, n1, fun x hx => ?_⟩, hc1⟩
  · rcases List.mem_append.1 hg with h | h
    · exact n3 k hk k h rfl
    · exact hm.sep k ((hmem k).2 (.inl hk)) h
  · rcases List.mem_append.1 hk with h | h
    · exact hm.lt k (List.mem_append_left _ ((hmem k).2 (.inr h)))
    · exact hm.old k h
  · rcases hp.sub x hx with ⟨_, h⟩ | ⟨y, hy, rfl⟩
    · rw [h] at hk; cases hk
    · rcases List.mem_append.1 (toRd_rids y k hk) with h | h
      · exact List.mem_append_left _ (mids_mem.2 ⟨y, hy, h⟩)
      · exact List.mem_append_right _ (hm.ro y (hp.rest y hy) k h)
  · rcases hp.sub x hx with ⟨h, _⟩ | ⟨y, hy, rfl⟩
    · exact It.carry (hm.hold x h) hc1 fun _ _ => rfl
    · exact toRd_holds (It.carry (hm.hold y (hp.rest y hy)) hc1 fun _ _ => rfl)
theorem Mem.nil {w0 w : World} {F G : List Nat} (h : Ext F w0 w) (hG : ∀ k ∈ G, k < w.heap.size) : Mem w0 F G [] w := ⟨h, by simp [mids], by simp [mids], hG, by simp, by simp [mids], by simp⟩
/-- The state of a walk whose act bears calls that are put off. -/
def StD (n : Nat) (W : Wd) (σ : Blks) (l : Slots) (ds : List Deferred) (a : Act) (w : World) : Prop := ∃ a0 : Act, a = { a0 with defers := ds } ∧ St n W σ l a0 w
section
variable {P : Program} {n : Nat} {W : Wd} {σ τ : Blks} {l : Slots} {ops : Array Oper} {rest : List Oper} {Q : Exit → Act → World → Prop} {o : Oper} {ds : List Deferred} {y : Abs}
theorem SL.valD (hv : Val P n W σ l [] o y) (hg : gd ops l o = some true) (hd : lt? o.dst n = true) (k : SL P ops rest (StD n W σ (put? l o.dst y) ds) Q) : SL P ops (o :: rest) (StD n W σ l ds) Q := fun a w ⟨a0, ha, hs⟩ => by
  subst ha
  refine wpList_step fun K hK => ?_
  rw [if_pos (show Region.wanted o (yielded ops a0.tmps) = true from hs.wanted hg)]
  obtain ⟨v, hr, hrun⟩ := hv a0 w hs (by simp)
  unfold Oper.wp
  have h2 := hrun w (Ext.refl w)
  rw [show Act.eval { a0 with defers := ds } = a0.eval from rfl, h2]
  refine hK _ _ (k _ _ ⟨a0.put o.dst v, ?_, hs.put hd hr⟩)
  cases o.dst <;> rfl
theorem SL.effD {Y : List Nat} {R : Abs → Blks → Prop} (hv : Eff P n W σ l Y o R) (hg : gd ops l o = some true) (hd : lt? o.dst n = true) (k : ∀ y τ, R y τ → SL P ops rest (StD n W τ (put? l o.dst y) ds) Q) : SL P ops (o :: rest) (StD n W σ l ds) Q := fun a w ⟨a0, ha, hs⟩ => by
  subst ha
  refine wpList_step fun K hK => ?_
  rw [if_pos (show Region.wanted o (yielded ops a0.tmps) = true from hs.wanted hg)]
  unfold Oper.wp
  rw [show Act.eval { a0 with defers := ds } = a0.eval from rfl]
  obtain ⟨v, w', y, τ, hR, _, hr, hm, hc, hrun | ⟨rfl, hrun⟩⟩ := hv a0 w hs
  · rw [hrun]; refine hK _ _ (k _ _ hR _ _ ⟨_, ?_, (hs.to hm hc).put hd hr⟩); cases o.dst <;> rfl
  · rw [hrun]; refine hK _ _ (k _ _ hR _ _ ⟨_, ?_, (hs.to hm hc).put hd hr⟩); cases o.dst <;> rfl
end
theorem ext_grows {F : List Nat} {w W W' : World} {row : Option Nat} (h : Ext F w W) (hg : W.grownBy W' row) (hr : ∀ r, row = some r → w.heap.size ≤ r) : Ext F w W' := ⟨hg.os.trans h.os, hg.tape.trans h.tape, hg.output.trans h.output, Nat.le_trans h.size hg.size, fun k hk hn => (hg.block k (Nat.lt_of_lt_of_le hk h.size) fun e => by have := hr k e.symm; omega).trans (h.block k hk hn)⟩
theorem ext_keeps {F : List Nat} {B : Nat} {W W' : World} (h : Ext F W W') (hF : ∀ k ∈ F, k < B) : KeepsFrom B W W' := ⟨h.size, fun k o hB hk _ => (h.block k (heap_lt hk) fun hm => by have := hF k hm; omega).trans hk⟩
theorem ext_to_below {B : Nat} {W W' : World} (h : Ext [] W W') (hB : B ≤ W.heap.size) : Below B W W' := ⟨h.os, h.tape, h.output, h.size, fun k hk => h.block k (by omega) (by simp)⟩
/-! ### The greatest one, plain -/
theorem bwd_map {β : Type} (xs : List β) : (bwdL xs).map (·.2) = xs.reverse := by
  unfold bwdL
  rw [List.map_reverse, List.map_map]
  congr 1
  have h : ((fun x : Int × β => x.2) ∘ fun x : β × Nat => ((x.2 : Int), x.1)) = Prod.fst := rfl
  rw [h, List.zipIdx_map_fst]
def goodP (om : List (Int × Ow)) (vs : List (List Pnt)) (above at_ : Int) (x : Pnt) : Bool := decide (above < x.seq) && decide (at_ ≤ (supF om vs x : Nat))
/-- Points whose numbers the machine has. -/
abbrev PtI := { p : Pnt // InR .i64 p.seq }
section
variable {om : List (Int × Ow)} {vs : List (List Pnt)} {above at_ : Int} {xs : List PtI} {pre : List (Int × PtI)} {y : Int × PtI}
theorem best_none (h : ∀ y ∈ bwdL xs, goodP om vs above at_ y.2.1 = false) : bestF om vs (xs.map (·.1)) above at_ = none := by
  refine List.find?_eq_none.2 fun x hx => ?_
  rw [← List.map_reverse, ← bwd_map, List.map_map] at hx
  obtain ⟨z, hz, rfl⟩ := List.mem_map.1 hx
  have h2 : goodP om vs above at_ z.2.1 = false := h z hz
  unfold goodP at h2
  dsimp only [Function.comp]
  rw [h2]
  decide
theorem best_some (hp : pre ++ [y] <+: bwdL xs) (h : ∀ z ∈ pre, goodP om vs above at_ z.2.1 = false) (hy : goodP om vs above at_ y.2.1 = true) : bestF om vs (xs.map (·.1)) above at_ = some y.2.1 := by
  obtain ⟨r, hr⟩ := hp
  unfold bestF
  rw [← List.map_reverse, ← bwd_map, ← hr, List.map_append, List.map_append, List.map_append, List.map_append, List.append_assoc, List.find?_append]
  rw [List.find?_eq_none.2 (fun x hx => ?_)]
  · rw [Option.none_or, List.map_cons, List.map_nil, List.map_cons, List.map_nil, List.singleton_append, List.find?_cons]
    unfold goodP at hy
    rw [hy]
  · rw [List.map_map] at hx
    obtain ⟨z, hz, rfl⟩ := List.mem_map.1 hx
    have h2 : goodP om vs above at_ z.2.1 = false := h z hz
    unfold goodP at h2
    dsimp only [Function.comp]
    rw [h2]
    decide
end
theorem attach_in {xs : List Pnt} (h : ∀ x ∈ xs, InR .i64 x.seq) : ∃ ys : List PtI, (ys.map fun x : PtI => x.1) = xs := ⟨xs.attach.map fun x => ⟨x.1, h x.1 x.2⟩, by rw [List.map_map]; exact List.attach_map_subtype_val xs⟩
section
variable {G : List Nat} {w : World} {p : Pnt} {t : Bool} {b8 b9 D : Nat} {a : Act} {W : World}
/-- The way out: the results' cells are read, the mark is taken. -/
theorem best_out {R : Abs} (hs8 : a.tmps[8]? = some (.pointer (some ⟨b8, 0, none⟩))) (hs9 : a.tmps[9]? = some (.pointer (some ⟨b9, 0, none⟩))) (hsz : a.tmps.size = 31) (hx : Ext [] w W) (h8 : W.heap[b8]? = some (row 27 p.cells)) (h9 : W.heap[b9]? = some (row 4 [.bool t]))
    (hne : b8 ≠ b9) (hG : ∀ k ∈ G, k < w.heap.size) (h8G : w.heap.size ≤ b8) (h9G : w.heap.size ≤ b9) (hD : W.heap[D]? = some (.deferred (some []))) (hDw : w.heap.size ≤ D) (hR : Abs.tup [.agg p.abs, boo t] = R) :
    LeavesInM (RF none) 6 Try.prog Try.f32 a.tmps (Post G [] (fun _ : Unit => []) (fun _ => R) w) [{ target := .collected D, args := #[] }] .returning W := by
  refine ⟨by simp, .inl ⟨D, _, rfl, run_takeDeferred hD, ?_⟩⟩
  have hg := grownBy_putObj' W D (.deferred none)
  have hx2 : Ext [] w (W.putObj D (.deferred none)) := ext_grows hx hg fun r hr => by cases hr; exact hDw
  have n8 : b8 ≠ D := fun e => by subst e; rw [hD] at h8; cases h8
  have n9 : b9 ≠ D := fun e => by subst e; rw [hD] at h9; cases h9
  have k8 : (W.putObj D (.deferred none)).heap[b8]? = some (row 27 p.cells) := (hg.block b8 (heap_lt h8) fun e => n8 (by cases e; rfl)).trans h8
  have k9 : (W.putObj D (.deferred none)).heap[b9]? = some (row 4 [.bool t]) := (hg.block b9 (heap_lt h9) fun e => n9 (by cases e; rfl)).trans h9
  have hm : Mem (W.putObj D (.deferred none)) [b8, b9] G [.blk b8 27 p.abs, .blk b9 4 [boo t]] (W.putObj D (.deferred none)) := by
    refine ⟨Ext.refl _, fun k hk => .inl (by simpa [mids, It.mids] using hk), fun k hk hg => ?_, fun k hk => Nat.lt_of_lt_of_le (hG k hk) hx2.size, by simp [It.rids], by simp [mids, It.mids, hne], fun x hx => ?_⟩
    · have := hG k hg
      simp [mids, It.mids] at hk
      omega
    · simp only [List.mem_cons, List.not_mem_nil, or_false] at hx
      rcases hx with rfl | rfl
      · exact ⟨_, k8, by rw [Pnt.abs_cells]; exact reps_plain.2 rfl⟩
      · exact ⟨_, k9, _, _, rfl, rfl, rfl⟩
  have hs : St 31 ⟨W.putObj D (.deferred none), [b8, b9], G⟩ [.blk b8 27 p.abs, .blk b9 4 [boo t]] [(8, ptr b8), (9, ptr b9)] { a with defers := [] } (W.putObj D (.deferred none)) := by
    refine ⟨rfl, hsz, fun i x hx => ?_, hm⟩
    simp only [slot] at hx
    by_cases h1 : 8 = i
    · subst h1; simp at hx; subst hx; exact ⟨_, hs8, rfl⟩
    · rw [beq_ne h1] at hx
      by_cases h2 : 9 = i
      · subst h2; simp at hx; subst hx; exact ⟨_, hs9, rfl⟩
      · rw [beq_ne h2] at hx; cases hx
  obtain ⟨us, h1, h2⟩ := RV.results (rs := [.cell 8 27, .cell 9 4]) (vs := [.agg p.abs, boo t]) (fn := Try.f32) rfl (RV.cell rfl (RV.cellA tabOk rfl rfl (.inl List.mem_cons_self) (Pnt.size p)) (RV.cell rfl (RV.cell1 tabOk rfl (.inl (List.mem_cons_of_mem _ List.mem_cons_self)) rfl) RV.nil)) hs
  refine ⟨_, h2, ⟨(), _, rfl, by simp, Mem.nil hx2 fun k hk => Nat.lt_of_lt_of_le (hG k hk) hx2.size, ?_⟩⟩
  have hc : Carry (mids [.blk b8 27 p.abs, .blk b9 4 [boo t]] ++ G) (W.putObj D (.deferred none)) (mids ([] : Blks) ++ G) (W.putObj D (.deferred none)) := Carry.less fun k hk => List.mem_append_right _ (by simpa [mids] using hk)
  have h3 := ret_rep (reps_carry hc _ _ h1)
  rw [← hR]
  exact h3
end
def ptO (o : Option Pnt) : Pnt := o.getD Pnt.zero
section
variable {n me : Nat} {om : List (Int × Ow)} {vs : List (List Pnt)} {bp bm : Nat} {vv : Value} {who above at_ : Int}
abbrev ptR (n me : Nat) (om : List (Int × Ow)) (vs : List (List Pnt)) (bp bm : Nat) (vv : Value) : Blks := [.rd bp 57 [int (n : Nat), int (me : Nat), mapV bm, .v vv], .rdpc (ownPc 40 1 vv (vs.map fun l => [pntsA l])), .rdpc (tmPc bm intK intOk Ow.enc om)]
/-- The pieces at the loop's head. -/
abbrev bsS (n me : Nat) (om : List (Int × Ow)) (vs : List (List Pnt)) (bp bm : Nat) (vv : Value) (xs : List Pnt) (above at_ : Int) (b4 b6 b7 b8 b9 b15 : Nat) : Blks :=
  .blk b15 40 [pntsA xs] :: .blk b9 4 [boo false] :: .blk b8 27 Pnt.zero.abs :: .blk b7 3 [int at_] :: .blk b6 2 [int above] :: .blk b4 29 [ptr bp] :: ptR n me om vs bp bm vv
abbrev bsL (b4 b6 b7 b8 b9 : Nat) : Slots := [(4, ptr b4), (6, ptr b6), (7, ptr b7), (8, ptr b8), (9, ptr b9)]
theorem bsL_plain {b4 b6 b7 b8 b9 : Nat} : ∀ t x, slot (bsL b4 b6 b7 b8 b9) t = some x → ∃ u, x = .v u := by
  intro t x ht
  simp only [slot] at ht
  repeat' (cases hb9 : Nat.beq _ t <;> rw [hb9] at ht <;> simp only [cond] at ht)
  all_goals first | (cases ht; exact ⟨_, rfl⟩) | cases ht
theorem bsL_plain2 {b4 b6 b7 b8 b9 b11 : Nat} : ∀ t x, slot ((11, ptr b11) :: bsL b4 b6 b7 b8 b9) t = some x → ∃ u, x = .v u := by
  intro t x ht
  simp only [slot] at ht
  repeat' (cases hb9 : Nat.beq _ t <;> rw [hb9] at ht <;> simp only [cond] at ht)
  all_goals first | (cases ht; exact ⟨_, rfl⟩) | cases ht
set_option maxHeartbeats 4000000 in
theorem pbest_s (hok : PtsOk n me om vs) : Spec Try.prog 32 [ptr bp, int who, int above, int at_] (ptR n me om vs bp bm vv) (fun _ : Unit => []) (fun _ => .tup [.agg (ptO (bestF om vs (votesI n me om vs who) above at_)).abs, boo (bestF om vs (votesI n me om vs who) above at_).isSome]) := fun G w vals hm hv => by
  obtain ⟨xs, hxs⟩ : ∃ xs, votesI n me om vs who = xs := ⟨_, rfl⟩
  have hxi := votesI_in hok who
  rw [hxs] at hxi ⊢
  obtain ⟨ys, rfl⟩ := attach_in hxi.1
  have hyl : ys.length ≤ 100000 := by have := hxi.2; rwa [List.length_map] at this
  have hlen := reps_length hv
  refine (callsIn_wide (n := 6)).1 (callsIn_of_wp_marks (F := RF none) (R := Post G [] (fun _ : Unit => []) (fun _ => .tup [.agg (ptO (bestF om vs (ys.map fun x : PtI => x.1) above at_)).abs, boo (bestF om vs (ys.map fun x : PtI => x.1) above at_).isSome]) w) Try.func32 rfl trivial ?_ rfl)
  refine (show RC Try.prog none 6 _ (St 31 ⟨w, [], G⟩ (ptR n me om vs bp bm vv) (args0 [ptr bp, int who, int above, int at_] 0)) _ from ?_) _ w ⟨rfl, ?_, fun t x hx => ?_, hm⟩
  rotate_left
  · simp only [List.length_cons, List.length_nil] at hlen
    simp [Try.ntmps32, hlen]
  · have h1 := (slot_args0 [ptr bp, int who, int above, int at_] 0 t x hx).2
    rw [Nat.sub_zero] at h1
    obtain ⟨u, h2, h3⟩ := reps_get hv h1
    refine ⟨u, ?_, h3⟩
    have hlt : t < vals.length := (List.getElem?_eq_some_iff.1 h2).1
    simp [Array.getElem?_append, hlt]
    exact (List.getElem?_eq_some_iff.1 h2).2
  refine RC.seq (RC.region rfl ?_)
  refine SL.eff (Eff.box1 rfl rfl) rfl rfl ?_
  rintro _ _ ⟨b4, rfl, rfl⟩
  refine SL.eff (Eff.box1 rfl rfl) rfl rfl ?_
  rintro _ _ ⟨b6, rfl, rfl⟩
  refine SL.eff (Eff.box1 rfl rfl) rfl rfl ?_
  rintro _ _ ⟨b7, rfl, rfl⟩
  refine SL.eff (Eff.alloc tabOk rfl) rfl rfl ?_
  rintro _ _ ⟨b8, rfl, rfl⟩
  refine SL.eff (Eff.alloc tabOk rfl) rfl rfl ?_
  rintro _ _ ⟨b9, rfl, rfl⟩
  refine SL.nil (RE.norm (RE.seq ?_))
  refine RC.seq (RC.seq (RC.region rfl ?_))
  refine SL.val (Val.to (C := ptr bp) (Val.load1 tabOk rfl rfl (by repeat first|assumption|exact o0_|exact o1_|apply o2_) List.not_mem_nil (by rfl)) rfl) rfl rfl ?_
  refine SL.val (Val.move rfl) rfl rfl ?_
  refine SL.call (pvotes_s (bm := bm) (vv := vv) hok) Casts.refl (by kernel_rfl) rfl rfl rfl ?_
  refine After.make (by repeat (first | exact Reads.nil | (refine Reads.blk ?_ ?_; focus ((repeat first|assumption|exact m0_|apply m1_); done)) | (refine Reads.rd ?_ ?_; focus ((repeat first|assumption|exact m0_|apply m1_); done)) | (refine Reads.pc ?_ ?_; focus ((repeat first|assumption|exact m0_|apply m1_); done)) | (refine Reads.rdpc ?_ ?_; focus ((repeat first|assumption|exact m0_|apply m1_); done)))) (fun _ => rfl) ?_
  intro r14
  rw [hxs]
  refine SL.freeze [] (t := 14) rfl rfl ?_
  refine SL.call (backward_s (l := ys.map fun x : PtI => x.1)) Casts.refl (by kernel_rfl) rfl rfl rfl ?_
  refine After.make (by repeat (first | exact Reads.nil | (refine Reads.blk ?_ ?_; focus ((repeat first|assumption|exact m0_|apply m1_); done)) | (refine Reads.rd ?_ ?_; focus ((repeat first|assumption|exact m0_|apply m1_); done)) | (refine Reads.pc ?_ ?_; focus ((repeat first|assumption|exact m0_|apply m1_); done)) | (refine Reads.rdpc ?_ ?_; focus ((repeat first|assumption|exact m0_|apply m1_); done)))) (fun _ => rfl) ?_
  intro b15
  refine SL.nil (RE.norm (RE.seq ?_))
  refine RC.block ?_
  intro a1 w1 hs0
  have hs1 : St 31 ⟨w, [], G⟩ (bsS n me om vs bp bm vv (ys.map fun x : PtI => x.1) above at_ b4 b6 b7 b8 b9 b15) ((15, .fn (.func 55) [] [ptr b15]) :: bsL b4 b6 b7 b8 b9) a1 w1 := hs0.sub ⟨rfl, rfl, rfl, rfl, rfl, rfl, trivial⟩
  clear hs0
  obtain ⟨σ, hσ⟩ : ∃ σ, bsS n me om vs bp bm vv (ys.map fun x : PtI => x.1) above at_ b4 b6 b7 b8 b9 b15 = σ := ⟨_, rfl⟩
  have hmids : mids σ = [b15, b9, b8, b7, b6, b4] := by rw [← hσ]; rfl
  rw [hσ] at hs1
  have hx1 : Ext [] w w1 := hs1.mem.ext
  have hlt : ∀ k ∈ mids σ, k < w1.heap.size := fun k hk => hs1.mem.lt k (List.mem_append_left _ hk)
  have hnw : ∀ k ∈ mids σ, w.heap.size ≤ k := fun k hk => (hs1.mem.out k hk).resolve_left (by simp)
  have h8 : b8 < w1.heap.size := hlt _ (by rw [hmids]; simp)
  have h9 : b9 < w1.heap.size := hlt _ (by rw [hmids]; simp)
  have h8w : w.heap.size ≤ b8 := hnw _ (by rw [hmids]; simp)
  have h9w : w.heap.size ≤ b9 := hnw _ (by rw [hmids]; simp)
  have hne : b8 ≠ b9 := by
    have hnd := hs1.mem.nodup
    rw [hmids] at hnd
    simp only [List.nodup_cons, List.mem_cons, not_or] at hnd
    exact fun e => hnd.2.1.1 e.symm
  have hg15 : a1.eval (.tmp 15) = .func (.func 55) #[] #[.pointer (some ⟨b15, 0, none⟩)] := by
    obtain ⟨us, vs', h1, h2, u, us', h3, h4, h5⟩ := hs1.eval (x := .tmp 15) rfl
    have h2 : us = [] := h2
    have h5 : us' = [] := h5
    have h4 : u = _ := h4
    subst h2 h5 h4 h3
    exact h1
  have hrd : Mem w1 [] (mids σ ++ G) [.rd b15 40 [pntsA (ys.map fun x : PtI => x.1)]] w1 := (hs1.mem.focus (Split.rds (ys := [.blk b15 40 [pntsA (ys.map fun x : PtI => x.1)]]) (fun y hy => by rw [List.mem_singleton.1 hy, ← hσ]; exact List.mem_cons_self))).1
  have hsA := hs1.sub (r := bsL b4 b6 b7 b8 b9) ⟨rfl, rfl, rfl, rfl, rfl, trivial⟩
  have e8 : a1.tmps[8]? = some (.pointer (some ⟨b8, 0, none⟩)) := by obtain ⟨u, h1, h2⟩ := hsA.slots 8 _ rfl; rw [show u = _ from h2] at h1; exact h1
  have e9 : a1.tmps[9]? = some (.pointer (some ⟨b9, 0, none⟩)) := by obtain ⟨u, h1, h2⟩ := hsA.slots 9 _ rfl; rw [show u = _ from h2] at h1; exact h1
  refine wpIn_rangeFunc_ownH (F := RF none) (n := 6) rfl (by omega) (gf := 55) (lb := #[.pointer (some ⟨b15, 0, none⟩)]) hg15 trivial (enters_of Try.func55 (by kernel_rfl) rfl)
    (bwd_stops (fun x : PtI => x.1) hrd hyl) belowK_t (belowK_b (Nat.le_refl _)) (Below.refl _ _) (fun _ => rfl)
    (fun pre W => Ext [] w1 W ∧ ∀ y ∈ pre, goodP om vs above at_ y.2.1 = false)
    (fun c pre W => c = .ret ∧ Ext [b8, b9] w1 W ∧ ∃ init y, pre = init ++ [y] ∧ (∀ z ∈ init, goodP om vs above at_ z.2.1 = false) ∧ goodP om vs above at_ y.2.1 = true ∧ W.heap[b8]? = some (row 27 y.2.1.cells) ∧ W.heap[b9]? = some (row 4 [.bool true]))
    (fun s A B r hs hg hr => ⟨ext_grows hs.1 hg fun q hq => (hr q hq).1, hs.2⟩)
    (fun c s A B r hs hg hr => by
      obtain ⟨h1, h2, init, y, h3, h4, h5, h6, h7⟩ := hs
      have hk : ∀ b, b < w1.heap.size → B.heap[b]? = A.heap[b]? := fun b hb => hg.block b (Nat.lt_of_lt_of_le hb h2.size) fun e => by have := (hr b e.symm).1; omega
      exact ⟨h1, ext_grows h2 hg fun q hq => (hr q hq).1, init, y, h3, h4, h5, (hk b8 h8).trans h6, (hk b9 h9).trans h7⟩)
    ⟨Ext.refl _, by simp⟩
    (fun x a' W => ∃ b11, w1.heap.size ≤ b11 ∧ W.heap[b11]? = some (row 27 x.2.1.cells) ∧ a'.defers = [] ∧ a'.tmps.size = 31 ∧ ∀ t y, slot ((11, ptr b11) :: bsL b4 b6 b7 b8 b9) t = some y → ∃ u, a'.tmps[t]? = some u ∧ y = .v u)
    (fun x a' s A B r hs hg hr => by
      obtain ⟨b11, h1, h2, h3⟩ := hs
      refine ⟨b11, h1, (hg.block b11 (heap_lt h2) fun e => ?_).trans h2, h3⟩
      obtain ⟨_, o, h4, h5⟩ := hr b11 e.symm
      rw [h2] at h4
      cases h4
      cases h5)
    ?assign ?body ?done ?stop
  case assign =>
    intro l pre x W K hI hK
    obtain ⟨hxW, hbad⟩ := hI
    have hmW := hs1.mem.same hxW
    have hf := hmW.1.focus (Split.rds (ys := σ) (fun _ h => h))
    have hs2 : St 31 ⟨W, mids (σ.map It.toRd), mids σ ++ G⟩ (σ.map It.toRd) (bsL b4 b6 b7 b8 b9) a1 W := St.world (W' := ⟨W, mids (σ.map It.toRd), mids σ ++ G⟩) hsA ⟨rfl, rfl, rfl, rfl, rfl, trivial⟩ bsL_plain hf.1
    have hs3 := (hs2.put (d := some 16) (y := int x.1) (v := .int .i64 x.1) rfl rfl).put (d := some 17) (y := .agg x.2.1.abs) (v := .agg x.2.1.cells.toArray) rfl ⟨_, rfl, by rw [Pnt.abs_cells]; exact reps_plain.2 rfl⟩
    have hact : ({ tmps := ((#[16, 17] : Array Tmp).zip (encP (fun x : PtI => x.1) x)).foldl (fun t (p, v) => t.setIfInBounds p v) a1.tmps, defers := [] } : Act) = (a1.put (some 16) (.int .i64 x.1)).put (some 17) (.agg x.2.1.cells.toArray) := by
      have hd := hs1.defers
      obtain ⟨t, d⟩ := a1
      subst hd
      simp [encP, Act.put]
    rw [hact]
    refine (show RC Try.prog (some l) 4 _ (St 31 ⟨W, mids (σ.map It.toRd), mids σ ++ G⟩ (σ.map It.toRd) _) _ from ?_) _ _ hs3
    refine RC.region rfl ?_
    refine SL.eff (Eff.alloc tabOk rfl) rfl rfl ?_
    rintro _ _ ⟨b11, rfl, rfl⟩
    refine SL.eff (Eff.store (L' := x.2.1.abs) tabOk rfl rfl rfl (by repeat first|assumption|exact Upd.here|apply Upd.there) (Pnt.size _) (lb_ (by rfl)) (Pnt.ones _) (by exact putL_whole (Pnt.size _))) rfl rfl ?_
    rintro _ _ ⟨rfl, rfl⟩
    refine SL.nil (RE.norm ?_)
    intro a2 w2 hs4
    have hm0 : mids (σ.map It.toRd) = [] := by simp [mids, List.flatMap_map, toRd_mids]
    have hx2 : Ext [] W w2 := by have h := hs4.mem.ext; rw [show (Wd.mk W (mids (σ.map It.toRd)) (mids σ ++ G)).F = [] from hm0] at h; exact h
    have hs5 := hs4.sub (r := (11, ptr b11) :: bsL b4 b6 b7 b8 b9) ⟨rfl, rfl, rfl, rfl, rfl, rfl, trivial⟩
    obtain ⟨us, h5, h6⟩ := hs4.mem.hold _ List.mem_cons_self
    rw [Pnt.abs_cells] at h6
    have h6 := reps_plain.1 h6
    subst h6
    have h7 := hs4.mem.out b11 (by simp [mids_cons, It.mids])
    rw [show (Wd.mk W (mids (σ.map It.toRd)) (mids σ ++ G)).F = [] from hm0] at h7
    have h7 : W.heap.size ≤ b11 := h7.resolve_left (by simp)
    refine hK a2 w2 (ext_keeps hx2 (by simp)) (ext_to_below hx2 hxW.size) ⟨hxW.trans hx2 (by simp), hbad⟩ ⟨b11, Nat.le_trans hxW.size h7, h5, hs4.defers, hs4.size, fun t y hy => ?_⟩
    obtain ⟨u, h8', h9'⟩ := hs5.slots t y hy
    obtain ⟨v, rfl⟩ := bsL_plain2 t y hy
    exact ⟨u, h8', by rw [show u = v from h9']⟩
  case body =>
    intro l pre x a' W hl hrec hI hAx hpn
    obtain ⟨hxW, hbad⟩ := hI
    obtain ⟨b11, hb11, hh11, hd', hsz', hsl'⟩ := hAx
    have hxr := x.2.2
    have hmn := (hs1.mem.new (y := .blk b11 27 x.2.1.abs) hxW (by simp [It.mids]) (by simp [It.mids]; omega) rfl (fun hc => ⟨_, hh11, by rw [Pnt.abs_cells]; exact reps_plain.2 rfl⟩)).1
    have hf := hmn.focus (Split.rds (ys := .blk b11 27 x.2.1.abs :: σ) (fun _ h => h))
    obtain ⟨σB, hσB⟩ : ∃ σB, (It.blk b11 27 x.2.1.abs :: σ).map It.toRd = σB := ⟨_, rfl⟩
    have hm0 : mids σB = [] := by rw [← hσB]; simp [mids, List.flatMap_map, toRd_mids]
    obtain ⟨GB, hGB⟩ : ∃ GB, mids (It.blk b11 27 x.2.1.abs :: σ) ++ G = GB := ⟨_, rfl⟩
    have hfm : Mem W [] GB σB W := by have h := hf.1; rw [hσB, hm0, hGB] at h; exact h
    have hsB : St 31 ⟨W, [], GB⟩ σB ((11, ptr b11) :: bsL b4 b6 b7 b8 b9) a' W := ⟨hd', hsz', fun t y hy => by obtain ⟨u, h1, rfl⟩ := hsl' t y hy; exact ⟨u, h1, rfl⟩, hfm⟩
    clear hf hfm hm0
    rw [← hσ] at hσB
    simp only [List.map_cons, It.toRd, List.map_nil] at hσB
    subst hσB
    refine (show RC Try.prog (some l) 4 _ (St 31 ⟨W, [], GB⟩ _ _) _ from ?_) _ _ hsB
    refine RC.block (RC.seq (RC.draw [] (.q 0 (.q 1 (.q 2 (.q 3 (.q 4 (.q 5 (.q 6 (.q 8 (.e 7 (.q 9 (.q 10 .nil))))))))))) (by kernel_rfl) (by kernel_rfl) (by kernel_rfl) ?_))
    refine SX.val rfl (Val.fieldAddr tabOk rfl rfl rfl rfl rfl) (by simp) rfl rfl ?_
    refine SX.val rfl (Val.to (C := int x.2.1.seq) (Val.load1 tabOk rfl rfl (by repeat first|assumption|exact o0_|exact o1_|apply o2_) List.not_mem_nil (by rfl)) rfl) (by simp) rfl rfl ?_
    refine SX.val rfl (Val.to (C := int above) (Val.load1 tabOk rfl rfl (by repeat first|assumption|exact o0_|exact o1_|apply o2_) List.not_mem_nil (by rfl)) rfl) (by simp) rfl rfl ?_
    refine SX.val rfl (Val.gtI rfl rfl) (by simp) rfl rfl ?_
    refine SX.val rfl (Val.move rfl) (by simp) rfl rfl ?_
    have hno : goodP om vs above at_ x.2.1 = false → ∀ a2 w2, Ext [] W w2 → ownPostG w1.heap.size (Below w1.heap.size) (fun pre W => Ext [] w1 W ∧ ∀ y ∈ pre, goodP om vs above at_ y.2.1 = false) (fun c pre W => c = .ret ∧ Ext [b8, b9] w1 W ∧ ∃ init y, pre = init ++ [y] ∧ (∀ z ∈ init, goodP om vs above at_ z.2.1 = false) ∧ goodP om vs above at_ y.2.1 = true ∧ W.heap[b8]? = some (row 27 y.2.1.cells) ∧ W.heap[b9]? = some (row 4 [.bool true])) (pre ++ [x]) W .normal a2 w2 := fun hb a2 w2 hx2 =>
      ⟨ext_keeps hx2 (by simp), ext_to_below hx2 hxW.size, hxW.trans hx2 (by simp), fun y hy => by
        rcases List.mem_append.1 hy with hy | hy
        · exact hbad y hy
        · rw [List.mem_singleton.1 hy]; exact hb⟩
    refine SX.bothP (t := 22) rfl ?_ ?_
    rotate_left
    · intro hc22
      iterate 3 refine SX.skip rfl rfl rfl ?_
      refine SX.skip' rfl rfl rfl ?_
      refine SX.skip rfl rfl rfl ?_
      refine SX.val rfl (Val.pickF rfl rfl) (by simp) rfl rfl ?_
      refine SX.nil (RE.norm (RE.seq ?_))
      refine RC.cond rfl (fun h => by cases h) (fun _ => RC.skip ?_)
      intro a2 w2 hs6
      exact hno (by unfold goodP; simp only [decide_eq_false (show ¬ above < x.2.1.seq from hc22), Bool.false_and]) a2 w2 hs6.mem.ext
    intro hc22
    refine SX.val rfl (Val.to (C := ptr bp) (Val.load1 tabOk rfl rfl (by repeat first|assumption|exact o0_|exact o1_|apply o2_) List.not_mem_nil (by rfl)) rfl) (by simp) rfl rfl ?_
    refine SX.val rfl (Val.to (C := .agg x.2.1.abs) (Val.loadA tabOk rfl rfl rfl (by repeat first|assumption|exact o0_|exact o1_|apply o2_) List.not_mem_nil (Pnt.size _)) rfl) (by simp) rfl rfl ?_
    refine SX.val rfl (Val.to (C := int at_) (Val.load1 tabOk rfl rfl (by repeat first|assumption|exact o0_|exact o1_|apply o2_) List.not_mem_nil (by rfl)) rfl) (by simp) rfl rfl ?_
    refine SX.call rfl (psup_s (x := x.2.1) (bm := bm) (vv := vv) hok hxr) (by simp [mids, It.mids]) Casts.refl (by kernel_rfl) rfl rfl rfl ?_
    refine ap_ ?_
    intro _
    refine SX.val rfl (Val.geI rfl rfl) (by simp) rfl rfl ?_
    refine SX.val rfl (Val.pickT rfl rfl) (by simp) rfl rfl ?_
    refine SX.nil (RE.norm (RE.seq ?_))
    refine RC.cond rfl (fun h => ?_) (fun h => RC.skip ?_)
    · have hgd : goodP om vs above at_ x.2.1 = true := by unfold goodP; rw [decide_eq_true (show above < x.2.1.seq from hc22), Bool.true_and]; exact h
      intro a2 w2 hs6
      have hx2 : Ext [] W w2 := hs6.mem.ext
      have hs7 := hs6.sub (r := (11, ptr b11) :: bsL b4 b6 b7 b8 b9) ⟨rfl, rfl, rfl, rfl, rfl, rfl, trivial⟩
      have hm8 := (hmn.same hx2).1
      have hsp : Split (It.blk b11 27 x.2.1.abs :: σ) [.blk b9 4 [boo false], .blk b8 27 Pnt.zero.abs, .rd b11 27 x.2.1.abs] (It.blk b11 27 x.2.1.abs :: .blk b15 40 [pntsA (ys.map fun x : PtI => x.1)] :: σ.drop 3) := by
        subst hσ
        refine ⟨?_, fun y hy => ?_, fun y hy => ?_⟩
        · show ([b9, b8] ++ ([b11, b15] ++ [b7, b6, b4])).Perm ([b11, b15] ++ ([b9, b8] ++ [b7, b6, b4]))
          exact List.perm_append_comm_assoc _ _ _
        · simp only [List.mem_cons, List.not_mem_nil, or_false] at hy
          rcases hy with rfl | rfl | rfl
          · exact .inl ⟨by simp, rfl⟩
          · exact .inl ⟨by simp, rfl⟩
          · exact .inr ⟨.blk b11 27 x.2.1.abs, List.mem_cons_self, rfl⟩
        · rcases List.mem_cons.1 hy with rfl | hy
          · exact List.mem_cons_self
          · rcases List.mem_cons.1 hy with rfl | hy
            · exact List.mem_cons_of_mem _ List.mem_cons_self
            · exact List.mem_cons_of_mem _ (List.mem_of_mem_drop hy)
      have hf := (hm8.focus hsp).1
      have hs8 := St.world (W' := ⟨w2, _, _⟩) (l' := (11, ptr b11) :: bsL b4 b6 b7 b8 b9) hs7 ⟨rfl, rfl, rfl, rfl, rfl, rfl, trivial⟩ bsL_plain2 hf
      refine (show RC Try.prog (some l) 4 _ (St 31 _ _ _) _ from ?_) _ _ hs8
      refine RC.seq (RC.region rfl ?_)
      refine SL.val (Val.to (C := .agg x.2.1.abs) (Val.loadA tabOk rfl rfl rfl (by repeat first|assumption|exact o0_|exact o1_|apply o2_) List.not_mem_nil (Pnt.size _)) rfl) rfl rfl ?_
      refine SL.eff (Eff.store (L' := x.2.1.abs) tabOk rfl rfl rfl (by repeat first|assumption|exact Upd.here|apply Upd.there) (Pnt.size _) (lb_ (by rfl)) (Pnt.ones _) (by exact putL_whole (Pnt.size _))) rfl rfl ?_
      rintro _ _ ⟨rfl, rfl⟩
      refine SL.eff (Eff.store (L' := [boo true]) tabOk rfl rfl rfl (by repeat first|assumption|exact Upd.here|apply Upd.there) rfl (lb_ (by rfl)) rfl (by rfl)) rfl rfl ?_
      rintro _ _ ⟨rfl, rfl⟩
      refine SL.nil (RE.norm (RE.seq (RC.ret ?_)))
      intro a3 w3 hs9
      have hx3 : Ext [b9, b8] w2 w3 := hs9.mem.ext
      have hx2' : Ext [b8, b9] W w2 := hx2.mono (G := [b8, b9]) (by simp)
      have hx3' : Ext [b8, b9] w2 w3 := hx3.mono (G := [b8, b9]) (fun k hk => .inl (by simp at hk ⊢; rcases hk with rfl | rfl <;> simp))
      have hx4 : Ext [b8, b9] W w3 := hx2'.trans hx3' (fun k hk => .inl hk)
      have hxW' : Ext [b8, b9] w1 W := hxW.mono (G := [b8, b9]) (by simp)
      obtain ⟨us8, k8, k8'⟩ := hs9.mem.hold (.blk b8 27 x.2.1.abs) (by simp)
      obtain ⟨us9, k9, k9'⟩ := hs9.mem.hold (.blk b9 4 [boo true]) (by simp)
      rw [Pnt.abs_cells] at k8'
      have k8' := reps_plain.1 k8'
      obtain ⟨u9, us9', k10, k11, k12⟩ := k9'
      have k11 : u9 = _ := k11
      have k12 : us9' = [] := k12
      subst k8' k10 k11 k12
      exact ⟨ext_keeps hx4 (by simp; omega), rfl, hxW'.trans hx4 (fun k hk => .inl hk), pre, x, rfl, hbad, hgd, k8, k9⟩
    · intro a2 w2 hs6
      exact hno (by unfold goodP; rw [decide_eq_true (show above < x.2.1.seq from hc22), Bool.true_and]; exact h) a2 w2 hs6.mem.ext
  case done =>
    intro D xs W hD hS hI hK
    obtain ⟨hxW, hbad⟩ := hI
    subst hS
    have hmW := (hs1.mem.same hxW).1
    have hsp : Split σ [.blk b9 4 [boo false], .blk b8 27 Pnt.zero.abs] (.blk b15 40 [pntsA (ys.map fun x : PtI => x.1)] :: σ.drop 3) := by
      subst hσ
      refine ⟨?_, fun y hy => ?_, fun y hy => ?_⟩
      · show ([b9, b8] ++ ([b15] ++ [b7, b6, b4])).Perm ([b15] ++ ([b9, b8] ++ [b7, b6, b4]))
        exact List.perm_append_comm_assoc _ _ _
      · simp only [List.mem_cons, List.not_mem_nil, or_false] at hy
        rcases hy with rfl | rfl
        · exact .inl ⟨by simp, rfl⟩
        · exact .inl ⟨by simp, rfl⟩
      · rcases List.mem_cons.1 hy with rfl | hy
        · exact List.mem_cons_self
        · exact List.mem_of_mem_drop hy
    have hf := (hmW.focus hsp).1
    have hs2 := St.world (W' := ⟨W, _, _⟩) (l' := bsL b4 b6 b7 b8 b9) hsA ⟨rfl, rfl, rfl, rfl, rfl, trivial⟩ bsL_plain hf
    rw [hs1.defers]
    have hd0 : ({ a1 with defers := [{ target := .collected D, args := #[] }] } : Act) = { a1 with defers := [{ target := .collected D, args := #[] }] } := rfl
    refine wpIn_seq (Code.wpIn_mono (fun _ _ _ h => normOf_le h) (wpIn_region_lit (list_in normOf_out rfl ((show SL Try.prog _ _ (StD 31 ⟨W, _, _⟩ _ _ [{ target := .collected D, args := #[] }]) (NormOf _) from ?_) _ _ ⟨a1, rfl, hs2⟩))))
    refine SL.valD (Val.to (C := .agg Pnt.zero.abs) (Val.buildS (ps := []) tabOk rfl rfl rfl rfl) rfl) rfl rfl ?_
    refine SL.effD (Eff.store (L' := Pnt.zero.abs) tabOk rfl rfl rfl (by repeat first|assumption|exact Upd.here|apply Upd.there) (Pnt.size _) (lb_ (by rfl)) (Pnt.ones _) (by exact putL_whole (Pnt.size _))) rfl rfl ?_
    rintro _ _ ⟨rfl, rfl⟩
    refine SL.effD (Eff.store (L' := [boo false]) tabOk rfl rfl rfl (by repeat first|assumption|exact Upd.here|apply Upd.there) rfl (lb_ (by rfl)) rfl (by rfl)) rfl rfl ?_
    rintro _ _ ⟨rfl, rfl⟩
    refine SL.nil ?_
    rintro _ w3 ⟨a3, rfl, hs3⟩
    refine wpIn_ret ?_
    have hx3 : Ext [b9, b8] W w3 := hs3.mem.ext
    obtain ⟨us8, k8, k8'⟩ := hs3.mem.hold (.blk b8 27 Pnt.zero.abs) (by simp)
    obtain ⟨us9, k9, k9'⟩ := hs3.mem.hold (.blk b9 4 [boo false]) (by simp)
    rw [Pnt.abs_cells] at k8'
    have k8' := reps_plain.1 k8'
    obtain ⟨u9, us9', k10, k11, k12⟩ := k9'
    have k11 : u9 = _ := k11
    have k12 : us9' = [] := k12
    subst k8' k10 k11 k12
    have hs4 := hs3.sub (r := bsL b4 b6 b7 b8 b9) ⟨rfl, rfl, rfl, rfl, rfl, trivial⟩
    have f8 : a3.tmps[8]? = some (.pointer (some ⟨b8, 0, none⟩)) := by obtain ⟨u, h1, h2⟩ := hs4.slots 8 _ rfl; rw [show u = _ from h2] at h1; exact h1
    have f9 : a3.tmps[9]? = some (.pointer (some ⟨b9, 0, none⟩)) := by obtain ⟨u, h1, h2⟩ := hs4.slots 9 _ rfl; rw [show u = _ from h2] at h1; exact h1
    have hxa : Ext [] w w3 := (hx1.trans hxW (by simp)).trans hx3 (by intro k hk; simp at hk; rcases hk with rfl | rfl <;> first | exact .inr h9w | exact .inr h8w)
    exact best_out f8 f9 hs3.size hxa k8 k9 hne (fun k hk => Nat.lt_of_lt_of_le (hm.old k hk) (Nat.le_refl _)) h8w h9w ((hx3.block D (heap_lt hK) (by simp; omega)).trans hK) (Nat.le_trans hx1.size hD) (by rw [best_none hbad]; rfl)
  case stop =>
    intro D c pre W hD hSp hI hK
    obtain ⟨rfl, hxW, init, y, rfl, hbad, hgd, k8, k9⟩ := hI
    rw [hs1.defers]
    refine wpIn_ret ?_
    have hxa : Ext [] w W := hx1.trans hxW (by intro k hk; simp at hk; rcases hk with rfl | rfl <;> first | exact .inr h9w | exact .inr h8w)
    exact best_out (a := a1) e8 e9 hs1.size hxa k8 k9 hne (fun k hk => hm.old k hk) h8w h9w hK (Nat.le_trans hx1.size hD) (by rw [best_some hSp hbad hgd]; rfl)
end
end Go.Proofs.Ytjbikemecdlolaa.A
/-
  How many may lie; a quorum.
-/
namespace Go.Proofs.Ytjbikemecdlolaa.A
open Go.RowKit

section
variable {n : Int}
theorem faults_s (hn : n ≤ 1000) : Spec Try.prog 33 [int n] [] (fun _ : Unit => []) (fun _ => int ((max n 1 - 1) / 3)) := by
 refine spec_of Try.func33 rfl Try.ntmps33 rfl fun G w => ?_
 refine SC.seq (SC.region ?_)
 refine SL.val (Val.assign rfl) rfl rfl ?_
 refine SL.nil (SE.seq ?_)
 refine SC.seq (SC.region ?_)
 refine SL.val (Val.move rfl) rfl rfl ?_
 refine SL.val (Val.maxI rfl rfl) rfl rfl ?_
 first
  | refine SL.val (Val.subI rfl rfl (by simp only [InR, lo, hi]; omega)) rfl rfl ?_
  | refine SL.val (Val.subW rfl rfl) rfl rfl ?_
 refine SL.val (Val.quoI rfl rfl (by omega) (by simp only [InR, lo, hi]; omega)) rfl rfl ?_
 refine SL.val (Val.assign rfl) rfl rfl ?_
 refine SL.nil (SE.seq ?_)
 refine SC.ret ?_
 refine SE.fin (rs := [.tmp 2]) rfl (RV.tmp rfl RV.nil) (()) (by repeat first|exact s0_ _|exact s1_ _|apply s2_|apply s3_) (by simp [It.rids]) ?_
 exact rfl
theorem quorum_s (hn : n ≤ 1000) : Spec Try.prog 34 [int n] [] (fun _ : Unit => []) (fun _ => int (2 * ((max n 1 - 1) / 3) + 1)) := by
 refine spec_of Try.func34 rfl Try.ntmps34 rfl fun G w => ?_
 refine SC.seq (SC.region ?_)
 refine SL.val (Val.assign rfl) rfl rfl ?_
 refine SL.nil (SE.seq ?_)
 refine SC.seq (SC.region ?_)
 refine SL.val (Val.move rfl) rfl rfl ?_
 refine SL.call (faults_s hn) Casts.refl (by kernel_rfl) rfl rfl rfl ?_
 refine ap_ ?_
 intro _
 first
  | refine SL.val (Val.mulI rfl rfl (by simp only [InR, lo, hi]; omega)) rfl rfl ?_
  | refine SL.val (Val.mulW rfl rfl) rfl rfl ?_
 first
  | refine SL.val (Val.addI rfl rfl (by simp only [InR, lo, hi]; omega)) rfl rfl ?_
  | refine SL.val (Val.addW rfl rfl) rfl rfl ?_
 refine SL.val (Val.assign rfl) rfl rfl ?_
 refine SL.nil (SE.seq ?_)
 refine SC.ret ?_
 refine SE.fin (rs := [.tmp 2]) rfl (RV.tmp rfl RV.nil) (()) (by repeat first|exact s0_ _|exact s1_ _|apply s2_|apply s3_) (by simp [It.rids]) ?_
 exact rfl
end
end Go.Proofs.Ytjbikemecdlolaa.A
/-
  Points: stable, weak.
-/
namespace Go.Proofs.Ytjbikemecdlolaa.A
open Go.RowKit

/-- The greatest point that some honest replica supports: of the first q voters. -/
def weakTo (n me : Nat) (om : List (Int × Ow)) (vs : List (List Pnt)) (above at_ : Int) (q : Nat) : Option Pnt := (List.range q).foldl (fun o (w : Nat) => maxO o (bestF om vs (votesI n me om vs (w : Int)) above at_)) none
theorem weakTo_succ {n me : Nat} {om : List (Int × Ow)} {vs : List (List Pnt)} {above at_ : Int} {q : Nat} : weakTo n me om vs above at_ (q + 1) = maxO (weakTo n me om vs above at_ q) (bestF om vs (votesI n me om vs (q : Int)) above at_) := by
  unfold weakTo
  rw [List.range_succ, List.foldl_append]
  rfl
theorem maxO_yes {o p : Option Pnt} (h1 : p.isSome = true) (h2 : o.isSome = false ∨ (ptO p).seq > (ptO o).seq) : maxO o p = some (ptO p) := by
  cases p with
  | none => cases h1
  | some x =>
    cases o with
    | none => rfl
    | some y =>
      rcases h2 with h2 | h2
      · cases h2
      · exact if_pos (show y.seq < x.seq from h2)
theorem maxO_no {o p : Option Pnt} (h1 : p.isSome = false) : maxO o p = o := by
  cases p with
  | none => cases o <;> rfl
  | some x => cases h1
theorem maxO_less {o p : Option Pnt} (h1 : o.isSome = true) (h2 : ¬ (ptO p).seq > (ptO o).seq) : maxO o p = o := by
  cases p with
  | none => cases o <;> rfl
  | some x =>
    cases o with
    | none => cases h1
    | some y =>
      exact if_neg (show ¬ y.seq < x.seq from h2)
theorem pnt_le (x : Pnt) : 0 + 33 ≤ x.abs.length := by rw [Pnt.size]; omega
section
variable {n me : Nat} {om : List (Int × Ow)} {vs : List (List Pnt)} {bp bm : Nat} {vv : Value} {x : Pnt} {who k low above : Int} {o : Ow} {l : List Pnt}
theorem pstable_s (hok : PtsOk n me om vs) : Spec Try.prog 10 [ptr bp, int above] [.rd bp 57 [int (n : Nat), int (me : Nat), mapV bm, .v vv], .rdpc (ownPc 40 1 vv (vs.map fun l => [pntsA l])), .rdpc (tmPc bm intK intOk Ow.enc om)] (fun _ : Unit => []) (fun _ => .tup [.agg (ptO (bestF om vs (votesI n me om vs (me : Nat)) above (2 * ((max (n : Int) 1 - 1) / 3) + 1))).abs, boo (bestF om vs (votesI n me om vs (me : Nat)) above (2 * ((max (n : Int) 1 - 1) / 3) + 1)).isSome]) := by
 refine spec_of Try.func10 rfl Try.ntmps10 rfl fun G w => ?_
 refine SC.seq (SC.region ?_)
 refine SL.eff (Eff.alloc tabOk rfl) rfl rfl ?_
 rintro _ _ ⟨b4, rfl, rfl⟩
 refine SL.val (Val.assign rfl) rfl rfl ?_
 refine SL.nil (SE.seq ?_)
 refine SC.seq ?_
 refine SC.seq (SC.region ?_)
 refine SL.val (Val.move rfl) rfl rfl ?_
 refine SL.val (Val.eqP rfl rfl (by kernel_rfl)) rfl rfl ?_
 refine SL.nil (SE.seq ?_)
 refine SC.condF rfl ?_
 refine SC.skip ?_
 refine SE.seq ?_
 refine SC.seq ?_
 refine SC.drawS 14 [] (.q 0 (.q 1 (.q 2 (.q 3 (.q 4 (.q 5 (.q 6 (.q 7 (.q 8 (.q 9 (.e 10 (.e 11 (.q 12 (.q 13 .nil)))))))))))))) (.e 14 (.q 15 .nil)) (by kernel_rfl) (by kernel_rfl) ?_
 refine SX.val rfl (Val.move rfl) (by simp) rfl rfl ?_
 refine SX.val rfl (Val.move rfl) (by simp) rfl rfl ?_
 refine SX.val rfl (Val.nilCheck rfl) (by simp) rfl rfl ?_
 refine SX.val rfl (Val.fieldAddr tabOk rfl rfl rfl rfl rfl) (by simp) rfl rfl ?_
 refine SX.val rfl (Val.load1 tabOk rfl rfl (by repeat first|assumption|exact o0_|exact o1_|apply o2_) List.not_mem_nil (by rfl)) (by simp) rfl rfl ?_
 refine SX.val rfl (Val.move rfl) (by simp) rfl rfl ?_
 refine SX.val rfl (Val.move rfl) (by simp) rfl rfl ?_
 refine SX.val rfl (Val.nilCheck rfl) (by simp) rfl rfl ?_
 refine SX.val rfl (Val.fieldAddr tabOk rfl rfl rfl rfl rfl) (by simp) rfl rfl ?_
 refine SX.val rfl (Val.load1 tabOk rfl rfl (by repeat first|assumption|exact o0_|exact o1_|apply o2_) List.not_mem_nil (by rfl)) (by simp) rfl rfl ?_
 refine SX.call rfl (quorum_s (n := (n : Int)) (by have := hok.n7; omega)) (by simp [mids, It.mids]) Casts.refl (by kernel_rfl) rfl rfl rfl ?_
 refine ap_ ?_
 intro _
 refine SX.call rfl (pbest_s (bm := bm) (vv := vv) (who := (me : Int)) (above := above) (at_ := 2 * ((max (n : Int) 1 - 1) / 3) + 1) hok) (by simp [mids, It.mids]) Casts.refl (by kernel_rfl) rfl rfl rfl ?_
 refine ap_ ?_
 intro _
 refine SX.val rfl (Val.extract rfl rfl) (by simp) rfl rfl ?_
 refine SX.val rfl (Val.extract rfl rfl) (by simp) rfl rfl ?_
 refine SX.nil ?_
 refine SE.rest [b4] ?_
 refine SX.eff rfl (Eff.store (L' := (ptO (bestF om vs (votesI n me om vs (me : Nat)) above (2 * ((max (n : Int) 1 - 1) / 3) + 1))).abs) tabOk rfl rfl rfl (by repeat first|assumption|exact Upd.here|apply Upd.there) (Pnt.size _) (lb_ (by rfl)) (Pnt.ones _) (by exact putL_whole (Pnt.size _))) (by simp) rfl rfl ?_
 rintro _ _ ⟨rfl, rfl⟩
 refine SX.hx (by first|(simp[mids,It.mids,ownPc];done)|(intro k hk;simp[mids,It.mids,ownPc] at hk ⊢;grind)) fun hx9 => ?_
 refine SX.val rfl (Val.assign rfl) hx9 rfl rfl ?_
 refine SX.nil (SE.seq ?_)
 refine SC.ret ?_
 refine SE.fin (rs := [.cell 4 27, .tmp 5]) rfl (RV.cell rfl (RV.cellA tabOk rfl rfl (by repeat first|assumption|exact o0_|exact o1_|apply o2_) (Pnt.size _)) (RV.tmp rfl RV.nil)) (()) (by repeat first|exact s0_ _|exact s1_ _|apply s2_|apply s3_) (by simp [It.rids]) ?_
 exact rfl
set_option maxHeartbeats 2000000 in
theorem pweak_s (hok : PtsOk n me om vs) : Spec Try.prog 9 [ptr bp, int above] [.rd bp 57 [int (n : Nat), int (me : Nat), mapV bm, .v vv], .rdpc (ownPc 40 1 vv (vs.map fun l => [pntsA l])), .rdpc (tmPc bm intK intOk Ow.enc om)] (fun _ : Unit => []) (fun _ => .tup [.agg (ptO (weakTo n me om vs above ((max (n : Int) 1 - 1) / 3 + 1) n)).abs, boo (weakTo n me om vs above ((max (n : Int) 1 - 1) / 3 + 1) n).isSome]) := by
 refine spec_of Try.func9 rfl Try.ntmps9 rfl fun G w => ?_
 refine SC.seq (SC.region ?_)
 refine SL.eff (Eff.alloc tabOk rfl) rfl rfl ?_
 rintro _ _ ⟨b4, rfl, rfl⟩
 refine SL.val (Val.assign rfl) rfl rfl ?_
 refine SL.nil (SE.seq ?_)
 refine SC.seq ?_
 refine SC.seq (SC.region ?_)
 refine SL.val (Val.move rfl) rfl rfl ?_
 refine SL.val (Val.eqP rfl rfl (by kernel_rfl)) rfl rfl ?_
 refine SL.nil (SE.seq ?_)
 refine SC.condF rfl ?_
 refine SC.skip ?_
 refine SE.seq ?_
 refine SC.seq ?_
 refine SC.seq (SC.region ?_)
 refine SL.val (Val.move rfl) rfl rfl ?_
 refine SL.val (Val.nilCheck rfl) rfl rfl ?_
 refine SL.val (Val.fieldAddr tabOk rfl rfl rfl rfl rfl) rfl rfl ?_
 refine SL.val (Val.load1 tabOk rfl rfl (by repeat first|assumption|exact o0_|exact o1_|apply o2_) List.not_mem_nil (by rfl)) rfl rfl ?_
 refine SL.val (Val.move rfl) rfl rfl ?_
 refine SL.nil (SE.seq ?_)
 refine SC.block ?_
 have hn7 := hok.n7
 refine SC.loop (ι := Nat × Unit) (fun z => [.blk b4 27 (ptO (weakTo n me om vs above ((max (n : Int) 1 - 1) / 3 + 1) z.1)).abs, .rd bp 57 [int (n : Nat), int (me : Nat), mapV bm, .v vv], .rdpc (ownPc 40 1 vv (vs.map fun l => [pntsA l])), .rdpc (tmPc bm intK intOk Ow.enc om)]) (fun z => [(0, ptr bp), (1, int above), (4, ptr b4), (5, boo (weakTo n me om vs above ((max (n : Int) 1 - 1) / 3 + 1) z.1).isSome), (15, int (n : Nat)), (16, int (z.1 : Nat))]) (fun z => z.1 ≤ n) (fun z => n - z.1) (0, ()) (Nat.zero_le _) (by exact ⟨rfl, rfl, rfl, rfl, rfl, rfl, trivial⟩) (by repeat first|exact s0_ _|exact s1_ _|apply s2_|apply s3_) ?_
 intro z hz
 refine SC.seq (SC.region ?_)
 refine SL.val (Val.ltI rfl rfl) rfl rfl ?_
 refine SL.nil (SE.seq ?_)
 refine SC.seq ?_
 refine SC.condP rfl ?_ ?_
 rotate_left
 ·intro hc17
  have hze : z.1 = n := by omega
  refine SC.exit ?_
  refine SE.then_ nofun ?_
  refine SE.then_ nofun ?_
  refine SE.exit ?_
  refine SE.seq ?_
  refine SC.seq (SC.region ?_)
  refine SL.val (Val.to (C := .agg (ptO (weakTo n me om vs above ((max (n : Int) 1 - 1) / 3 + 1) z.1)).abs) (Val.loadA tabOk rfl rfl rfl (by repeat first|assumption|exact o0_|exact o1_|apply o2_) List.not_mem_nil (Pnt.size _)) rfl) rfl rfl ?_
  refine SL.val (Val.move rfl) rfl rfl ?_
  refine SL.eff (Eff.store (L' := (ptO (weakTo n me om vs above ((max (n : Int) 1 - 1) / 3 + 1) z.1)).abs) tabOk rfl rfl rfl (by repeat first|assumption|exact Upd.here|apply Upd.there) (Pnt.size _) (pnt_le _) (Pnt.ones _) (by exact putL_whole ((Pnt.size _).trans (Pnt.size _).symm))) rfl rfl ?_
  rintro _ _ ⟨rfl, rfl⟩
  refine SL.val (Val.assign rfl) rfl rfl ?_
  refine SL.nil (SE.seq ?_)
  refine SC.ret ?_
  refine SE.fin (rs := [.cell 4 27, .tmp 5]) rfl (RV.cell rfl (RV.cellA tabOk rfl rfl (by repeat first|assumption|exact o0_|exact o1_|apply o2_) (Pnt.size _)) (RV.tmp rfl RV.nil)) (()) (by repeat first|exact s0_ _|exact s1_ _|apply s2_|apply s3_) (by simp [It.rids]) ?_
  rw [hze]
  rfl
 intro hc17
 have hlt : z.1 < n := by omega
 refine SC.skip ?_
 refine SE.seq ?_
 refine SC.seq ?_
 refine SC.block ?_
 refine SC.seq (SC.region ?_)
 refine SL.val (Val.move rfl) rfl rfl ?_
 refine SL.val (Val.assign rfl) rfl rfl ?_
 refine SL.nil (SE.seq ?_)
 refine SC.seq (SC.region ?_)
 iterate 4 refine SL.val (Val.move rfl) rfl rfl ?_
 refine SL.val (Val.nilCheck rfl) rfl rfl ?_
 refine SL.val (Val.fieldAddr tabOk rfl rfl rfl rfl rfl) rfl rfl ?_
 refine SL.val (Val.load1 tabOk rfl rfl (by repeat first|assumption|exact o0_|exact o1_|apply o2_) List.not_mem_nil (by rfl)) rfl rfl ?_
 refine SL.call (faults_s (n := (n : Int)) (by have := hok.n7; omega)) Casts.refl (by kernel_rfl) rfl rfl rfl ?_
 refine ap_ ?_
 intro _
 refine SL.val (Val.addI rfl rfl (by have := hok.n7; simp only [InR, lo, hi]; omega)) rfl rfl ?_
 refine SL.call (pbest_s (bm := bm) (vv := vv) (who := (z.1 : Int)) (above := above) (at_ := (max (n : Int) 1 - 1) / 3 + 1) hok) Casts.refl (by kernel_rfl) rfl rfl rfl ?_
 refine ap_ ?_
 intro _
 refine SL.val (Val.move rfl) rfl rfl ?_
 refine SL.val (Val.extract rfl rfl) rfl rfl ?_
 refine SL.val (Val.extract rfl rfl) rfl rfl ?_
 refine SL.eff (Eff.alloc tabOk rfl) rfl rfl ?_
 rintro _ _ ⟨b7, rfl, rfl⟩
 refine SL.eff (Eff.store (L' := (ptO (bestF om vs (votesI n me om vs (z.1 : Nat)) above ((max (n : Int) 1 - 1) / 3 + 1))).abs) tabOk rfl rfl rfl (by repeat first|assumption|exact Upd.here|apply Upd.there) (Pnt.size _) (lb_ (by rfl)) (Pnt.ones _) (by exact putL_whole (Pnt.size _))) rfl rfl ?_
 rintro _ _ ⟨rfl, rfl⟩
 refine SL.val (Val.assign rfl) rfl rfl ?_
 refine SL.nil (SE.seq ?_)
 refine SC.seq (SC.region ?_)
 iterate 2 refine SL.val (Val.move rfl) rfl rfl ?_
 refine SL.both (t := 33) rfl ?_ ?_
 rotate_left
 ·intro hc33
  have e8 : (weakTo n me om vs above ((max (n : Int) 1 - 1) / 3 + 1) (z.1 + 1)) = (weakTo n me om vs above ((max (n : Int) 1 - 1) / 3 + 1) z.1) := weakTo_succ.trans (maxO_no hc33)
  iterate 9 refine SL.skip rfl rfl ?_
  refine SL.val (Val.pickF rfl rfl) rfl rfl ?_
  refine SL.nil (SE.seq ?_)
  refine SC.condF rfl ?_
  refine SC.skip ?_
  refine SE.inBlock ?_
  refine SE.seq ?_
  refine SC.region ?_
  first
   | refine SL.val (Val.addI rfl rfl (by simp only [InR, lo, hi]; omega)) rfl rfl ?_
   | refine SL.val (Val.addW rfl rfl) rfl rfl ?_
  refine SL.val (Val.move rfl) rfl rfl ?_
  refine SL.nil ?_
  refine SE.round (z.1 + 1, ()) (by first | omega | (dsimp only; omega)) ((by dsimp only; omega)) (by refine ⟨rfl, rfl, rfl, ?_, rfl, rfl, trivial⟩; dsimp only; rw [e8]; rfl) (by dsimp only; rw [e8]; repeat (first | exact List.nil_sublist _ | exact List.Sublist.refl _ | apply List.Sublist.cons_cons | apply List.Sublist.cons))
 intro hc33
 refine SL.val (Val.move rfl) rfl rfl ?_
 refine SL.val (Val.notB rfl) rfl rfl ?_
 refine SL.val (Val.move rfl) rfl rfl ?_
 refine SL.both (t := 36) rfl ?_ ?_
 ·intro hc36
  have e8 : (weakTo n me om vs above ((max (n : Int) 1 - 1) / 3 + 1) (z.1 + 1)) = some (ptO (bestF om vs (votesI n me om vs (z.1 : Nat)) above ((max (n : Int) 1 - 1) / 3 + 1))) := weakTo_succ.trans (maxO_yes hc33 (.inl (by simpa using hc36)))
  iterate 5 refine SL.skip rfl rfl ?_
  refine SL.val (Val.pickT rfl rfl) rfl rfl ?_
  refine SL.val (Val.pickT rfl rfl) rfl rfl ?_
  refine SL.nil (SE.seq ?_)
  refine SC.condT rfl ?_
  refine SC.region ?_
  refine SL.val (Val.to (C := .agg (ptO (bestF om vs (votesI n me om vs (z.1 : Nat)) above ((max (n : Int) 1 - 1) / 3 + 1))).abs) (Val.loadA tabOk rfl rfl rfl (by repeat first|assumption|exact o0_|exact o1_|apply o2_) List.not_mem_nil (Pnt.size _)) rfl) rfl rfl ?_
  refine SL.eff (Eff.store (L' := (ptO (bestF om vs (votesI n me om vs (z.1 : Nat)) above ((max (n : Int) 1 - 1) / 3 + 1))).abs) tabOk rfl rfl rfl (by repeat first|assumption|exact Upd.here|apply Upd.there) (Pnt.size _) (pnt_le _) (Pnt.ones _) (by exact putL_whole ((Pnt.size _).trans (Pnt.size _).symm))) rfl rfl ?_
  rintro _ _ ⟨rfl, rfl⟩
  refine SL.val (Val.assign rfl) rfl rfl ?_
  refine SL.nil ?_
  refine SE.inBlock ?_
  refine SE.seq ?_
  refine SC.region ?_
  first
   | refine SL.val (Val.addI rfl rfl (by simp only [InR, lo, hi]; omega)) rfl rfl ?_
   | refine SL.val (Val.addW rfl rfl) rfl rfl ?_
  refine SL.val (Val.move rfl) rfl rfl ?_
  refine SL.nil ?_
  refine SE.round (z.1 + 1, ()) (by first | omega | (dsimp only; omega)) ((by dsimp only; omega)) (by refine ⟨rfl, rfl, rfl, ?_, rfl, rfl, trivial⟩; dsimp only; rw [e8]; rfl) (by dsimp only; rw [e8]; repeat (first | exact List.nil_sublist _ | exact List.Sublist.refl _ | apply List.Sublist.cons_cons | apply List.Sublist.cons))
 intro hc36
 refine SL.val (Val.fieldAddr tabOk rfl rfl rfl rfl rfl) rfl rfl ?_
 refine SL.val (Val.to (C := int (ptO (bestF om vs (votesI n me om vs (z.1 : Nat)) above ((max (n : Int) 1 - 1) / 3 + 1))).seq) (Val.load1 tabOk rfl rfl (by repeat first|assumption|exact o0_|exact o1_|apply o2_) List.not_mem_nil (by rfl)) rfl) rfl rfl ?_
 refine SL.val (Val.fieldAddr tabOk rfl rfl rfl rfl rfl) rfl rfl ?_
 refine SL.val (Val.to (C := int (ptO (weakTo n me om vs above ((max (n : Int) 1 - 1) / 3 + 1) z.1)).seq) (Val.load1 tabOk rfl rfl (by repeat first|assumption|exact o0_|exact o1_|apply o2_) List.not_mem_nil (by rfl)) rfl) rfl rfl ?_
 refine SL.val (Val.gtI rfl rfl) rfl rfl ?_
 refine SL.val (Val.pickF rfl rfl) rfl rfl ?_
 refine SL.val (Val.pickT rfl rfl) rfl rfl ?_
 refine SL.nil (SE.seq ?_)
 refine SC.condP rfl ?_ ?_
 rotate_left
 ·intro hc43
  have e8 : (weakTo n me om vs above ((max (n : Int) 1 - 1) / 3 + 1) (z.1 + 1)) = (weakTo n me om vs above ((max (n : Int) 1 - 1) / 3 + 1) z.1) := weakTo_succ.trans (maxO_less (by simpa using hc36) hc43)
  refine SC.skip ?_
  refine SE.inBlock ?_
  refine SE.seq ?_
  refine SC.region ?_
  first
   | refine SL.val (Val.addI rfl rfl (by simp only [InR, lo, hi]; omega)) rfl rfl ?_
   | refine SL.val (Val.addW rfl rfl) rfl rfl ?_
  refine SL.val (Val.move rfl) rfl rfl ?_
  refine SL.nil ?_
  refine SE.round (z.1 + 1, ()) (by first | omega | (dsimp only; omega)) ((by dsimp only; omega)) (by refine ⟨rfl, rfl, rfl, ?_, rfl, rfl, trivial⟩; dsimp only; rw [e8]; rfl) (by dsimp only; rw [e8]; repeat (first | exact List.nil_sublist _ | exact List.Sublist.refl _ | apply List.Sublist.cons_cons | apply List.Sublist.cons))
 intro hc43
 have e8 : (weakTo n me om vs above ((max (n : Int) 1 - 1) / 3 + 1) (z.1 + 1)) = some (ptO (bestF om vs (votesI n me om vs (z.1 : Nat)) above ((max (n : Int) 1 - 1) / 3 + 1))) := weakTo_succ.trans (maxO_yes hc33 (.inr hc43))
 refine SC.region ?_
 refine SL.val (Val.to (C := .agg (ptO (bestF om vs (votesI n me om vs (z.1 : Nat)) above ((max (n : Int) 1 - 1) / 3 + 1))).abs) (Val.loadA tabOk rfl rfl rfl (by repeat first|assumption|exact o0_|exact o1_|apply o2_) List.not_mem_nil (Pnt.size _)) rfl) rfl rfl ?_
 refine SL.eff (Eff.store (L' := (ptO (bestF om vs (votesI n me om vs (z.1 : Nat)) above ((max (n : Int) 1 - 1) / 3 + 1))).abs) tabOk rfl rfl rfl (by repeat first|assumption|exact Upd.here|apply Upd.there) (Pnt.size _) (pnt_le _) (Pnt.ones _) (by exact putL_whole ((Pnt.size _).trans (Pnt.size _).symm))) rfl rfl ?_
 rintro _ _ ⟨rfl, rfl⟩
 refine SL.val (Val.assign rfl) rfl rfl ?_
 refine SL.nil ?_
 refine SE.inBlock ?_
 refine SE.seq ?_
 refine SC.region ?_
 first
  | refine SL.val (Val.addI rfl rfl (by simp only [InR, lo, hi]; omega)) rfl rfl ?_
  | refine SL.val (Val.addW rfl rfl) rfl rfl ?_
 refine SL.val (Val.move rfl) rfl rfl ?_
 refine SL.nil ?_
 refine SE.round (z.1 + 1, ()) (by first | omega | (dsimp only; omega)) ((by dsimp only; omega)) (by refine ⟨rfl, rfl, rfl, ?_, rfl, rfl, trivial⟩; dsimp only; rw [e8]; rfl) (by dsimp only; rw [e8]; repeat (first | exact List.nil_sublist _ | exact List.Sublist.refl _ | apply List.Sublist.cons_cons | apply List.Sublist.cons))
end
end Go.Proofs.Ytjbikemecdlolaa.A
/-
  What maps.DeleteFunc leaves, plain.
-/
namespace Go.Proofs.Ytjbikemecdlolaa.A
open Go.RowKit

section
variable {β : Type} {tm z : List (Int × (Value × β))} {rest : List (Int × Value)} {keep : Int × β → Bool} {p : Int × Value} {x : β}
end
end Go.Proofs.Ytjbikemecdlolaa.A
/-
  Points: moved, told, bytes.
-/
namespace Go.Proofs.Ytjbikemecdlolaa.A
open Go.RowKit

theorem told_cut {l : List Pnt} (h : ((l.length : Int) - 3 > 1)) : (toldF l).map Pnt.abs = (l.map Pnt.abs).take 1 ++ (l.map Pnt.abs).drop (l.length - 3) := by
  unfold toldF
  rw [if_pos (by omega), List.map_append, List.map_take, List.map_drop]
theorem told_all {l : List Pnt} (h : ¬ ((l.length : Int) - 3 > 1)) : toldF l = l := by
  unfold toldF
  rw [if_neg (by omega)]
/-- An own point's bytes, if it is one. -/
theorem own_blen {om : List (Int × Ow)} {k : Int} (hb : ∀ e ∈ om, e.2.b.length ≤ 1000000) : ((aget om k).getD Ow.zero).b.length ≤ 1000000 := by
  cases h : aget om k with
  | none => simp [Ow.zero]
  | some o => exact hb _ (aget_in h)
def bytesF (om : List (Int × Ow)) (x : Pnt) : Option (List UInt8) := if ownHas om x then some ((aget om x.seq).getD Ow.zero).b else none
theorem own_last (o : Ow) : o.cells[32]? = some (byt o.b) := by
  have h := digA_len o.len
  unfold Ow.cells
  rw [List.getElem?_append_right (by omega), h]
  rfl
section
variable {n me : Nat} {om : List (Int × Ow)} {vs : List (List Pnt)} {bp bm : Nat} {vv : Value} {x : Pnt} {who k low above : Int} {o : Ow} {l : List Pnt}
theorem ptold_s (hok : PtsOk n me om vs) : Spec Try.prog 13 [ptr bp] [.rd bp 57 [int (n : Nat), int (me : Nat), mapV bm, .v vv], .rdpc (ownPc 40 1 vv (vs.map fun l => [pntsA l])), .rdpc (tmPc bm intK intOk Ow.enc om)] (fun r : Value => [own 27 33 r (((toldF (ownP om))).map Pnt.abs)]) (fun r => .v r) := by
 refine spec_of Try.func13 rfl Try.ntmps13 rfl fun G w => ?_
 refine SC.seq (SC.region ?_)
 refine SL.val (Val.assign rfl) rfl rfl ?_
 refine SL.nil (SE.seq ?_)
 refine SC.seq ?_
 refine SC.seq (SC.region ?_)
 refine SL.val (Val.move rfl) rfl rfl ?_
 refine SL.val (Val.eqP rfl rfl (by kernel_rfl)) rfl rfl ?_
 refine SL.nil (SE.seq ?_)
 refine SC.condF rfl ?_
 refine SC.skip ?_
 refine SE.seq ?_
 refine SC.seq (SC.region ?_)
 iterate 2 refine SL.val (Val.move rfl) rfl rfl ?_
 refine SL.val (Val.nilCheck rfl) rfl rfl ?_
 refine SL.val (Val.fieldAddr tabOk rfl rfl rfl rfl rfl) rfl rfl ?_
 refine SL.val (Val.load1 tabOk rfl rfl (by repeat first|assumption|exact o0_|exact o1_|apply o2_) List.not_mem_nil (by rfl)) rfl rfl ?_
 refine SL.call (pvotes_s (bm := bm) (vv := vv) (who := (me : Int)) hok) Casts.refl (by kernel_rfl) rfl rfl rfl ?_
 refine After.make (by repeat (first | exact Reads.nil | (refine Reads.blk ?_ ?_; focus ((repeat first|assumption|exact m0_|apply m1_); done)) | (refine Reads.rd ?_ ?_; focus ((repeat first|assumption|exact m0_|apply m1_); done)) | (refine Reads.pc ?_ ?_; focus ((repeat first|assumption|exact m0_|apply m1_); done)) | (refine Reads.rdpc ?_ ?_; focus ((repeat first|assumption|exact m0_|apply m1_); done)))) (fun _ => rfl) ?_
 intro r12
 rw [votesI_me hok.slf]
 refine SL.val (Val.assign rfl) rfl rfl ?_
 refine SL.nil (SE.seq ?_)
 refine SC.seq ?_
 refine SC.seq (SC.region ?_)
 refine SL.val (Val.move rfl) rfl rfl ?_
 refine SL.val (Val.lenOwn (m := (ownP om).length) rfl (by repeat first|assumption|exact m0_|apply m1_) Try.underlying40 (List.length_map _)) rfl rfl ?_
 refine SL.val (Val.subI rfl rfl (by have h1 := ownP_length om; have h2 := hok.om; simp only [InR, lo, hi]; omega)) rfl rfl ?_
 refine SL.val (Val.assign rfl) rfl rfl ?_
 refine SL.nil (SE.seq ?_)
 refine SC.seq (SC.region ?_)
 refine SL.val (Val.move rfl) rfl rfl ?_
 refine SL.val (Val.gtI rfl rfl) rfl rfl ?_
 refine SL.nil (SE.seq ?_)
 refine SC.condP rfl ?_ ?_
 rotate_left
 ·intro hc17
  refine SC.skip ?_
  refine SE.seq ?_
  refine SC.seq (SC.region ?_)
  refine SL.val (Val.move rfl) rfl rfl ?_
  refine SL.val (Val.assign rfl) rfl rfl ?_
  refine SL.nil (SE.seq ?_)
  refine SC.ret ?_
  refine SE.fin (rs := [.tmp 2]) rfl (RV.tmp rfl RV.nil) (r12) (by rw [told_all hc17]; repeat (first | exact List.nil_sublist _ | exact List.Sublist.refl _ | apply List.Sublist.cons_cons | apply List.Sublist.cons)) (by simp [It.rids]) ?_
  exact rfl
 intro hc17
 refine SC.region ?_
 iterate 2 refine SL.val (Val.move rfl) rfl rfl ?_
 refine SL.call (del_pnt (v := r12) (xs := (ownP om).map Pnt.abs) (i := 1) (j := (ownP om).length - 3) (by omega) (by rw [List.length_map]; omega) (pnts_ones _) (by rw [List.length_map]; have h1 := ownP_length om; have h2 := hok.om; omega)) (Casts.keep (Casts.keep (Casts.of_eq (by rw [show (((ownP om).length : Int) - 3) = (((ownP om).length - 3 : Nat) : Int) by omega])))) (by kernel_rfl) rfl rfl rfl ?_
 refine After.one rfl (by repeat first|assumption|exact m0_|apply m1_) (fun _ => rfl) ?_
 intro _
 refine ⟨_, (by repeat first|assumption|exact Upd.here|apply Upd.there), ?_⟩
 refine SL.val (Val.assign rfl) rfl rfl ?_
 refine SL.nil (SE.seq ?_)
 refine SC.seq (SC.region ?_)
 refine SL.val (Val.move rfl) rfl rfl ?_
 refine SL.val (Val.assign rfl) rfl rfl ?_
 refine SL.nil (SE.seq ?_)
 refine SC.ret ?_
 refine SE.fin (rs := [.tmp 2]) rfl (RV.tmp rfl RV.nil) (cutTo r12 (((ownP om).map Pnt.abs).take 1 ++ ((ownP om).map Pnt.abs).drop ((ownP om).length - 3)).length) (by rw [told_cut hc17]; repeat (first | exact List.nil_sublist _ | exact List.Sublist.refl _ | apply List.Sublist.cons_cons | apply List.Sublist.cons)) (by simp [It.rids]) ?_
 exact rfl
theorem pbytes_s (hok : PtsOk n me om vs) (hx : InR .i64 x.seq) (hb : ∀ e ∈ om, e.2.b.length ≤ 1000000) : Spec Try.prog 15 [ptr bp, .agg x.abs] [.rd bp 57 [int (n : Nat), int (me : Nat), mapV bm, .v vv], .rdpc (ownPc 40 1 vv (vs.map fun l => [pntsA l])), .rdpc (tmPc bm intK intOk Ow.enc om)] (fun _ : Unit => []) (fun _ => .tup [byt ((bytesF om x).getD []), boo (bytesF om x).isSome]) := by
 refine spec_of Try.func15 rfl Try.ntmps15 rfl fun G w => ?_
 refine SC.seq (SC.region ?_)
 refine SL.eff (Eff.boxA (cs := x.abs) rfl) rfl rfl ?_
 rintro _ _ ⟨b3, rfl, rfl⟩
 iterate 2 refine SL.val (Val.assign rfl) rfl rfl ?_
 refine SL.nil (SE.seq ?_)
 refine SC.seq ?_
 refine SC.seq (SC.region ?_)
 refine SL.val (Val.move rfl) rfl rfl ?_
 refine SL.val (Val.eqP rfl rfl (by kernel_rfl)) rfl rfl ?_
 refine SL.nil (SE.seq ?_)
 refine SC.condF rfl ?_
 refine SC.skip ?_
 refine SE.seq ?_
 refine SC.seq ?_
 refine SC.draw [] (.q 0 (.q 1 (.q 2 (.q 3 (.q 4 (.q 5 (.q 6 (.q 7 (.q 8 (.q 9 (.e 10 (.e 11 (.q 12 .nil))))))))))))) (by kernel_rfl) (by kernel_rfl) ?_
 refine SX.val rfl (Val.move rfl) (by simp) rfl rfl ?_
 refine SX.val rfl (Val.nilCheck rfl) (by simp) rfl rfl ?_
 refine SX.val rfl (Val.fieldAddr tabOk rfl rfl rfl rfl rfl) (by simp) rfl rfl ?_
 refine SX.val rfl (Val.load1 tabOk rfl rfl (by repeat first|assumption|exact o0_|exact o1_|apply o2_) List.not_mem_nil (by rfl)) (by simp) rfl rfl ?_
 refine SX.val rfl (Val.fieldAddr tabOk rfl rfl rfl rfl rfl) (by simp) rfl rfl ?_
 refine SX.hx (by first|(simp[mids,It.mids,ownPc];done)|(intro k hk;simp[mids,It.mids,ownPc] at hk ⊢;grind)) fun hx9 => ?_
 refine SX.val rfl (Val.to (C := int x.seq) (Val.load1 tabOk rfl rfl (by repeat first|assumption|exact o0_|exact o1_|apply o2_) List.not_mem_nil (by rfl)) rfl) hx9 rfl rfl ?_
 refine SX.val rfl (Val.tmGetOk (a := x.seq) (m := om) (enc := Ow.enc) (z0 := Ow.zero) (zv := zow) (int_fit Try.underlying2) Try.underlying55 zero_ow zow_rep rfl (by repeat first|assumption|exact o0_|exact o1_|apply o2_) List.not_mem_nil rfl is_v hx) hx9 rfl rfl ?_
 refine SX.val rfl (Val.move rfl) (by simp) rfl rfl ?_
 refine SX.val rfl (Val.extract rfl rfl) (by simp) rfl rfl ?_
 refine SX.val rfl (Val.extract rfl rfl) (by simp) rfl rfl ?_
 refine SX.alloc tabOk rfl rfl rfl rfl fun b6 => ?_
 refine SX.eff rfl (Eff.store (L' := ((aget om x.seq).getD Ow.zero).cells) tabOk rfl rfl rfl (by repeat first|assumption|exact Upd.here|apply Upd.there) (own_clen _) (lb_ (by rfl)) (own_ones _) (by exact putL_whole (own_clen _))) (by simp) rfl rfl ?_
 rintro _ _ ⟨rfl, rfl⟩
 refine SX.hx (by first|(simp[mids,It.mids,ownPc];done)|(intro k hk;simp[mids,It.mids,ownPc] at hk ⊢;grind)) fun hx9 => ?_
 refine SX.val rfl (Val.assign rfl) hx9 rfl rfl ?_
 refine SX.nil (SE.seq ?_)
 refine SC.seq ?_
 refine SC.seq (SC.region ?_)
 refine SL.val (Val.move rfl) rfl rfl ?_
 refine SL.val (Val.notB rfl) rfl rfl ?_
 refine SL.val (Val.move rfl) rfl rfl ?_
 refine SL.both (t := 22) rfl ?_ ?_
 ·intro hc22
  have e9 : (bytesF om x) = none := by unfold bytesF ownHas; simp_all
  iterate 5 refine SL.skip rfl rfl ?_
  refine SL.val (Val.pickT rfl rfl) rfl rfl ?_
  refine SL.nil (SE.seq ?_)
  refine SC.condT rfl ?_
  refine SC.seq (SC.region ?_)
  iterate 2 refine SL.val (Val.assign rfl) rfl rfl ?_
  refine SL.nil (SE.seq ?_)
  refine SC.ret ?_
  refine SE.then_ nofun ?_
  refine SE.finC (rs := [.tmp 4, .tmp 5]) rfl (RV.tmp rfl (RV.tmp rfl RV.nil)) (Casts.nils (s := 1) Casts.refl) (()) (by repeat first|exact s0_ _|exact s1_ _|apply s2_|apply s3_) (by simp [It.rids]) ?_
  rw [e9]
  rfl
 intro hc22
 refine SL.val (Val.fieldAddr tabOk rfl rfl rfl rfl rfl) rfl rfl ?_
 refine SL.val (Val.to (C := .agg (digA ((aget om x.seq).getD Ow.zero).dig)) (Val.loadP tabOk rfl rfl rfl (by repeat first|assumption|exact o0_|exact o1_|apply o2_) List.not_mem_nil (by show 0 + 32 ≤ ((aget om x.seq).getD Ow.zero).cells.length; rw [own_clen]; omega)) (by exact own_part _)) rfl rfl ?_
 refine SL.val (Val.fieldAddr tabOk rfl rfl rfl rfl rfl) rfl rfl ?_
 refine SL.val (Val.to (C := .agg (digA x.dig)) (Val.loadP tabOk rfl rfl rfl (by repeat first|assumption|exact o0_|exact o1_|apply o2_) List.not_mem_nil (by show 1 + 32 ≤ x.abs.length; rw [Pnt.size]; omega)) (by exact pnt_part _)) rfl rfl ?_
 refine SL.val (Val.neA rfl rfl (plains_dig _) (plains_dig _) (by kernel_rfl) (neqD _ _ ((aget om x.seq).getD Ow.zero).len x.len (decide (((aget om x.seq).getD Ow.zero).dig ≠ x.dig)) rfl)) rfl rfl ?_
 refine SL.val (Val.pickF rfl rfl) rfl rfl ?_
 refine SL.nil (SE.seq ?_)
 refine SC.condP rfl ?_ ?_
 ·intro hc28
  have e9 : (bytesF om x) = none := by unfold bytesF ownHas; simp_all
  refine SC.seq (SC.region ?_)
  iterate 2 refine SL.val (Val.assign rfl) rfl rfl ?_
  refine SL.nil (SE.seq ?_)
  refine SC.ret ?_
  refine SE.then_ nofun ?_
  refine SE.finC (rs := [.tmp 4, .tmp 5]) rfl (RV.tmp rfl (RV.tmp rfl RV.nil)) (Casts.nils (s := 1) Casts.refl) (()) (by repeat first|exact s0_ _|exact s1_ _|apply s2_|apply s3_) (by simp [It.rids]) ?_
  rw [e9]
  rfl
 intro hc28
 have e9 : (bytesF om x) = some ((aget om x.seq).getD Ow.zero).b := by unfold bytesF ownHas; simp_all
 refine SC.skip ?_
 refine SE.seq ?_
 refine SC.seq (SC.region ?_)
 refine SL.val (Val.fieldAddr tabOk rfl rfl rfl rfl rfl) rfl rfl ?_
 refine SL.val (Val.load1 tabOk rfl rfl (by repeat first|assumption|exact o0_|exact o1_|apply o2_) List.not_mem_nil (own_last _)) rfl rfl ?_
 refine SL.call (bclone_s (l := ((aget om x.seq).getD Ow.zero).b) (own_blen hb)) Casts.refl (by kernel_rfl) rfl rfl rfl ?_
 refine ap_ ?_
 intro _
 iterate 2 refine SL.val (Val.assign rfl) rfl rfl ?_
 refine SL.nil (SE.seq ?_)
 refine SC.ret ?_
 refine SE.fin (rs := [.tmp 4, .tmp 5]) rfl (RV.tmp rfl (RV.tmp rfl RV.nil)) (()) (by repeat first|exact s0_ _|exact s1_ _|apply s2_|apply s3_) (by simp [It.rids]) ?_
 rw [e9]
 rfl
end
end Go.Proofs.Ytjbikemecdlolaa.A
/-
  Points, plain: what stays true; what the law's fixed calls come to.
-/
namespace Go.Proofs.Ytjbikemecdlolaa.A
open Go.RowKit

section
variable {n me : Nat} {om : List (Int × Ow)} {vs : List (List Pnt)} {x : Pnt} {who : Int}
theorem PtsOk.voteP (h : PtsOk n me om vs) (hx : InR .i64 x.seq) : PtsOk n me om (voteP n me vs who x).2 := by
  by_cases h1 : who = me ∨ who < 0 ∨ (n : Int) ≤ who
  · rw [voteP_out h1]; exact h
  · have hlt : who.toNat < vs.length := by rw [h.len]; omega
    have hl := List.getElem?_eq_getElem hlt
    cases h2 : voteOk vs[who.toNat] x with
    | false => rw [voteP_no h1 hl h2]; exact h
    | true =>
      rw [voteP_yes h1 hl h2]
      refine h.vote (by omega) hx hl ?_
      unfold voteOk at h2
      rw [Bool.and_eq_true, Bool.not_eq_true'] at h2
      exact h2.1
theorem PtsOk.new (h1 : 1 ≤ n) (h7 : n ≤ 7) (hm : me < n) : PtsOk n me [] (List.replicate n []) where
  n1 := h1
  n7 := h7
  slf := hm
  len := by simp
  rise := fun l hl => by rw [List.eq_of_mem_replicate hl]; exact List.Pairwise.nil
  few := fun l hl => by rw [List.eq_of_mem_replicate hl]; simp
  ins := fun l hl x hx => by rw [List.eq_of_mem_replicate hl] at hx; cases hx
  keys := fun e he => by cases he
  nd := by simp
  om := by simp
end
theorem ownP_nil : ownP [] = [] := by simp [ownP, srt]
theorem ownP_one (k : Int) (o : Ow) : ownP [(k, o)] = [⟨k, o.dig, o.len⟩] := by simp [ownP, srt, aget]
def fxD : List UInt8 := 1 :: List.replicate 31 0
theorem fxD_len : fxD.length = 32 := by simp [fxD]
def fxX : Pnt := ⟨4, fxD, fxD_len⟩
def fxO : Ow := ⟨fxD, [98], fxD_len⟩
def fxV1 : List (List Pnt) := [[], [fxX], [], []]
def fxV2 : List (List Pnt) := [[], [fxX], [fxX], []]
theorem fx_v1 : voteP 4 0 (List.replicate 4 []) 1 fxX = (true, fxV1) := by rfl
theorem fx_v2 : voteP 4 0 fxV1 2 fxX = (true, fxV2) := by rfl
theorem fx_in : InR .i64 fxX.seq := by simp [InR, lo, hi, fxX]
theorem fx_ok0 : PtsOk 4 0 [] (List.replicate 4 []) := PtsOk.new (by decide) (by decide) (by decide)
theorem fx_ok1 : PtsOk 4 0 [] fxV1 := by have h := fx_ok0.voteP (x := fxX) (who := 1) fx_in; rw [fx_v1] at h; exact h
theorem fx_ok2 : PtsOk 4 0 [] fxV2 := by have h := fx_ok1.voteP (x := fxX) (who := 2) fx_in; rw [fx_v2] at h; exact h
theorem fx_put : aput ([] : List (Int × Ow)) 4 fxO = [(4, fxO)] := by rfl
theorem fx_ok3 : PtsOk 4 0 [(4, fxO)] fxV2 := by have h := fx_ok2.own (k := 4) (by simp [InR, lo, hi]) fxO (by decide); rw [fx_put] at h; exact h
theorem fx_w1 : weakTo 4 0 [] fxV1 0 ((max ((4 : Nat) : Int) 1 - 1) / 3 + 1) 4 = none := by
  unfold weakTo votesI votesF
  simp only [ownP_nil]
  rfl
theorem fx_w2 : weakTo 4 0 [] fxV2 0 ((max ((4 : Nat) : Int) 1 - 1) / 3 + 1) 4 = some fxX := by
  unfold weakTo votesI votesF
  simp only [ownP_nil]
  rfl
theorem fx_s2 : bestF [] fxV2 (votesI 4 0 [] fxV2 ((0 : Nat) : Int)) 0 (2 * ((max ((4 : Nat) : Int) 1 - 1) / 3) + 1) = none := by
  rw [votesI_me (by decide), ownP_nil]
  rfl
theorem fx_s3 : bestF [(4, fxO)] fxV2 (votesI 4 0 [(4, fxO)] fxV2 ((0 : Nat) : Int)) 0 (2 * ((max ((4 : Nat) : Int) 1 - 1) / 3) + 1) = some fxX := by
  rw [votesI_me (by decide), ownP_one]
  rfl
theorem fx_by : bytesF [(4, fxO)] fxX = some [98] := by rfl
theorem fx_sup : supF [(4, fxO)] fxV2 fxX = 3 := by rfl
theorem fx_told : toldF (ownP [(4, fxO)]) = [fxX] := by rw [ownP_one]; rfl
end Go.Proofs.Ytjbikemecdlolaa.A
/-
  From a walk that returns true and changes no old memory to the given statement, for any law without package variables.
-/
namespace Go.Proofs.Ytjbikemecdlolaa
open Go.ChangeShapes Go.WideShapes Go.ChangeAt Go.RowKit

theorem law_own : ownKnob Try.prog.godebug = none := by kernel_rfl
theorem law_laidOut : laidOutB Try.prog = true := by kernel_rfl

theorem trodAll_below {H : Type} {enc : TypeId × Value → H} {W W' : World} (hb : Below W.heap.size W W') :
    ∀ (ts : List TypeId) (vs : List Value) (ds : List (DataW H)) (p : List MemPlace), (∀ t ∈ ts, Try.prog.readableRec t = true ∧ t < Try.prog.types.size) →
      DataW.TrodAll enc Try.prog W 0 (fun _ => true) true ts vs ds p → ∃ q, DataW.TrodAll enc Try.prog W' 0 (fun b => decide (b < W.heap.size)) true ts vs ds q
  | [], [], [], p, _, h => ⟨p, h⟩
  | t :: ts, v :: vs, d :: ds, p, hr, h => by
    obtain ⟨p0, q0, h0, h1, rfl⟩ := h
    obtain ⟨q, hq⟩ := trodAll_below hb ts vs ds q0 (fun t ht => hr t (List.mem_cons_of_mem _ ht)) h1
    have lt0 : ∀ x ∈ p0, x.block < W.heap.size := by obtain ⟨m, hm⟩ := h0; exact DataW.trod_lt m _ _ _ hm
    exact ⟨p0 ++ q, p0, q, Below.trod law_laidOut (hr t List.mem_cons_self).1 (hr t List.mem_cons_self).2 h0 hb lt0, hq, rfl⟩
  | [], _ :: _, _, _, _, h => h.elim
  | [], [], _ :: _, _, _, h => h.elim
  | _ :: _, [], _, _, _, h => h.elim
  | _ :: _, _ :: _, [], _, _, h => h.elim

set_option maxRecDepth 100000 in
theorem law_lift {H : Type} {enc : TypeId × Value → H} {os : Os} (started : os.Started) {f : FuncId} {fn : Func} {s : ChangeSpec}
    (noInit : Try.prog.inits.idxOf? f = none) (hfn : Try.prog.funcs[f]? = some fn) (hvars : s.vars = []) (hres : fn.resultTypes = #[4])
    (hparB : (fn.params.toList.all fun t => Try.prog.readableRec t && decide (t < Try.prog.types.size)) = true)
    (hspec : ∀ ds : List (DataW H), ds.length = fn.params.size → s.fn H (ds ++ []) = { results := [.lit (.bool true)], args := ds })
    (wit : ∃ (w : World) (tape : Tape) (i : Input), w.os = os ∧ (w.forCall tape i).Shaped Try.prog ∧ i.vars = [] ∧ Input.okWide Try.prog (w.forCall tape i) .any w.heap.size f i ∧
      s.pre6 enc Try.prog fn [] false (w.forCall tape i).memory i.args ∧ Assume.holds {} Try.prog (lone (Frame.enter Try.prog f i.args .normal) [] (w.forCall tape i)))
    (walk : ∀ (W : World) (base : Nat) (args : Array Value) (ds : List (DataW H)) (p : List MemPlace),
      (∀ (j : Nat) t v, fn.params[j]? = some t → args[j]? = some v → Value.okWide Try.prog W .any base t v) →
      DataW.TrodAll enc Try.prog W 0 (fun _ => true) true fn.params.toList args.toList ds p →
      (DataW.weightsEach Try.prog fn.params.toList ds).all (· ≤ reachBytes) = true →
      Calls Try.prog f args W fun e W' => e = .returned (.bool true) ∧ Ext [] W W') :
    ReturnsInHanded {} Try.checked os f .any (s.pre6 enc Try.prog fn [] false) (s.post enc Try.prog fn false true false false) := by
  have hpar : ∀ t ∈ fn.params.toList, Try.prog.readableRec t = true ∧ t < Try.prog.types.size := by
    simpa only [List.all_eq_true, Bool.and_eq_true, decide_eq_true_eq] using hparB
  refine returnsInHanded_of_change_sized (C := Try.checked) law_own started noInit hfn wit ?_
  intro W base args ds gs before hval0 hW hcnd hsz _
  have hval : ∀ (j : Nat) t v, fn.params[j]? = some t → args[j]? = some v → Value.okWide Try.prog W .any base t v := hval0
  have hW' := hW
  obtain ⟨p, q, hA0, hV, rfl, hfz, hnd⟩ := hW
  have hA : DataW.TrodAll enc Try.prog W 0 (fun _ => true) true fn.params.toList args.toList ds p := hA0
  rw [hvars] at hV
  obtain ⟨rfl, rfl⟩ := trodVars_none hV
  have hsz' : (DataW.weightsEach Try.prog fn.params.toList ds).all (· ≤ reachBytes) = true := by
    have h2 := hsz
    simp only [ChangeSpec.plain, DataSpec.varTypes, hvars, List.filterMap_nil, List.append_nil] at h2
    exact h2
  refine (walk W base args ds p hval hA hsz').mono fun e W' ⟨he, bel⟩ => ?_
  subst he
  have hlen : ds.length = fn.params.size := by
    have : ∀ (ts : List TypeId) (vs : List Value) (ds : List (DataW H)) (p : List MemPlace), DataW.TrodAll enc Try.prog W 0 (fun _ => true) true ts vs ds p → ds.length = ts.length := by
      intro ts
      induction ts with
      | nil => intro vs ds p h; cases vs <;> cases ds <;> first | rfl | exact h.elim
      | cons t ts ih =>
        intro vs ds p h
        cases vs with
        | nil => exact h.elim
        | cons v vs =>
          cases ds with
          | nil => exact h.elim
          | cons d ds => obtain ⟨p0, q0, _, h1, _⟩ := h; simp [ih vs ds q0 h1]
    simpa using this _ _ _ _ hA
  obtain ⟨pa, hpa⟩ := trodAll_below (enc := enc) bel.below fn.params.toList args.toList ds p hpar hA
  refine ⟨_, rfl, ds, [], p ++ [], [], pa, [], hW', ?_, ?_, ?_, bel.below.frame _, fun h => by cases h⟩
  · rw [hspec ds hlen, hres]
    exact trodAll_mk1 (shut_bool Try.underlying4 _)
  · rw [hspec ds hlen]; exact hpa
  · rw [hspec ds hlen, hvars]; rfl

theorem spot_none {w : World} {b o : Nat} {s : Option Nat} {v : Value} (h : w.cell? ⟨b, o, s⟩ = some v) : s = none := by
  have := World.cell?_spot h
  simpa using this

end Go.Proofs.Ytjbikemecdlolaa
/-
  Arguments opened down to their cells: a struct, however deep, is its cells, each read by its own type.
-/
namespace Go.Proofs.Ytjbikemecdlolaa
open Go.RowKit Go.ChangeShapes Go.WideShapes Go.ChangeAt

/-- The types of a type's cells, in order. -/
def leaves (P : Program) : Nat → TypeId → Option (List TypeId)
  | 0, _ => none
  | d + 1, t =>
    match P.underlying t with
    | some (.struct fs) => fs.toList.foldlM (fun acc f => (leaves P d f.type).bind fun l => if f.offset = acc.length ∧ l.length = P.cellsOf f.type then some (acc ++ l) else none) []
    | some (.array n e) => (leaves P d e).bind fun l => if l.length = P.cellsOf e then some (List.replicate n l).flatten else none
    | some _ => some [t]
    | none => none

section
variable {H : Type} {enc : TypeId × Value → H} {P : Program} {w : World} {base : Nat} {spare : Nat → Bool} {held : Bool}

/-- Cell j reads by its own type. -/
def LeafAt (enc : TypeId × Value → H) (P : Program) (w : World) (base : Nat) (spare : Nat → Bool) (held : Bool) (u : TypeId) (v : Value) : Prop := ∃ n y, DataW.trod enc P w base spare held n u [v] = some y

theorem leaves_fields {d : Nat} {cs : List Value} {n : Nat}
    (ih : ∀ (t : TypeId) (ts : List TypeId) (fuel : Nat) (cs : List Value) (x : DataW H × List MemPlace), leaves P d t = some ts → ts.length = cs.length → DataW.trod enc P w base spare held fuel t cs = some x →
      ∀ (j : Nat) (v : Value) (u : TypeId), cs[j]? = some v → ts[j]? = some u → LeafAt enc P w base spare held u v) :
    ∀ (fs : List Field) (acc ts : List TypeId), (∀ f ∈ fs, ∃ y, DataW.trod enc P w base spare held n f.type ((cs.drop f.offset).take (P.cellsOf f.type)) = some y) →
      fs.foldlM (fun acc f => (leaves P d f.type).bind fun l => if f.offset = acc.length ∧ l.length = P.cellsOf f.type then some (acc ++ l) else none) acc = some ts →
      ts.length ≤ cs.length →
      (∀ (j : Nat) (v : Value) (u : TypeId), cs[j]? = some v → acc[j]? = some u → LeafAt enc P w base spare held u v) →
      (∀ (j : Nat) (v : Value) (u : TypeId), cs[j]? = some v → ts[j]? = some u → LeafAt enc P w base spare held u v) := by
  intro fs
  induction fs with
  | nil =>
    intro acc ts _ h _ ha
    simp at h
    subst h
    exact ha
  | cons f fs hfs =>
    intro acc ts hall h hlen ha
    simp only [List.foldlM_cons, Option.bind_eq_bind, Option.bind_eq_some_iff] at h
    obtain ⟨acc', ⟨l, hl, hif⟩, hrest⟩ := h
    split at hif
    · rename_i hc
      obtain ⟨ho, hlc⟩ := hc
      simp only [Option.some.injEq] at hif
      subst hif
      have hmono : ∀ (fs : List Field) (a b : List TypeId), fs.foldlM (fun acc f => (leaves P d f.type).bind fun l => if f.offset = acc.length ∧ l.length = P.cellsOf f.type then some (acc ++ l) else none) a = some b → a.length ≤ b.length := by
        intro fs
        induction fs with
        | nil => intro a b h; simp at h; subst h; exact Nat.le_refl _
        | cons f fs ih2 =>
          intro a b h
          simp only [List.foldlM_cons, Option.bind_eq_bind, Option.bind_eq_some_iff] at h
          obtain ⟨a', ⟨l, _, hif⟩, hr⟩ := h
          split at hif
          · simp only [Option.some.injEq] at hif
            subst hif
            have := ih2 _ _ hr
            simp at this
            omega
          · cases hif
      have hacc := hmono _ _ _ hrest
      refine hfs (acc ++ l) ts (fun g hg => hall g (List.mem_cons_of_mem _ hg)) hrest hlen ?_
      intro j v u hv hu
      rw [List.getElem?_append] at hu
      split at hu
      · exact ha j v u hv hu
      · rename_i hj
        obtain ⟨y, hy⟩ := hall f List.mem_cons_self
        rw [List.length_append] at hacc
        refine ih f.type l n _ y hl ?_ hy (j - acc.length) v u ?_ hu
        · rw [List.length_take, List.length_drop]; omega
        · have hjl : j - acc.length < l.length := (List.getElem?_eq_some_iff.1 hu).1
          rw [List.getElem?_take, if_pos (by omega), List.getElem?_drop, ho, show acc.length + (j - acc.length) = j by omega]
          exact hv
    · cases hif

theorem leaves_trod : ∀ (d : Nat) (t : TypeId) (ts : List TypeId) (fuel : Nat) (cs : List Value) (x : DataW H × List MemPlace), leaves P d t = some ts → ts.length = cs.length → DataW.trod enc P w base spare held fuel t cs = some x →
    ∀ (j : Nat) (v : Value) (u : TypeId), cs[j]? = some v → ts[j]? = some u → LeafAt enc P w base spare held u v := by
  intro d
  induction d with
  | zero => intro t ts fuel cs x h; simp [leaves] at h
  | succ d ih =>
    intro t ts fuel cs x h hlen ht
    unfold leaves at h
    split at h
    · rename_i fs hu
      obtain ⟨xs, n, _, _, hcl, hxl, hf⟩ := DataW.trod_struct hu ht
      refine leaves_fields (n := n) ih fs.toList [] ts ?_ h (by omega) (by simp)
      intro f hfm
      obtain ⟨i, hi, he⟩ := List.getElem_of_mem hfm
      have h1 := hf i f (by rw [← Array.getElem?_toList, List.getElem?_eq_getElem hi, he])
      have : i < xs.length := by rw [hxl]; simpa using hi
      exact ⟨xs[i], by rw [h1, List.getElem?_eq_getElem this]⟩
    · rename_i m e hu
      obtain ⟨xs, n, _, _, hcl, hxl, hf⟩ := DataW.trod_array hu ht
      simp only [Option.bind_eq_some_iff] at h
      obtain ⟨l, hl, hif⟩ := h
      split at hif
      · rename_i hc
        simp only [Option.some.injEq] at hif
        subst hif
        intro j v u hv hu'
        have hjl : j < (List.replicate m l).flatten.length := (List.getElem?_eq_some_iff.1 hu').1
        have hfl : ∀ k, (List.replicate k l).flatten.length = k * l.length := by
          intro k; simp
        rw [hfl] at hjl
        have hl0 : 0 < l.length := by
          rcases Nat.eq_zero_or_pos l.length with h0 | h0
          · rw [h0] at hjl; simp at hjl
          · exact h0
        have hi : j / l.length < m := by rw [Nat.div_lt_iff_lt_mul hl0]; exact hjl
        have hmod := Nat.mod_lt j hl0
        have hjd := Nat.div_add_mod j l.length
        have hget : ∀ (k j : Nat), j < k * l.length → (List.replicate k l).flatten[j]? = l[j % l.length]? := by
          intro k
          induction k with
          | zero => intro j hj; simp at hj
          | succ k ihk =>
            intro j hj
            rw [List.replicate_succ, List.flatten_cons, List.getElem?_append]
            split
            · rename_i h1; rw [Nat.mod_eq_of_lt h1]
            · rename_i h1
              rw [ihk (j - l.length) (by rw [Nat.succ_mul] at hj; omega)]
              rw [← Nat.mod_eq_sub_mod (show l.length ≤ j by omega)]
        rw [hget m j hjl] at hu'
        have h1 := hf (j / l.length) hi
        have hxi : j / l.length < xs.length := by omega
        rw [List.getElem?_eq_getElem hxi] at h1
        have hsz : (j / l.length) * P.cellsOf e + P.cellsOf e ≤ cs.length := by
          rw [← hlen, hfl, ← hc]
          calc (j / l.length) * l.length + l.length = (j / l.length + 1) * l.length := by rw [Nat.succ_mul]
            _ ≤ m * l.length := Nat.mul_le_mul_right _ hi
        refine ih e l n _ _ hl ?_ h1 (j % l.length) v u ?_ hu'
        · rw [List.length_take, List.length_drop]; omega
        · rw [List.getElem?_take, if_pos (by omega), List.getElem?_drop, ← hc, ← hv]
          congr 1
          rw [Nat.mul_comm]; exact hjd
      · cases hif
    · rename_i hu1 hu2 hs
      simp only [Option.some.injEq] at h
      subst h
      intro j v u hv hu'
      have hc1 : cs.length = 1 := by simpa using hlen.symm
      match cs, hc1 with
      | [c], _ =>
        match j with
        | 0 =>
          simp at hv hu'
          subst hv; subst hu'
          exact ⟨fuel, x, ht⟩
        | j + 1 => simp at hv
    · cases h
theorem LeafAt.int {u : TypeId} {v : Value} {k : IntKind} (h : LeafAt enc P w base spare held u v) (hu : P.underlying u = some (.int k)) : ∃ n, v = .int k n ∧ (Lit.int k n).wf = true := by
  obtain ⟨n, y, hy⟩ := h
  obtain ⟨m, h1, _, h2⟩ := DataW.trod_int hu hy
  simp at h1
  exact ⟨m, h1, h2⟩
theorem LeafAt.string {u : TypeId} {v : Value} (h : LeafAt enc P w base spare held u v) (hu : P.underlying u = some .string) : ∃ s, v = .string s ∧ s.size ≤ maxLen := by
  obtain ⟨n, y, hy⟩ := h
  obtain ⟨m, h1, _, h2⟩ := DataW.trod_string hu hy
  simp at h1
  exact ⟨m, h1, h2⟩
theorem LeafAt.bool {u : TypeId} {v : Value} (h : LeafAt enc P w base spare held u v) (hu : P.underlying u = some .bool) : ∃ b, v = .bool b := by
  obtain ⟨n, y, hy⟩ := h
  obtain ⟨m, h1, _⟩ := DataW.trod_bool hu hy
  simp at h1
  exact ⟨m, h1⟩

theorem flatten_get {α : Type} {sz : Nat} (h0 : 0 < sz) : ∀ (xs : List (List α)), (∀ x ∈ xs, x.length = sz) → ∀ j, xs.flatten[j]? = (xs[j / sz]?).bind fun x => x[j % sz]? := by
  intro xs
  induction xs with
  | nil => intro _ j; simp
  | cons x xs ih =>
    intro hx j
    have hxl := hx x List.mem_cons_self
    rw [List.flatten_cons, List.getElem?_append]
    split
    · rename_i h1
      rw [Nat.div_eq_of_lt (by omega), Nat.mod_eq_of_lt (by omega)]
      simp
    · rename_i h1
      rw [ih (fun y hy => hx y (List.mem_cons_of_mem _ hy)), hxl]
      have h2 : j / sz = (j - sz) / sz + 1 := by
        rw [Nat.div_eq_sub_div h0 (by omega)]
      rw [h2, List.getElem?_cons_succ, ← Nat.mod_eq_sub_mod (show sz ≤ j by omega)]
theorem flatten_length {α : Type} {sz : Nat} : ∀ (xs : List (List α)), (∀ x ∈ xs, x.length = sz) → xs.flatten.length = xs.length * sz := by
  intro xs
  induction xs with
  | nil => intro _; simp
  | cons x xs ih =>
    intro hx
    rw [List.flatten_cons, List.length_append, ih (fun y hy => hx y (List.mem_cons_of_mem _ hy)), hx x List.mem_cons_self, List.length_cons, Nat.succ_mul, Nat.add_comm]
theorem add_eq (b off : Nat) (j : Nat) : (⟨b, off, none⟩ : Addr).add j = ⟨b, off + j, none⟩ := by
  unfold Addr.add
  split
  · rename_i h0; subst h0; rfl
  · rfl

/-- A slice that came in: its row, element by element: each element's cells read by the element's type. -/
theorem open_row {t e : TypeId} {fuel : Nat} {A : Option Addr} {n c : Nat} {x : DataW H × List MemPlace} (ht : P.underlying t = some (.slice e)) (h : DataW.trod enc P w base spare held fuel t [.slice A n c] = some x) :
    n ≤ c ∧ c ≤ maxLen ∧ ∃ xs : List (List Value), xs.length = n ∧ (∀ cs ∈ xs, cs.length = P.cellsOf e ∧ ∃ m y, DataW.trod enc P w base spare held m e cs = some y) ∧ (xs.flatten ≠ [] → ∃ b off : Nat, A = some ⟨b, off, none⟩ ∧ ∀ j u, xs.flatten[j]? = some u → w.cell? ⟨b, off + j, none⟩ = some u) := by
  rcases Deep.open_slice ht h with ⟨hcs, _⟩ | ⟨a, len, cap, m, n', D, Pl, hcs, _, hl, hm, hmm, _, hi⟩
  · simp at hcs
    obtain ⟨rfl, rfl, rfl⟩ := hcs
    exact ⟨Nat.le_refl _, Nat.zero_le _, [], rfl, by simp, by simp⟩
  · simp at hcs
    obtain ⟨rfl, rfl, rfl⟩ := hcs
    have hnm : n ≤ m := by rw [hmm]; split <;> omega
    refine ⟨hl, hm, (List.range n).map fun i => ((w.cells? base (a.add (i * P.cellsOf e)) (P.cellsOf e)).getD []), by simp, ?_, ?_⟩
    · intro cs hcs
      simp only [List.mem_map, List.mem_range] at hcs
      obtain ⟨i, hin, rfl⟩ := hcs
      obtain ⟨cs', h1, h2⟩ := hi i (by omega)
      rw [h1]
      exact ⟨(World.cells?_some h1).2.1, n', _, h2⟩
    · intro hne
      have hall : ∀ y ∈ (List.range n).map (fun i => ((w.cells? base (a.add (i * P.cellsOf e)) (P.cellsOf e)).getD [])), y.length = P.cellsOf e := by
        intro y hy
        simp only [List.mem_map, List.mem_range] at hy
        obtain ⟨i, hin, rfl⟩ := hy
        obtain ⟨cs', h1, _⟩ := hi i (by omega)
        rw [h1]
        exact (World.cells?_some h1).2.1
      have hlen0 := flatten_length _ hall
      have hpos : 0 < n * P.cellsOf e := by
        rcases Nat.eq_zero_or_pos (n * P.cellsOf e) with h0 | h0
        · exfalso
          apply hne
          apply List.eq_nil_of_length_eq_zero
          rw [hlen0]
          simpa using h0
        · exact h0
      have hsz : 0 < P.cellsOf e := Nat.pos_of_mul_pos_left hpos
      have hn0 : 0 < n := Nat.pos_of_mul_pos_right hpos
      obtain ⟨b, off, spot⟩ := a
      have hs : spot = none := by
        obtain ⟨cs', h1, _⟩ := hi 0 (by omega)
        obtain ⟨_, hl1, hc1⟩ := World.cells?_some h1
        have h2 := hc1 0 hsz
        have h3 : ((⟨b, off, spot⟩ : Addr).add (0 * P.cellsOf e)).add 0 = ⟨b, off, spot⟩ := by simp [Addr.add]
        rw [h3, List.getElem?_eq_getElem (by omega)] at h2
        exact spot_none h2
      subst hs
      refine ⟨b, off, rfl, fun j u hu => ?_⟩
      rw [flatten_get hsz _ hall] at hu
      simp only [Option.bind_eq_some_iff, List.getElem?_map, Option.map_eq_some_iff] at hu
      obtain ⟨y, ⟨i, hir, rfl⟩, hy⟩ := hu
      have hrl := List.getElem?_eq_some_iff.1 hir
      obtain ⟨hir1, hir2⟩ := hrl
      simp at hir1 hir2
      subst hir2
      obtain ⟨cs', h1, _⟩ := hi (j / P.cellsOf e) (by omega)
      rw [h1] at hy
      simp only [Option.getD_some] at hy
      obtain ⟨_, hl1, hc1⟩ := World.cells?_some h1
      have h2 := hc1 (j % P.cellsOf e) (Nat.mod_lt _ hsz)
      rw [add_eq, add_eq, hy] at h2
      have hjd := Nat.div_add_mod j (P.cellsOf e)
      rw [show off + j = off + j / P.cellsOf e * P.cellsOf e + j % P.cellsOf e by rw [Nat.mul_comm (j / P.cellsOf e)]; omega]
      exact h2
end
end Go.Proofs.Ytjbikemecdlolaa
/-
  Rows of bytes that come in as arguments.
-/
namespace Go.Proofs.Ytjbikemecdlolaa
open Go.RowKit Go.ChangeShapes Go.WideShapes Go.ChangeAt

section
variable {H : Type} {enc : TypeId × Value → H} {w : World} {base : Nat} {spare : Nat → Bool} {held : Bool}
theorem open_none {t e : TypeId} {fuel : Nat} {A : Option Addr} {n c : Nat} {x : DataW H × List MemPlace} (ht : Try.prog.underlying t = some (.slice e)) (h : DataW.trod enc Try.prog w base spare held fuel t [.slice A n c] = some x) : A = none → c = 0 := by
  intro hA
  rcases Deep.open_slice ht h with ⟨hcs, _⟩ | ⟨a, len, cap, m, n', D, Pl, hcs, _⟩
  · simp at hcs
    exact hcs.2.2
  · simp at hcs
    rw [hA] at hcs
    simp at hcs
end
end Go.Proofs.Ytjbikemecdlolaa
/-
  Arguments that are rows of structs as trees: opened down to their cells; from a walk to the statement.
-/
namespace Go.Proofs.Ytjbikemecdlolaa.A
open Go.RowKit Go.ChangeShapes Go.WideShapes Go.ChangeAt

section
variable {H : Type} {enc : TypeId × Value → H} {w : World} {base : Nat} {spare : Nat → Bool} {held : Bool}
theorem wfIn {a : Int} (h : (Lit.int .i64 a).wf = true) : InR .i64 a := by
  have := bounds_i64 h
  simp only [InR, lo, hi]
  omega
theorem open_rows {α : Type} {abs : α → List Abs} {Ok : α → Prop} {s : Nat} : ∀ {ys : List (List Value)}, (∀ cs ∈ ys, cs.length = s ∧ ∃ a, reps [] w (abs a) cs ∧ Ok a) → ∃ xs : List α, repss [] w s (xs.map abs) ys.flatten ∧ xs.length = ys.length ∧ ∀ a ∈ xs, Ok a
  | [], _ => ⟨[], rfl, rfl, by simp⟩
  | cs :: ys, h => by
    obtain ⟨h1, a, h2, h3⟩ := h cs List.mem_cons_self
    obtain ⟨xs, h4, h5, h6⟩ := open_rows (ys := ys) fun c hc => h c (List.mem_cons_of_mem _ hc)
    exact ⟨a :: xs, ⟨cs, _, rfl, h1, h2, h4⟩, by simp [h5], by simpa using ⟨h3, h6⟩⟩
/-- A slice that came in, as a tree. -/
theorem open_slA {α : Type} {abs : α → List Abs} {Ok : α → Prop} {t e : TypeId} {s : Nat} {v : Value} (ht : Try.prog.underlying t = some (.slice e)) (hs : Try.prog.cellsOf e = s) (h : LeafAt enc Try.prog w base spare held t v)
    (hdec : ∀ cs, cs.length = Try.prog.cellsOf e → (∃ m y, DataW.trod enc Try.prog w base spare held m e cs = some y) → ∃ a, reps [] w (abs a) cs ∧ Ok a) :
    ∃ xs : List α, rep [] w (.sl s (xs.map abs)) v ∧ ∀ a ∈ xs, Ok a := by
  obtain ⟨fuel, x, h⟩ := h
  obtain ⟨A, n, c, rfl⟩ : ∃ A n c, v = .slice A n c := by
    rcases Deep.open_slice ht h with ⟨hcs, _⟩ | ⟨a, len, cap, m, n', D, Pl, hcs, _⟩
    · simp at hcs; exact ⟨_, _, _, hcs⟩
    · simp at hcs; exact ⟨_, _, _, hcs⟩
  obtain ⟨h1, h2, ys, h3, h4, h5⟩ := open_row ht h
  obtain ⟨xs, h6, h7, h8⟩ := open_rows (abs := abs) (Ok := Ok) (s := s) (w := w) (ys := ys) fun cs hc => ⟨by rw [← hs]; exact (h4 cs hc).1, hdec cs (h4 cs hc).1 (h4 cs hc).2⟩
  refine ⟨xs, ⟨ys.flatten, ⟨⟨A, c, ?_, ?_, h2, open_none ht h⟩, fun hn => ?_⟩, h6⟩, h8⟩
  · rw [List.length_map, h7, h3]
  · rw [List.length_map, h7, h3]; exact h1
  · obtain ⟨b, off, rfl, hc⟩ := h5 hn
    exact ⟨b, off, _, _, rfl, by simp, hc⟩
end
theorem _root_.Go.Proofs.Ytjbikemecdlolaa.IsRow.bytesA {K : List Nat} {w : World} {v : Value} {m : List UInt8} (h : IsRow K w v m.length (m.map bc)) : BytesV w v m := by
  obtain ⟨A, c, rfl, h1, h2, h3⟩ := h.shape
  refine ⟨A, c, rfl, h1, h2, h3, fun hn => ?_⟩
  obtain ⟨b, off, n', c', hv, _, hc⟩ := h.cells hn
  simp at hv
  obtain ⟨rfl, _, _⟩ := hv
  exact ⟨b, off, rfl, hc⟩
/-- A row of bytes as a text. -/
theorem Val.strOf {n : Nat} {W : Wd} {σ : Blks} {l : Slots} {X : List Nat} {x : Operand} {d : Option Nat} {ty : TypeId} {pos : String} {aft : Array Edge} {gq : Option (Nat × Bool)} {m : List UInt8} (hx : look l x = some (byt m)) : Val Try.prog n W σ l X ⟨d, .convert 23 9 x, ty, pos, aft, gq⟩ (.v (.string ⟨m.toArray⟩)) := fun a w hs hX => ⟨_, rfl, fun w' hw' => by
  have h1 := rep_byt.1 (hs.eval hx)
  have h2 := (Carry.of_ext hw' (K := mids σ ++ W.G) (K' := mids σ ++ W.G) (fun k hk => .inl (List.mem_append_left _ (hX k hk))) (fun k hk => .inl hk)).row h1
  have := conv_txtE h2.bytesA
  simp [execOp, this, Result.andThen]⟩
/-- A law's walk, as a call in a world. -/
theorem law_of {f : FuncId} {args : List Abs} (h : Pure Try.prog f args (boo true)) {w : World} {vals : List Value} (hv : reps [] w args vals) : Calls Try.prog f vals.toArray w fun e w' => e = .returned (.bool true) ∧ Ext [] w w' := by
  have hm : Mem w (mids []) [] [] w := ⟨Ext.refl w, by simp [mids], by simp, by simp, by simp, by simp [mids], by simp⟩
  refine (h [] w vals hm hv).mono fun e w' ⟨z, r, he, _, h1, h2⟩ => ⟨?_, h1.ext⟩
  have h2 : r = .bool true := h2
  rw [he, h2]
end Go.Proofs.Ytjbikemecdlolaa.A
/-
  Points: the law's fixed calls.
-/
namespace Go.Proofs.Ytjbikemecdlolaa.A
open Go.RowKit

section
set_option maxHeartbeats 4000000 in
theorem pfixed_s  : Spec Try.prog 6 [] [] (fun _ : Unit => []) (fun _ => boo true) := by
 refine spec_of Try.func6 rfl Try.ntmps6 rfl fun G w => ?_
 refine SC.seq (SC.region ?_)
 refine SL.val (Val.assign rfl) rfl rfl ?_
 refine SL.nil (SE.seq ?_)
 refine SC.seq (SC.region ?_)
 refine SL.call (pnew_s (n := 4) (me := 0) (by decide) (by decide) (by decide)) Casts.refl (by kernel_rfl) rfl rfl rfl ?_
 refine After.sub _ (List.Perm.refl _) (by intro x hx; cases hx) ?_
 intro z0
 refine ⟨_, List.Perm.refl _, ?_⟩
 refine SL.val (Val.assign rfl) rfl rfl ?_
 refine SL.nil (SE.seq ?_)
 refine SC.seq (SC.region ?_)
 refine SL.val (Val.to (C := .agg (digA fxD)) (Val.buildA tabOk rfl rfl rfl rfl) rfl) rfl rfl ?_
 refine SL.val (Val.to (C := .agg fxX.abs) (Val.buildS tabOk rfl rfl rfl rfl) rfl) rfl rfl ?_
 refine SL.eff (Eff.alloc tabOk rfl) rfl rfl ?_
 rintro _ _ ⟨b2, rfl, rfl⟩
 refine SL.eff (Eff.store (L' := fxX.abs) tabOk rfl rfl rfl (by repeat first|assumption|exact Upd.here|apply Upd.there) (Pnt.size _) (lb_ (by rfl)) (Pnt.ones _) (by exact putL_whole (Pnt.size _))) rfl rfl ?_
 rintro _ _ ⟨rfl, rfl⟩
 refine SL.nil (SE.seq ?_)
 refine SC.seq (SC.region ?_)
 refine SL.val (Val.move rfl) rfl rfl ?_
 refine SL.val (Val.to (C := .agg fxX.abs) (Val.loadA tabOk rfl rfl rfl (by repeat first|assumption|exact o0_|exact o1_|apply o2_) List.not_mem_nil (Pnt.size _)) rfl) rfl rfl ?_
 refine SL.call (pvote_s (n := 4) (me := 0) (om := []) (vs := List.replicate 4 []) (bp := z0.1) (bm := z0.2.1) (vv := z0.2.2) (who := 1) (x := fxX) fx_ok0 fx_in) Casts.refl (by kernel_rfl) rfl rfl rfl ?_
 refine After.mid [_] (β := []) rfl (by intro x hx; simp only [List.mem_cons, List.not_mem_nil, or_false] at hx; rcases hx with rfl | rfl | rfl <;> rfl) ?_
 intro _
 rw [fx_v1]
 refine SL.val (Val.assign rfl) rfl rfl ?_
 refine SL.nil (SE.seq ?_)
 refine SC.seq (SC.region ?_)
 refine SL.val (Val.move rfl) rfl rfl ?_
 refine SL.call (pweak_s (n := 4) (me := 0) (om := []) (vs := fxV1) (bp := z0.1) (bm := z0.2.1) (vv := z0.2.2) (above := 0) fx_ok1) Casts.refl (by kernel_rfl) rfl rfl rfl ?_
 refine ap_ ?_
 intro _
 rw [fx_w1]
 refine SL.val (Val.move rfl) rfl rfl ?_
 refine SL.val (Val.extract rfl rfl) rfl rfl ?_
 refine SL.val (Val.extract rfl rfl) rfl rfl ?_
 refine SL.eff (Eff.alloc tabOk rfl) rfl rfl ?_
 rintro _ _ ⟨b4, rfl, rfl⟩
 refine SL.eff (Eff.store (L' := (ptO none).abs) tabOk rfl rfl rfl (by repeat first|assumption|exact Upd.here|apply Upd.there) (Pnt.size _) (lb_ (by rfl)) (Pnt.ones _) (by exact putL_whole (Pnt.size _))) rfl rfl ?_
 rintro _ _ ⟨rfl, rfl⟩
 refine SL.val (Val.assign rfl) rfl rfl ?_
 refine SL.nil (SE.seq ?_)
 refine SC.seq (SC.region ?_)
 refine SL.val (Val.move rfl) rfl rfl ?_
 refine SL.val (Val.to (C := .agg fxX.abs) (Val.loadA tabOk rfl rfl rfl (by repeat first|assumption|exact o0_|exact o1_|apply o2_) List.not_mem_nil (Pnt.size _)) rfl) rfl rfl ?_
 refine SL.call (pvote_s (n := 4) (me := 0) (om := []) (vs := fxV1) (bp := z0.1) (bm := z0.2.1) (vv := z0.2.2) (who := 2) (x := fxX) fx_ok1 fx_in) Casts.refl (by kernel_rfl) rfl rfl rfl ?_
 refine After.mid [_, _] (β := []) rfl (by intro x hx; simp only [List.mem_cons, List.not_mem_nil, or_false] at hx; rcases hx with rfl | rfl | rfl <;> rfl) ?_
 intro _
 rw [fx_v2]
 refine SL.val (Val.assign rfl) rfl rfl ?_
 refine SL.nil (SE.seq ?_)
 refine SC.seq (SC.region ?_)
 refine SL.val (Val.move rfl) rfl rfl ?_
 refine SL.call (pweak_s (n := 4) (me := 0) (om := []) (vs := fxV2) (bp := z0.1) (bm := z0.2.1) (vv := z0.2.2) (above := 0) fx_ok2) Casts.refl (by kernel_rfl) rfl rfl rfl ?_
 refine ap_ ?_
 intro _
 rw [fx_w2]
 refine SL.val (Val.move rfl) rfl rfl ?_
 refine SL.val (Val.extract rfl rfl) rfl rfl ?_
 refine SL.val (Val.extract rfl rfl) rfl rfl ?_
 refine SL.eff (Eff.alloc tabOk rfl) rfl rfl ?_
 rintro _ _ ⟨b7, rfl, rfl⟩
 refine SL.eff (Eff.store (L' := (ptO (some fxX)).abs) tabOk rfl rfl rfl (by repeat first|assumption|exact Upd.here|apply Upd.there) (Pnt.size _) (lb_ (by rfl)) (Pnt.ones _) (by exact putL_whole (Pnt.size _))) rfl rfl ?_
 rintro _ _ ⟨rfl, rfl⟩
 refine SL.val (Val.assign rfl) rfl rfl ?_
 refine SL.nil (SE.seq ?_)
 refine SC.seq (SC.region ?_)
 refine SL.val (Val.move rfl) rfl rfl ?_
 refine SL.call (pstable_s (n := 4) (me := 0) (om := []) (vs := fxV2) (bp := z0.1) (bm := z0.2.1) (vv := z0.2.2) (above := 0) fx_ok2) Casts.refl (by kernel_rfl) rfl rfl rfl ?_
 refine ap_ ?_
 intro _
 rw [fx_s2]
 refine SL.val (Val.move rfl) rfl rfl ?_
 refine SL.val (Val.extract rfl rfl) rfl rfl ?_
 refine SL.val (Val.extract rfl rfl) rfl rfl ?_
 refine SL.eff (Eff.alloc tabOk rfl) rfl rfl ?_
 rintro _ _ ⟨b9, rfl, rfl⟩
 refine SL.eff (Eff.store (L' := (ptO none).abs) tabOk rfl rfl rfl (by repeat first|assumption|exact Upd.here|apply Upd.there) (Pnt.size _) (lb_ (by rfl)) (Pnt.ones _) (by exact putL_whole (Pnt.size _))) rfl rfl ?_
 rintro _ _ ⟨rfl, rfl⟩
 refine SL.val (Val.assign rfl) rfl rfl ?_
 refine SL.nil (SE.seq ?_)
 refine SC.seq (SC.region ?_)
 refine SL.val (Val.move rfl) rfl rfl ?_
 refine SL.val (Val.fieldAddr tabOk rfl rfl rfl rfl rfl) rfl rfl ?_
 refine SL.val (Val.to (C := .agg (digA fxD)) (Val.loadP tabOk rfl rfl rfl (by repeat first|assumption|exact o0_|exact o1_|apply o2_) List.not_mem_nil (by show 1 + 32 ≤ fxX.abs.length; rw [Pnt.size]; omega)) (by exact pnt_part fxX)) rfl rfl ?_
 refine SL.eff (Eff.buildOwn tabOk Try.underlying23 rfl rfl rfl rfl rfl rfl rfl) rfl rfl ?_
 rintro _ _ ⟨r42, rfl, rfl⟩
 refine SL.eff (Eff.litBytes (m := [98]) [] Try.underlying23 Try.underlying5 rfl rfl (by simp)) rfl rfl ?_
 rintro _ _ ⟨rfl, rfl⟩
 refine SL.call (pown_s (n := 4) (me := 0) (om := []) (vs := fxV2) (bp := z0.1) (bm := z0.2.1) (vv := z0.2.2) (k := 4) (o := fxO) (by simp [InR, lo, hi]) (by decide)) Casts.refl (by kernel_rfl) rfl rfl rfl ?_
 refine After.mid [_, _, _, _] (β := []) rfl (by intro x hx; simp only [List.mem_cons, List.not_mem_nil, or_false] at hx; rcases hx with rfl | rfl | rfl <;> rfl) ?_
 intro _
 rw [fx_put]
 refine SL.nil (SE.seq ?_)
 refine SC.seq (SC.region ?_)
 refine SL.val (Val.move rfl) rfl rfl ?_
 refine SL.call (pstable_s (n := 4) (me := 0) (om := [(4, fxO)]) (vs := fxV2) (bp := z0.1) (bm := z0.2.1) (vv := z0.2.2) (above := 0) fx_ok3) Casts.refl (by kernel_rfl) rfl rfl rfl ?_
 refine ap_ ?_
 intro _
 rw [fx_s3]
 refine SL.val (Val.move rfl) rfl rfl ?_
 refine SL.val (Val.extract rfl rfl) rfl rfl ?_
 refine SL.val (Val.extract rfl rfl) rfl rfl ?_
 refine SL.eff (Eff.alloc tabOk rfl) rfl rfl ?_
 rintro _ _ ⟨b11, rfl, rfl⟩
 refine SL.eff (Eff.store (L' := (ptO (some fxX)).abs) tabOk rfl rfl rfl (by repeat first|assumption|exact Upd.here|apply Upd.there) (Pnt.size _) (lb_ (by rfl)) (Pnt.ones _) (by exact putL_whole (Pnt.size _))) rfl rfl ?_
 rintro _ _ ⟨rfl, rfl⟩
 refine SL.val (Val.assign rfl) rfl rfl ?_
 refine SL.nil (SE.seq ?_)
 refine SC.seq (SC.region ?_)
 refine SL.val (Val.move rfl) rfl rfl ?_
 refine SL.val (Val.to (C := .agg fxX.abs) (Val.loadA tabOk rfl rfl rfl (by repeat first|assumption|exact o0_|exact o1_|apply o2_) List.not_mem_nil (Pnt.size _)) rfl) rfl rfl ?_
 refine SL.call (pbytes_s (n := 4) (me := 0) (om := [(4, fxO)]) (vs := fxV2) (bp := z0.1) (bm := z0.2.1) (vv := z0.2.2) (x := fxX) fx_ok3 fx_in (by intro e he; rw [List.mem_singleton.1 he]; decide)) Casts.refl (by kernel_rfl) rfl rfl rfl ?_
 refine ap_ ?_
 intro _
 rw [fx_by]
 refine SL.val (Val.move rfl) rfl rfl ?_
 refine SL.val (Val.extract rfl rfl) rfl rfl ?_
 refine SL.val (Val.extract rfl rfl) rfl rfl ?_
 iterate 2 refine SL.val (Val.assign rfl) rfl rfl ?_
 refine SL.nil (SE.seq ?_)
 refine SC.seq (SC.region ?_)
 iterate 3 refine SL.val (Val.move rfl) rfl rfl ?_
 refine SL.val (Val.pickT rfl rfl) rfl rfl ?_
 iterate 2 refine SL.val (Val.move rfl) rfl rfl ?_
 refine SL.val (Val.notF rfl) rfl rfl ?_
 refine SL.val (Val.pickT rfl rfl) rfl rfl ?_
 iterate 2 refine SL.val (Val.move rfl) rfl rfl ?_
 refine SL.val (Val.pickT rfl rfl) rfl rfl ?_
 refine SL.val (Val.move rfl) rfl rfl ?_
 refine SL.val (Val.to (C := .agg fxX.abs) (Val.loadA tabOk rfl rfl rfl (by repeat first|assumption|exact o0_|exact o1_|apply o2_) List.not_mem_nil (Pnt.size _)) rfl) rfl rfl ?_
 refine SL.val (Val.to (C := .agg fxX.abs) (Val.loadA tabOk rfl rfl rfl (by repeat first|assumption|exact o0_|exact o1_|apply o2_) List.not_mem_nil (Pnt.size _)) rfl) rfl rfl ?_
 refine SL.val (Val.eqA rfl rfl (pnt_plains _) (pnt_plains _) (by kernel_rfl) (eqP fx_in fx_in)) rfl rfl ?_
 refine SL.val (Val.pickT rfl rfl) rfl rfl ?_
 refine SL.val (Val.move rfl) rfl rfl ?_
 refine SL.bothP (t := 72) rfl ?_ (by intro hc72; exfalso; exact hc72 rfl)
 intro hc72
 refine SL.val (Val.move rfl) rfl rfl ?_
 refine SL.val (Val.notF rfl) rfl rfl ?_
 refine SL.val (Val.pickT rfl rfl) rfl rfl ?_
 iterate 2 refine SL.val (Val.move rfl) rfl rfl ?_
 refine SL.val (Val.pickT rfl rfl) rfl rfl ?_
 refine SL.val (Val.move rfl) rfl rfl ?_
 refine SL.val (Val.to (C := .agg fxX.abs) (Val.loadA tabOk rfl rfl rfl (by repeat first|assumption|exact o0_|exact o1_|apply o2_) List.not_mem_nil (Pnt.size _)) rfl) rfl rfl ?_
 refine SL.val (Val.to (C := .agg fxX.abs) (Val.loadA tabOk rfl rfl rfl (by repeat first|assumption|exact o0_|exact o1_|apply o2_) List.not_mem_nil (Pnt.size _)) rfl) rfl rfl ?_
 refine SL.val (Val.eqA rfl rfl (pnt_plains _) (pnt_plains _) (by kernel_rfl) (eqP fx_in fx_in)) rfl rfl ?_
 refine SL.val (Val.pickT rfl rfl) rfl rfl ?_
 refine SL.val (Val.move rfl) rfl rfl ?_
 refine SL.bothP (t := 84) rfl ?_ (by intro hc84; exfalso; exact hc84 rfl)
 intro hc84
 refine SL.val (Val.move rfl) rfl rfl ?_
 refine SL.val (Val.to (C := .agg fxX.abs) (Val.loadA tabOk rfl rfl rfl (by repeat first|assumption|exact o0_|exact o1_|apply o2_) List.not_mem_nil (Pnt.size _)) rfl) rfl rfl ?_
 refine SL.call (psup_s (n := 4) (me := 0) (om := [(4, fxO)]) (vs := fxV2) (bp := z0.1) (bm := z0.2.1) (vv := z0.2.2) (x := fxX) fx_ok3 fx_in) Casts.refl (by kernel_rfl) rfl rfl rfl ?_
 refine ap_ ?_
 intro _
 rw [fx_sup]
 refine SL.val (Val.eqI rfl rfl) rfl rfl ?_
 refine SL.val (Val.pickT rfl rfl) rfl rfl ?_
 refine SL.val (Val.move rfl) rfl rfl ?_
 refine SL.bothP (t := 90) rfl ?_ (by intro hc90; exfalso; omega)
 intro hc90
 refine SL.val (Val.move rfl) rfl rfl ?_
 refine SL.val (Val.pickT rfl rfl) rfl rfl ?_
 iterate 2 refine SL.val (Val.move rfl) rfl rfl ?_
 refine SL.val (Val.strOf rfl) rfl rfl ?_
 refine SL.val (Val.eqS rfl rfl) rfl rfl ?_
 refine SL.val (Val.pickT rfl rfl) rfl rfl ?_
 refine SL.val (Val.move rfl) rfl rfl ?_
 refine SL.bothP (t := 98) rfl ?_ (by intro hc98; exfalso; exact hc98 (by decide))
 intro hc98
 refine SL.val (Val.move rfl) rfl rfl ?_
 refine SL.call (ptold_s (n := 4) (me := 0) (om := [(4, fxO)]) (vs := fxV2) (bp := z0.1) (bm := z0.2.1) (vv := z0.2.2) fx_ok3) Casts.refl (by kernel_rfl) rfl rfl rfl ?_
 refine After.make (by repeat (first | exact Reads.nil | (refine Reads.blk ?_ ?_; focus ((repeat first|assumption|exact m0_|apply m1_); done)) | (refine Reads.rd ?_ ?_; focus ((repeat first|assumption|exact m0_|apply m1_); done)) | (refine Reads.pc ?_ ?_; focus ((repeat first|assumption|exact m0_|apply m1_); done)) | (refine Reads.rdpc ?_ ?_; focus ((repeat first|assumption|exact m0_|apply m1_); done)))) (fun _ => rfl) ?_
 intro r100
 rw [fx_told]
 refine SL.val (Val.lenOwn (m := 1) rfl (by repeat first|assumption|exact m0_|apply m1_) Try.underlying40 rfl) rfl rfl ?_
 refine SL.val (Val.eqI rfl rfl) rfl rfl ?_
 refine SL.val (Val.pickT rfl rfl) rfl rfl ?_
 refine SL.val (Val.assign rfl) rfl rfl ?_
 refine SL.nil (SE.seq ?_)
 refine SC.ret ?_
 refine SE.fin (rs := [.tmp 0]) rfl (RV.tmp rfl RV.nil) (()) (by repeat first|exact s0_ _|exact s1_ _|apply s2_|apply s3_) (by simp [It.rids]) ?_
 exact rfl
end
end Go.Proofs.Ytjbikemecdlolaa.A
