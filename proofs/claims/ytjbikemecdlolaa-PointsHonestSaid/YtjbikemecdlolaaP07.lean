/-
  Packed out of the texts: PtsH, PT9.
-/
import Derived.Test.YtjbikemecdlolaaP06
/-
  Points, plain: whom the votes are of (PointsHonest).
-/
set_option maxRecDepth 100000
set_option linter.unusedSimpArgs false
set_option linter.unusedVariables false
namespace Go.Proofs.Ytjbikemecdlolaa.A
open Go.RowKit

/-- An act. -/
structure PAc where
  kind : UInt8
  who : Int
  x : Pnt
  row : List UInt8
def PAc.abs (a : PAc) : List Abs := .v (bc a.kind) :: int a.who :: (a.x.abs ++ [byt a.row])
theorem PAc.size (a : PAc) : a.abs.length = 36 := by simp [PAc.abs, Pnt.size]
theorem PAc.ones (a : PAc) : ones a.abs = true := by
  rw [ones_iff]; intro c hc
  rcases List.mem_cons.1 hc with rfl | hc
  · rfl
  rcases List.mem_cons.1 hc with rfl | hc
  · rfl
  rcases List.mem_append.1 hc with hc | hc
  · exact ones_iff.1 a.x.ones c hc
  · rw [List.mem_singleton.1 hc]; rfl
theorem PAc.part (a : PAc) : Abs.agg (part a.abs 2 33) = .agg a.x.abs := by
  have h := a.x.size
  unfold A.part PAc.abs
  rw [List.drop_succ_cons, List.drop_succ_cons, List.drop_zero, List.take_append_of_le_length (by omega), List.take_of_length_le (by omega)]
/-- What comes in is in range. -/
structure PAcIn (a : PAc) : Prop where
  who : InR .i64 a.who
  seq : InR .i64 a.x.seq
def kf (f : UInt8) : Nat := 1 + f.toNat % 2
/-- Whoever has a vote is one of these. -/
def Only (S : List Nat) (vs : List (List Pnt)) : Prop := ∀ i (h : i < vs.length), vs[i] ≠ [] → i ∈ S
theorem only_new {S : List Nat} {n : Nat} : Only S (List.replicate n []) := fun i h h2 => absurd (by simp) h2
theorem only_vote {S : List Nat} {n me : Nat} {vs : List (List Pnt)} {who : Int} {x : Pnt} (h : Only S vs) (hw : who.toNat ∈ S) : Only S (voteP n me vs who x).2 := by
  unfold voteP
  split
  · exact h
  · split
    · intro i hi h2
      by_cases he : i = who.toNat
      · rw [he]; exact hw
      · rw [List.getElem_set_ne (by omega)] at h2
        exact h i (by simpa using hi) h2
    · exact h
theorem only_mono {S S' : List Nat} {vs : List (List Pnt)} (h : Only S vs) (hs : ∀ i ∈ S, i ∈ S') : Only S' vs := fun i hi h2 => hs i (h i hi h2)
theorem only_count : ∀ {S : List Nat} {vs : List (List Pnt)}, Only S vs → vs.countP (fun l => decide (l ≠ [])) ≤ S.length
  | [], vs, h => by
    rw [List.length_nil, Nat.le_zero, List.countP_eq_zero]
    intro l hl
    obtain ⟨i, hi, rfl⟩ := List.getElem_of_mem hl
    simp only [decide_eq_true_eq]
    exact fun h2 => by cases h i hi h2
  | s :: S, vs, h => by
    rw [List.length_cons]
    by_cases hs : s < vs.length
    · have h2 : Only S (vs.set s []) := fun i hi h3 => by
        by_cases he : i = s
        · subst he; simp at h3
        · rw [List.getElem_set_ne (by omega)] at h3
          rcases List.mem_cons.1 (h i (by simpa using hi) h3) with h4 | h4
          · exact absurd h4 he
          · exact h4
      have h3 := only_count h2
      rw [List.countP_set hs] at h3
      split at h3 <;> split at h3 <;> omega
    · have h2 : Only S vs := fun i hi h3 => by
        rcases List.mem_cons.1 (h i hi h3) with h4 | h4
        · omega
        · exact h4
      have := only_count h2
      omega
theorem sup_only {S : List Nat} {vs : List (List Pnt)} (h : Only S vs) (x : Pnt) : supF [] vs x ≤ S.length := by
  refine Nat.le_trans ?_ (only_count h)
  unfold supF
  rw [if_neg (by intro h9; cases h9), Nat.zero_add, ← List.countP_eq_length_filter]
  refine List.countP_mono_left fun l _ h2 => ?_
  simp only [decide_eq_true_eq] at h2 ⊢
  exact fun h3 => by rw [h3] at h2; cases h2
theorem weak_none {S : List Nat} {n me : Nat} {vs : List (List Pnt)} {above at_ : Int} (h : Only S vs) (hs : (S.length : Int) < at_) : ∀ q, weakTo n me [] vs above at_ q = none
  | 0 => rfl
  | q + 1 => by
    rw [weakTo_succ, weak_none h hs q]
    have h2 : bestF [] vs (votesI n me [] vs (q : Int)) above at_ = none := by
      refine List.find?_eq_none.2 fun x _ h3 => ?_
      rw [Bool.and_eq_true, decide_eq_true_eq, decide_eq_true_eq] at h3
      have := sup_only h x
      omega
    rw [h2]
    rfl
theorem stable_none {n me : Nat} {vs : List (List Pnt)} {above at_ : Int} (hm : me < n) : bestF [] vs (votesI n me [] vs (me : Int)) above at_ = none := by
  rw [votesI_me hm, ownP_nil]
  rfl
/-- Whom the liars are. -/
def lieS (n : Nat) (liars : List UInt8) : List Nat := liars.map fun w => 1 + w.toNat % (n - 1)
theorem lie_in {n : Nat} {liars : List UInt8} {q : Nat} (hq : q < liars.length) {who : Int} (h : who = 1 + ((liars[q]).toNat : Int) % ((n : Int) - 1)) (hn : 1 ≤ n) : who.toNat ∈ lieS n liars := by
  refine List.mem_map.2 ⟨liars[q], List.getElem_mem hq, ?_⟩
  rw [h, show ((n : Int) - 1) = ((n - 1 : Nat) : Int) by omega, ← Int.natCast_emod]
  omega
end Go.Proofs.Ytjbikemecdlolaa.A
/-
  PointsHonest: the walk.
-/
namespace Go.Proofs.Ytjbikemecdlolaa.A
open Go.RowKit

section
variable {f : UInt8} {l : List PAc} {liars : List UInt8} {x : Pnt}
theorem kf_in : 1 ≤ kf f ∧ kf f ≤ 2 := by unfold kf; omega
set_option maxHeartbeats 4000000 in
theorem phonest_s (hl : ∀ a ∈ l, PAcIn a) (hx : InR .i64 x.seq) : Spec Try.prog 3 [.v (bc f), .sl 36 (l.map PAc.abs), byt liars, .agg x.abs] [] (fun _ : Unit => []) (fun _ => boo true) := by
 refine spec_of Try.func3 rfl Try.ntmps3 rfl fun G w => ?_
 refine SC.seq (SC.region ?_)
 refine SL.eff (Eff.boxA (cs := x.abs) rfl) rfl rfl ?_
 rintro _ _ ⟨b7, rfl, rfl⟩
 refine SL.val (Val.assign rfl) rfl rfl ?_
 refine SL.nil (SE.seq ?_)
 refine SC.seq ?_
 refine SC.seq (SC.region ?_)
 refine SL.call (pfixed_s) Casts.refl (by kernel_rfl) rfl rfl rfl ?_
 refine ap_ ?_
 intro _
 refine SL.val (Val.notT rfl) rfl rfl ?_
 refine SL.nil (SE.seq ?_)
 refine SC.condF rfl ?_
 refine SC.skip ?_
 refine SE.seq ?_
 refine SC.seq ?_
 have hfu := f.toNat_lt
 have hkf := kf_in (f := f)
 refine SC.region ?_
 refine SL.val (Val.move rfl) rfl rfl ?_
 refine SL.val (Val.remI rfl rfl (by omega)) rfl rfl ?_
 refine SL.val (Val.convI rfl Try.underlying3 (by kernel_rfl) (by simp only [InR, lo, hi]; omega)) rfl rfl ?_
 refine SL.val (Val.to (C := int (kf f : Nat)) (Val.addI rfl rfl (by simp only [InR, lo, hi]; omega)) (congrArg int (by unfold kf; omega))) rfl rfl ?_
 refine SL.val (Val.assign rfl) rfl rfl ?_
 refine SL.nil (SE.seq ?_)
 refine SC.seq (SC.region ?_)
 refine SL.val (Val.move rfl) rfl rfl ?_
 refine SL.val (Val.to (C := int ((3 * kf f : Nat) : Int)) (Val.mulI rfl rfl (by simp only [InR, lo, hi]; omega)) (congrArg int (by omega))) rfl rfl ?_
 refine SL.val (Val.to (C := int ((3 * kf f + 1) : Nat)) (Val.addI rfl rfl (by simp only [InR, lo, hi]; omega)) (congrArg int (by omega))) rfl rfl ?_
 refine SL.val (Val.assign rfl) rfl rfl ?_
 refine SL.nil (SE.seq ?_)
 refine SC.seq ?_
 refine SC.seq (SC.region ?_)
 refine SL.val (Val.move rfl) rfl rfl ?_
 first
  | refine SL.val (Val.lenSl rfl Try.underlying22 (List.length_map _)) rfl rfl ?_
  | refine SL.val (Val.lenOwn rfl (by repeat first|assumption|exact m0_|apply m1_) Try.underlying22 (List.length_map _)) rfl rfl ?_
  | refine SL.val (Val.lenNil rfl Try.underlying22) rfl rfl ?_
 refine SL.val (Val.gtI rfl rfl) rfl rfl ?_
 refine SL.val (Val.move rfl) rfl rfl ?_
 refine SL.bothP (t := 33) rfl ?_ ?_
 ·intro hc33
  iterate 4 refine SL.skip rfl rfl ?_
  refine SL.val (Val.pickT rfl rfl) rfl rfl ?_
  refine SL.nil (SE.seq ?_)
  refine SC.condT rfl ?_
  refine SC.seq (SC.region ?_)
  refine SL.val (Val.assign rfl) rfl rfl ?_
  refine SL.nil (SE.seq ?_)
  refine SC.ret ?_
  refine SE.then_ nofun ?_
  refine SE.fin (rs := [.tmp 8]) rfl (RV.tmp rfl RV.nil) (()) (by repeat first|exact s0_ _|exact s1_ _|apply s2_|apply s3_) (by simp [It.rids]) ?_
  exact rfl
 intro hc33
 refine SL.val (Val.move rfl) rfl rfl ?_
 first
  | refine SL.val (Val.lenSl rfl Try.underlying23 (List.length_map _)) rfl rfl ?_
  | refine SL.val (Val.lenOwn rfl (by repeat first|assumption|exact m0_|apply m1_) Try.underlying23 (List.length_map _)) rfl rfl ?_
  | refine SL.val (Val.lenNil rfl Try.underlying23) rfl rfl ?_
 refine SL.val (Val.move rfl) rfl rfl ?_
 refine SL.val (Val.gtI rfl rfl) rfl rfl ?_
 refine SL.val (Val.pickF rfl rfl) rfl rfl ?_
 refine SL.nil (SE.seq ?_)
 refine SC.condP rfl ?_ ?_
 ·intro hc38
  refine SC.seq (SC.region ?_)
  refine SL.val (Val.assign rfl) rfl rfl ?_
  refine SL.nil (SE.seq ?_)
  refine SC.ret ?_
  refine SE.then_ nofun ?_
  refine SE.fin (rs := [.tmp 8]) rfl (RV.tmp rfl RV.nil) (()) (by repeat first|exact s0_ _|exact s1_ _|apply s2_|apply s3_) (by simp [It.rids]) ?_
  exact rfl
 intro hc38
 refine SC.skip ?_
 refine SE.seq ?_
 refine SC.seq (SC.region ?_)
 refine SL.val (Val.move rfl) rfl rfl ?_
 refine SL.call (pnew_s (n := (3 * kf f + 1)) (me := 0) (by omega) (by omega) (by omega)) Casts.refl (by kernel_rfl) rfl rfl rfl ?_
 refine After.sub _ (List.Perm.refl _) (by intro x hx; cases hx) ?_
 intro z0
 refine ⟨_, List.Perm.refl _, ?_⟩
 refine SL.val (Val.assign rfl) rfl rfl ?_
 refine SL.nil (SE.seq ?_)
 refine SC.seq ?_
 refine SC.seq (SC.region ?_)
 refine SL.val (Val.move rfl) rfl rfl ?_
 first
  | refine SL.val (Val.lenSl rfl Try.underlying22 (List.length_map _)) rfl rfl ?_
  | refine SL.val (Val.lenOwn rfl (by repeat first|assumption|exact m0_|apply m1_) Try.underlying22 (List.length_map _)) rfl rfl ?_
  | refine SL.val (Val.lenNil rfl Try.underlying22) rfl rfl ?_
 refine SL.val (Val.move rfl) rfl rfl ?_
 refine SL.nil (SE.seq ?_)
 refine SC.block ?_
 have hll : liars.length ≤ kf f := by omega
 refine SC.loop (ι := Nat × List (List Pnt)) (fun z => [.blk z0.1 57 [int ((3 * kf f + 1) : Nat), int (0 : Nat), mapV z0.2.1, .v z0.2.2], own 40 1 z0.2.2 ((z.2).map fun l => [pntsA l]), .pc (tmPc z0.2.1 intK intOk Ow.enc []), .blk b7 27 x.abs]) (fun z => [(1, .sl 36 (l.map PAc.abs)), (2, byt liars), (7, ptr b7), (9, int (kf f : Nat)), (10, int ((3 * kf f + 1) : Nat)), (11, ptr z0.1), (41, .sl 36 (l.map PAc.abs)), (42, int (l.length : Nat)), (43, int (z.1 : Nat))]) (fun z => z.1 ≤ l.length ∧ PtsOk (3 * kf f + 1) 0 [] z.2 ∧ Only (lieS (3 * kf f + 1) liars) z.2) (fun z => l.length - z.1) (0, List.replicate (3 * kf f + 1) []) (⟨Nat.zero_le _, PtsOk.new (by omega) (by omega) (by omega), only_new⟩) (by exact ⟨rfl, rfl, rfl, rfl, rfl, rfl, rfl, rfl, rfl, trivial⟩) (by repeat first|exact s0_ _|exact s1_ _|apply s2_|apply s3_) ?_
 intro z hz
 refine SC.seq (SC.region ?_)
 refine SL.val (Val.ltI rfl rfl) rfl rfl ?_
 refine SL.nil (SE.seq ?_)
 refine SC.seq ?_
 refine SC.condP rfl ?_ ?_
 rotate_left
 ·intro hc44
  refine SC.exit ?_
  refine SE.then_ nofun ?_
  refine SE.then_ nofun ?_
  refine SE.exit ?_
  refine SE.seq ?_
  refine SC.seq (SC.region ?_)
  refine SL.val (Val.move rfl) rfl rfl ?_
  refine SL.call (pweak_s (n := (3 * kf f + 1)) (me := 0) (om := []) (vs := z.2) (bp := z0.1) (bm := z0.2.1) (vv := z0.2.2) (above := -1) hz.2.1) Casts.refl (by kernel_rfl) rfl rfl rfl ?_
  refine ap_ ?_
  intro _
  rw [weak_none hz.2.2 (by simp only [lieS, List.length_map]; omega)]
  refine SL.val (Val.move rfl) rfl rfl ?_
  refine SL.val (Val.extract rfl rfl) rfl rfl ?_
  refine SL.val (Val.extract rfl rfl) rfl rfl ?_
  refine SL.eff (Eff.alloc tabOk rfl) rfl rfl ?_
  rintro _ _ ⟨b17, rfl, rfl⟩
  refine SL.eff (Eff.store (L' := (ptO none).abs) tabOk rfl rfl rfl (by repeat first|assumption|exact Upd.here|apply Upd.there) (Pnt.size _) (lb_ (by rfl)) (Pnt.ones _) (by exact putL_whole (Pnt.size _))) rfl rfl ?_
  rintro _ _ ⟨rfl, rfl⟩
  refine SL.val (Val.assign rfl) rfl rfl ?_
  refine SL.nil (SE.seq ?_)
  refine SC.seq (SC.region ?_)
  refine SL.val (Val.move rfl) rfl rfl ?_
  refine SL.call (pstable_s (n := (3 * kf f + 1)) (me := 0) (om := []) (vs := z.2) (bp := z0.1) (bm := z0.2.1) (vv := z0.2.2) (above := -1) hz.2.1) Casts.refl (by kernel_rfl) rfl rfl rfl ?_
  refine ap_ ?_
  intro _
  rw [stable_none (by omega)]
  refine SL.val (Val.move rfl) rfl rfl ?_
  refine SL.val (Val.extract rfl rfl) rfl rfl ?_
  refine SL.val (Val.extract rfl rfl) rfl rfl ?_
  refine SL.eff (Eff.alloc tabOk rfl) rfl rfl ?_
  rintro _ _ ⟨b19, rfl, rfl⟩
  refine SL.eff (Eff.store (L' := (ptO none).abs) tabOk rfl rfl rfl (by repeat first|assumption|exact Upd.here|apply Upd.there) (Pnt.size _) (lb_ (by rfl)) (Pnt.ones _) (by exact putL_whole (Pnt.size _))) rfl rfl ?_
  rintro _ _ ⟨rfl, rfl⟩
  refine SL.val (Val.assign rfl) rfl rfl ?_
  refine SL.nil (SE.seq ?_)
  refine SC.seq (SC.region ?_)
  refine SL.val (Val.move rfl) rfl rfl ?_
  refine SL.val (Val.to (C := .agg x.abs) (Val.loadA tabOk rfl rfl rfl (by repeat first|assumption|exact o0_|exact o1_|apply o2_) List.not_mem_nil (Pnt.size _)) rfl) rfl rfl ?_
  refine SL.call (pvote_s (n := (3 * kf f + 1)) (me := 0) (om := []) (vs := z.2) (bp := z0.1) (bm := z0.2.1) (vv := z0.2.2) (who := 1) (x := x) hz.2.1 hx) Casts.refl (by kernel_rfl) rfl rfl rfl ?_
  refine After.mid [_, _] (β := [_]) rfl (by intro x hx; simp only [List.mem_cons, List.not_mem_nil, or_false] at hx; rcases hx with rfl | rfl | rfl <;> rfl) ?_
  intro _
  refine SL.nil (SE.seq ?_)
  refine SC.seq (SC.region ?_)
  refine SL.val (Val.move rfl) rfl rfl ?_
  refine SL.val (Val.notF rfl) rfl rfl ?_
  iterate 2 refine SL.val (Val.move rfl) rfl rfl ?_
  refine SL.val (Val.notF rfl) rfl rfl ?_
  refine SL.val (Val.pickT rfl rfl) rfl rfl ?_
  iterate 2 refine SL.val (Val.move rfl) rfl rfl ?_
  refine SL.val (Val.to (C := .agg x.abs) (Val.loadA tabOk rfl rfl rfl (by repeat first|assumption|exact o0_|exact o1_|apply o2_) List.not_mem_nil (Pnt.size _)) rfl) rfl rfl ?_
  refine SL.call (psup_s (n := (3 * kf f + 1)) (me := 0) (om := []) (vs := (voteP (3 * kf f + 1) 0 z.2 1 x).2) (bp := z0.1) (bm := z0.2.1) (vv := z0.2.2) (x := x) (hz.2.1.voteP hx) hx) Casts.refl (by kernel_rfl) rfl rfl rfl ?_
  refine ap_ ?_
  intro _
  refine SL.val (Val.move rfl) rfl rfl ?_
  first
   | refine SL.val (Val.addI rfl rfl (by simp only [InR, lo, hi]; omega)) rfl rfl ?_
   | refine SL.val (Val.addW rfl rfl) rfl rfl ?_
  refine SL.val (Val.leI rfl rfl) rfl rfl ?_
  refine SL.val (Val.pickT rfl rfl) rfl rfl ?_
  refine SL.val (Val.assign rfl) rfl rfl ?_
  refine SL.nil (SE.seq ?_)
  refine SC.ret ?_
  refine SE.fin (rs := [.tmp 8]) rfl (RV.tmp rfl RV.nil) (()) (by repeat first|exact s0_ _|exact s1_ _|apply s2_|apply s3_) (by simp [It.rids]) ?_
  refine congrArg (fun b => Abs.v (Value.bool b)) (decide_eq_true ?_)
  have h9 := sup_only (only_vote (n := (3 * kf f + 1)) (me := 0) (x := x) (only_mono (S' := 1 :: lieS (3 * kf f + 1) liars) hz.2.2 (fun i hi => List.mem_cons_of_mem _ hi)) (show (1 : Int).toNat ∈ 1 :: lieS (3 * kf f + 1) liars from List.mem_cons_self)) x
  simp only [List.length_cons, lieS, List.length_map] at h9
  omega
 intro hc44
 have hlt : z.1 < l.length := by omega
 refine SC.skip ?_
 refine SE.seq ?_
 refine SC.seq ?_
 refine SC.block ?_
 refine SC.seq (SC.region ?_)
 refine SL.val (Val.indexSl tabOk Try.underlying22 rfl rfl rfl rfl (at_map (by omega)) rfl rfl) rfl rfl ?_
 refine SL.val (Val.loadAR tabOk rfl rfl rfl (PAc.size _)) rfl rfl ?_
 refine SL.eff (Eff.alloc tabOk rfl) rfl rfl ?_
 rintro _ _ ⟨b13, rfl, rfl⟩
 refine SL.eff (Eff.store (L' := (l[z.1]'hlt).abs) tabOk rfl rfl rfl (by repeat first|assumption|exact Upd.here|apply Upd.there) (PAc.size _) (lb_ (by rfl)) (PAc.ones _) (by exact putL_whole (PAc.size _))) rfl rfl ?_
 rintro _ _ ⟨rfl, rfl⟩
 refine SL.nil (SE.seq ?_)
 refine SC.seq (SC.region ?_)
 refine SL.val (Val.move rfl) rfl rfl ?_
 first
  | refine SL.val (Val.lenSl rfl Try.underlying23 (List.length_map _)) rfl rfl ?_
  | refine SL.val (Val.lenOwn rfl (by repeat first|assumption|exact m0_|apply m1_) Try.underlying23 (List.length_map _)) rfl rfl ?_
  | refine SL.val (Val.lenNil rfl Try.underlying23) rfl rfl ?_
 refine SL.val (Val.move rfl) rfl rfl ?_
 refine SL.nil (SE.seq ?_)
 refine SC.block ?_
 refine SC.loop (ι := Nat × List (List Pnt)) (fun q => [.blk b13 32 (l[z.1]'hlt).abs, .blk z0.1 57 [int ((3 * kf f + 1) : Nat), int (0 : Nat), mapV z0.2.1, .v z0.2.2], own 40 1 z0.2.2 ((q.2).map fun l => [pntsA l]), .pc (tmPc z0.2.1 intK intOk Ow.enc []), .blk b7 27 x.abs]) (fun q => [(1, .sl 36 (l.map PAc.abs)), (2, byt liars), (7, ptr b7), (9, int (kf f : Nat)), (10, int ((3 * kf f + 1) : Nat)), (11, ptr z0.1), (13, ptr b13), (41, .sl 36 (l.map PAc.abs)), (42, int (l.length : Nat)), (43, int (z.1 : Nat)), (47, byt liars), (48, int (liars.length : Nat)), (49, int (q.1 : Nat))]) (fun q => q.1 ≤ liars.length ∧ PtsOk (3 * kf f + 1) 0 [] q.2 ∧ Only (lieS (3 * kf f + 1) liars) q.2) (fun q => liars.length - q.1) (0, z.2) (⟨Nat.zero_le _, hz.2.1, hz.2.2⟩) (by exact ⟨rfl, rfl, rfl, rfl, rfl, rfl, rfl, rfl, rfl, rfl, rfl, rfl, rfl, trivial⟩) (by repeat first|exact s0_ _|exact s1_ _|apply s2_|apply s3_) ?_
 intro q hq
 refine SC.seq (SC.region ?_)
 refine SL.val (Val.ltI rfl rfl) rfl rfl ?_
 refine SL.nil (SE.seq ?_)
 refine SC.seq ?_
 refine SC.condP rfl ?_ ?_
 rotate_left
 ·intro hc50
  refine SC.exit ?_
  refine SE.then_ nofun ?_
  refine SE.then_ nofun ?_
  refine SE.exit ?_
  refine SE.inBlock ?_
  refine SE.seq ?_
  refine SC.region ?_
  first
   | refine SL.val (Val.addI rfl rfl (by simp only [InR, lo, hi]; omega)) rfl rfl ?_
   | refine SL.val (Val.addW rfl rfl) rfl rfl ?_
  refine SL.val (Val.move rfl) rfl rfl ?_
  refine SL.nil ?_
  refine SE.round (z.1 + 1, q.2) (by first | omega | (dsimp only; omega)) (⟨by dsimp only; omega, hq.2.1, hq.2.2⟩) (by exact ⟨rfl, rfl, rfl, rfl, rfl, rfl, rfl, rfl, rfl, trivial⟩) (by repeat first|exact s0_ _|exact s1_ _|apply s2_|apply s3_)
 intro hc50
 have hql : q.1 < liars.length := by omega
 have hlw := (liars[q.1]'hql).toNat_lt
 have hrm := Int.emod_nonneg ((liars[q.1]'hql).toNat : Int) (show (((3 * kf f + 1) : Nat) : Int) - 1 ≠ 0 by omega)
 have hrm2 := Int.emod_lt_of_pos ((liars[q.1]'hql).toNat : Int) (show (0 : Int) < (((3 * kf f + 1) : Nat) : Int) - 1 by omega)
 refine SC.skip ?_
 refine SE.seq ?_
 refine SC.seq ?_
 refine SC.block ?_
 refine SC.seq (SC.region ?_)
 refine SL.val (Val.indexSl tabOk Try.underlying23 rfl rfl rfl rfl (at_map (by omega)) rfl rfl) rfl rfl ?_
 refine SL.val (Val.to (C := .v (bc (liars[q.1]'hql))) (Val.load1R tabOk rfl rfl rfl) rfl) rfl rfl ?_
 refine SL.val (Val.assign rfl) rfl rfl ?_
 refine SL.nil (SE.seq ?_)
 refine SC.seq (SC.region ?_)
 refine SL.val (Val.move rfl) rfl rfl ?_
 refine SL.val (Val.convI rfl Try.underlying3 (by kernel_rfl) (by simp only [InR, lo, hi]; omega)) rfl rfl ?_
 refine SL.val (Val.move rfl) rfl rfl ?_
 first
  | refine SL.val (Val.subI rfl rfl (by simp only [InR, lo, hi]; omega)) rfl rfl ?_
  | refine SL.val (Val.subW rfl rfl) rfl rfl ?_
 first
  | refine SL.val (Val.remI rfl rfl (by omega)) rfl rfl ?_
  | refine SL.val (Val.remT rfl rfl (by omega)) rfl rfl ?_
 first
  | refine SL.val (Val.addI rfl rfl (by simp only [InR, lo, hi]; omega)) rfl rfl ?_
  | refine SL.val (Val.addW rfl rfl) rfl rfl ?_
 refine SL.val (Val.assign rfl) rfl rfl ?_
 refine SL.nil (SE.seq ?_)
 refine SC.seq (SC.region ?_)
 refine SL.val (Val.move rfl) rfl rfl ?_
 refine SL.val (Val.fieldAddr tabOk rfl rfl rfl rfl rfl) rfl rfl ?_
 refine SL.val (Val.to (C := int (l[z.1]'hlt).who) (Val.load1 tabOk rfl rfl (by repeat first|assumption|exact o0_|exact o1_|apply o2_) List.not_mem_nil (by rfl)) rfl) rfl rfl ?_
 refine SL.val (Val.eqI rfl rfl) rfl rfl ?_
 refine SL.nil (SE.seq ?_)
 refine SC.condP rfl ?_ ?_
 rotate_left
 ·intro hc62
  refine SC.skip ?_
  refine SE.inBlock ?_
  refine SE.seq ?_
  refine SC.region ?_
  first
   | refine SL.val (Val.addI rfl rfl (by simp only [InR, lo, hi]; omega)) rfl rfl ?_
   | refine SL.val (Val.addW rfl rfl) rfl rfl ?_
  refine SL.val (Val.move rfl) rfl rfl ?_
  refine SL.nil ?_
  refine SE.round (q.1 + 1, q.2) (by first | omega | (dsimp only; omega)) (⟨by dsimp only; omega, hq.2.1, hq.2.2⟩) (by exact ⟨rfl, rfl, rfl, rfl, rfl, rfl, rfl, rfl, rfl, rfl, rfl, rfl, rfl, trivial⟩) (by repeat first|exact s0_ _|exact s1_ _|apply s2_|apply s3_)
 intro hc62
 refine SC.region ?_
 iterate 2 refine SL.val (Val.move rfl) rfl rfl ?_
 refine SL.val (Val.fieldAddr tabOk rfl rfl rfl rfl rfl) rfl rfl ?_
 refine SL.val (Val.to (C := .agg (l[z.1]'hlt).x.abs) (Val.loadP tabOk rfl rfl rfl (by repeat first|assumption|exact o0_|exact o1_|apply o2_) List.not_mem_nil (by show 2 + 33 ≤ (l[z.1]'hlt).abs.length; rw [PAc.size]; omega)) (by exact PAc.part _)) rfl rfl ?_
 refine SL.call (pvote_s (n := (3 * kf f + 1)) (me := 0) (om := []) (vs := q.2) (bp := z0.1) (bm := z0.2.1) (vv := z0.2.2) (who := 1 + ((liars[q.1]'hql).toNat : Int) % (((3 * kf f + 1) : Nat) - 1 : Int)) (x := (l[z.1]'hlt).x) hq.2.1 (hl _ (List.getElem_mem hlt)).seq) Casts.refl (by kernel_rfl) rfl rfl rfl ?_
 refine After.mid [_] (β := [_]) rfl (by intro x hx; simp only [List.mem_cons, List.not_mem_nil, or_false] at hx; rcases hx with rfl | rfl | rfl <;> rfl) ?_
 intro _
 refine SL.nil ?_
 refine SE.inBlock ?_
 refine SE.seq ?_
 refine SC.region ?_
 first
  | refine SL.val (Val.addI rfl rfl (by simp only [InR, lo, hi]; omega)) rfl rfl ?_
  | refine SL.val (Val.addW rfl rfl) rfl rfl ?_
 refine SL.val (Val.move rfl) rfl rfl ?_
 refine SL.nil ?_
 refine SE.round (q.1 + 1, (voteP (3 * kf f + 1) 0 q.2 (1 + ((liars[q.1]'hql).toNat : Int) % (((3 * kf f + 1) : Nat) - 1 : Int)) (l[z.1]'hlt).x).2) (by first | omega | (dsimp only; omega)) (⟨by dsimp only; omega, hq.2.1.voteP (hl _ (List.getElem_mem hlt)).seq, only_vote hq.2.2 (lie_in hql rfl (by omega))⟩) (by exact ⟨rfl, rfl, rfl, rfl, rfl, rfl, rfl, rfl, rfl, rfl, rfl, rfl, rfl, trivial⟩) (by repeat first|exact s0_ _|exact s1_ _|apply s2_|apply s3_)
end
end Go.Proofs.Ytjbikemecdlolaa.A
