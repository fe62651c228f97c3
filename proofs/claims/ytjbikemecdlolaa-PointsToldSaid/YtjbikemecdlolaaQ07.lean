/-
  Packed out of the texts: PtsT, PT10.
-/
import Derived.Test.YtjbikemecdlolaaQ06
/-
  Points, plain: what is told of own points (PointsTold).
-/
set_option maxRecDepth 100000
set_option linter.unusedSimpArgs false
set_option linter.unusedVariables false
namespace Go.Proofs.Ytjbikemecdlolaa.A
open Go.RowKit

/-- A number's lowest byte. -/
def b8 (s : Int) : UInt8 := UInt8.ofNat (s % 256).toNat
theorem b8_val (s : Int) : ((b8 s).toNat : Int) = s % 256 := by
  unfold b8
  simp
  omega
def oD (s : Int) : List UInt8 := b8 s :: List.replicate 31 0
theorem oD_len (s : Int) : (oD s).length = 32 := by simp [oD]
def oO (s : Int) : Ow := ⟨oD s, [], oD_len s⟩
/-- The own points are those of these numbers. -/
structure OwnOf (om : List (Int × Ow)) (ss : List Int) : Prop where
  get : ∀ k, aget om k = if k ∈ ss then some (oO k) else none
  nd : (om.map (·.1)).Nodup
  len : om.length ≤ ss.length
theorem OwnOf.nil : OwnOf [] [] := ⟨fun k => rfl, List.nodup_nil, Nat.le_refl _⟩
theorem OwnOf.step {om : List (Int × Ow)} {ss : List Int} (h : OwnOf om ss) (s : Int) : OwnOf (aput om s (oO s)) (ss ++ [s]) where
  get := fun k => by
    rw [aget_aput, h.get]
    by_cases hk : k = s
    · subst hk; simp
    · rw [if_neg hk]
      by_cases h2 : k ∈ ss
      · rw [if_pos h2, if_pos (List.mem_append_left _ h2)]
      · rw [if_neg h2, if_neg]
        intro h3
        rcases List.mem_append.1 h3 with h3 | h3
        · exact h2 h3
        · exact hk (List.mem_singleton.1 h3)
  nd := aput_nodup h.nd _ _
  len := by
    have := h.len
    unfold aput
    split
    · rw [List.length_map, List.length_append]; omega
    · simp only [List.length_append, List.length_cons, List.length_nil]; omega
section
variable {om : List (Int × Ow)} {ss : List Int}
theorem aget_key {γ : Type} {m : List (Int × γ)} {k : Int} : k ∈ m.map (·.1) ↔ (aget m k).isSome = true := by
  induction m with
  | nil => simp [aget]
  | cons e m ih =>
    unfold aget at ih ⊢
    rw [List.map_cons, List.mem_cons, List.find?_cons]
    by_cases he : e.1 = k
    · simp [he]
    · have he2 : ¬ k = e.1 := fun h => he h.symm
      simp only [he, he2, decide_false, false_or]
      exact ih
theorem OwnOf.keys (h : OwnOf om ss) {k : Int} : k ∈ om.map (·.1) ↔ k ∈ ss := by
  rw [aget_key, h.get]
  by_cases hk : k ∈ ss <;> simp [hk]
theorem OwnOf.mem (h : OwnOf om ss) {x : Pnt} (hx : x ∈ ownP om) : x.seq ∈ ss ∧ x.dig = oD x.seq := by
  obtain ⟨k, hk, rfl⟩ := List.mem_map.1 hx
  have h2 := h.keys.1 (srt_mem.1 hk)
  refine ⟨h2, ?_⟩
  show ((aget om k).getD Ow.zero).dig = oD k
  rw [h.get, if_pos h2]
  rfl
theorem OwnOf.all (h : OwnOf om ss) {k : Int} (hk : k ∈ ss) : ∃ x ∈ ownP om, x.seq = k := ⟨_, List.mem_map.2 ⟨k, srt_mem.2 (h.keys.2 hk), rfl⟩, rfl⟩
theorem toldF_sub (l : List Pnt) : (toldF l).Sublist l := by
  unfold toldF
  split
  · next h =>
    have h2 : l = l.take 1 ++ ((l.drop 1).take (l.length - 4) ++ l.drop (l.length - 3)) := by
      rw [show l.length - 3 = 1 + (l.length - 4) by omega, ← List.drop_drop, List.take_append_drop, List.take_append_drop]
    have h3 : (l.take 1 ++ l.drop (l.length - 3)).Sublist (l.take 1 ++ ((l.drop 1).take (l.length - 4) ++ l.drop (l.length - 3))) := List.Sublist.append (List.Sublist.refl _) (List.sublist_append_right _ _)
    rw [← h2] at h3
    exact h3
  · exact List.Sublist.refl _
theorem toldF_length (l : List Pnt) : (toldF l).length ≤ 4 ∧ (1 ≤ l.length → 1 ≤ (toldF l).length) := by
  unfold toldF
  split
  · rw [List.length_append, List.length_take, List.length_drop]; omega
  · omega
theorem toldF_head (l : List Pnt) : (toldF l)[0]? = l[0]? := by
  unfold toldF
  split
  · next h =>
    rw [List.getElem?_append_left (by rw [List.length_take]; omega), List.getElem?_take]
    rfl
  · rfl
theorem toldF_last (l : List Pnt) : (toldF l)[(toldF l).length - 1]? = l[l.length - 1]? := by
  unfold toldF
  split
  · next h =>
    rw [List.length_append, List.length_take, List.length_drop, List.getElem?_append_right (by rw [List.length_take]; omega), List.length_take, List.getElem?_drop]
    congr 1
    omega
  · rfl
/-- What the law asks of what is told. -/
structure TellsOf (T : List Pnt) (ss : List Int) : Prop where
  rise : Rising T
  dig : ∀ x ∈ T, x.dig = oD x.seq ∧ x.seq ∈ ss
  few : T.length ≤ 4
  some_ : ss ≠ [] → 1 ≤ T.length
  none_ : ss = [] → T = []
  low : ∀ (h : 0 < T.length) (k : Int), k ∈ ss → T[0].seq ≤ k
  high : ∀ (h : 0 < T.length) (k : Int), k ∈ ss → k ≤ T[T.length - 1].seq
theorem OwnOf.tells (h : OwnOf om ss) : TellsOf (toldF (ownP om)) ss := by
  have hr : Rising (ownP om) := ownP_rising h.nd
  have hs := toldF_sub (ownP om)
  have hl := toldF_length (ownP om)
  have hh := toldF_head (ownP om)
  have hla := toldF_last (ownP om)
  have hlow : ∀ (h0 : 0 < (ownP om).length) (k : Int), k ∈ ss → (ownP om)[0].seq ≤ k := fun h0 k hk => by
    obtain ⟨x, hx, rfl⟩ := h.all hk
    obtain ⟨j, hj, rfl⟩ := List.getElem_of_mem hx
    rcases Nat.eq_zero_or_pos j with rfl | hp
    · exact Int.le_refl _
    · exact Int.le_of_lt (List.pairwise_iff_getElem.1 hr 0 j h0 hj hp)
  have hhigh : ∀ (h0 : 0 < (ownP om).length) (k : Int), k ∈ ss → k ≤ ((ownP om)[(ownP om).length - 1]'(by omega)).seq := fun h0 k hk => by
    obtain ⟨x, hx, rfl⟩ := h.all hk
    obtain ⟨j, hj, rfl⟩ := List.getElem_of_mem hx
    rcases Nat.lt_or_ge j ((ownP om).length - 1) with hp | hp
    · exact Int.le_of_lt (List.pairwise_iff_getElem.1 hr j _ hj (by omega) hp)
    · obtain rfl : j = (ownP om).length - 1 := by omega
      exact Int.le_refl _
  have hpos : 0 < (toldF (ownP om)).length → 0 < (ownP om).length := fun h0 => Nat.lt_of_lt_of_le h0 hs.length_le
  refine ⟨List.Pairwise.sublist hs hr, fun x hx => (h.mem (hs.subset hx)).symm, hl.1, fun hn => ?_, fun hn => ?_, fun h0 k hk => ?_, fun h0 k hk => ?_⟩
  · obtain ⟨k, hk⟩ := List.exists_mem_of_ne_nil _ hn
    obtain ⟨x, hx, _⟩ := h.all hk
    exact hl.2 (List.length_pos_of_mem hx)
  · have h2 : ownP om = [] := by
      rw [List.eq_nil_iff_forall_not_mem]
      intro x hx
      have := (h.mem hx).1
      rw [hn] at this
      cases this
    rw [h2]; rfl
  · have h2 := hlow (hpos h0) k hk
    have h3 : (toldF (ownP om))[0] = (ownP om)[0]'(hpos h0) := by
      rw [List.getElem?_eq_getElem h0, List.getElem?_eq_getElem (hpos h0)] at hh
      exact Option.some.inj hh
    rw [h3]; exact h2
  · have h2 := hhigh (hpos h0) k hk
    have h3 : (toldF (ownP om))[(toldF (ownP om)).length - 1] = (ownP om)[(ownP om).length - 1]'(by have := hpos h0; omega) := by
      rw [List.getElem?_eq_getElem (by omega), List.getElem?_eq_getElem (by have := hpos h0; omega)] at hla
      exact Option.some.inj hla
    rw [h3]; exact h2
end
/-- The least and the greatest of the first numbers. -/
structure MinMax (ss : List Int) (z : Nat) (lo hi : Int) : Prop where
  l1 : lo ∈ ss
  h1 : hi ∈ ss
  l2 : ∀ j (h : j < ss.length), j < z → lo ≤ ss[j]
  h2 : ∀ j (h : j < ss.length), j < z → ss[j] ≤ hi
theorem MinMax.step {ss : List Int} {z : Nat} {lo hi : Int} (h : MinMax ss z lo hi) (hz : z < ss.length) : MinMax ss (z + 1) (min lo ss[z]) (max hi ss[z]) where
  l1 := by
    rcases Int.le_total lo ss[z] with h3 | h3
    · rw [Int.min_eq_left h3]; exact h.l1
    · rw [Int.min_eq_right h3]; exact List.getElem_mem hz
  h1 := by
    rcases Int.le_total hi ss[z] with h3 | h3
    · rw [Int.max_eq_right h3]; exact List.getElem_mem hz
    · rw [Int.max_eq_left h3]; exact h.h1
  l2 := fun j hj h3 => by
    rcases Nat.lt_or_ge j z with h4 | h4
    · have := h.l2 j hj h4; omega
    · obtain rfl : j = z := by omega
      omega
  h2 := fun j hj h3 => by
    rcases Nat.lt_or_ge j z with h4 | h4
    · have := h.h2 j hj h4; omega
    · obtain rfl : j = z := by omega
      omega
theorem MinMax.low {ss : List Int} {lo hi : Int} (h : MinMax ss ss.length lo hi) {k : Int} (hk : k ∈ ss) : lo ≤ k ∧ k ≤ hi := by
  obtain ⟨j, hj, rfl⟩ := List.getElem_of_mem hk
  exact ⟨h.l2 j hj hj, h.h2 j hj hj⟩
end Go.Proofs.Ytjbikemecdlolaa.A
/-
  PointsTold: the walk.
-/
namespace Go.Proofs.Ytjbikemecdlolaa.A
open Go.RowKit

theorem wrap_b8 (s : Int) : IntKind.u8.wrap s = ((b8 s).toNat : Int) := by
  rw [b8_val]
  rfl
theorem oD_arr (s : Int) : Abs.agg (putL (List.replicate 32 (Abs.v (Value.int .u8 0))) 0 [.v (bc (b8 s))]) = .agg (digA (oD s)) := by
  rw [putL_eq _ _ _ (Nat.zero_le _)]
  rfl
section
variable {ss : List Int}
set_option maxHeartbeats 4000000 in
theorem ptold_law_s (hs : ∀ s ∈ ss, InR .i64 s) : Spec Try.prog 4 [ints ss] [] (fun _ : Unit => []) (fun _ => boo true) := by
 refine spec_of Try.func4 rfl Try.ntmps4 rfl fun G w => ?_
 refine SC.seq (SC.region ?_)
 refine SL.val (Val.assign rfl) rfl rfl ?_
 refine SL.nil (SE.seq ?_)
 refine SC.seq ?_
 refine SC.seq (SC.region ?_)
 refine SL.call (pfixed_s) Casts.refl (by kernel_rfl) rfl rfl rfl ?_
 refine ap_ ?_
 intro _
 refine SL.val (Val.notT rfl) rfl rfl ?_
 refine SL.nil (SE.seq ?_)
 refine SC.condF rfl ?_
 refine SC.skip ?_
 refine SE.seq ?_
 refine SC.seq ?_
 refine SC.seq (SC.region ?_)
 refine SL.val (Val.move rfl) rfl rfl ?_
 first
  | refine SL.val (Val.lenSl rfl Try.underlying38 (List.length_map _)) rfl rfl ?_
  | refine SL.val (Val.lenOwn rfl (by repeat first|assumption|exact m0_|apply m1_) Try.underlying38 (List.length_map _)) rfl rfl ?_
  | refine SL.val (Val.lenNil rfl Try.underlying38) rfl rfl ?_
 refine SL.val (Val.gtI rfl rfl) rfl rfl ?_
 refine SL.nil (SE.seq ?_)
 refine SC.condP rfl ?_ ?_
 ·intro hc17
  refine SC.seq (SC.region ?_)
  refine SL.val (Val.assign rfl) rfl rfl ?_
  refine SL.nil (SE.seq ?_)
  refine SC.ret ?_
  refine SE.then_ nofun ?_
  refine SE.fin (rs := [.tmp 2]) rfl (RV.tmp rfl RV.nil) (()) (by repeat first|exact s0_ _|exact s1_ _|apply s2_|apply s3_) (by simp [It.rids]) ?_
  exact rfl
 intro hc17
 refine SC.skip ?_
 refine SE.seq ?_
 refine SC.seq (SC.region ?_)
 refine SL.call (pnew_s (n := 4) (me := 2) (by decide) (by decide) (by decide)) Casts.refl (by kernel_rfl) rfl rfl rfl ?_
 refine After.sub _ (List.Perm.refl _) (by intro x hx; cases hx) ?_
 intro z0
 refine ⟨_, List.Perm.refl _, ?_⟩
 refine SL.val (Val.assign rfl) rfl rfl ?_
 refine SL.nil (SE.seq ?_)
 refine SC.seq ?_
 refine SC.seq (SC.region ?_)
 refine SL.val (Val.move rfl) rfl rfl ?_
 first
  | refine SL.val (Val.lenSl rfl Try.underlying38 (List.length_map _)) rfl rfl ?_
  | refine SL.val (Val.lenOwn rfl (by repeat first|assumption|exact m0_|apply m1_) Try.underlying38 (List.length_map _)) rfl rfl ?_
  | refine SL.val (Val.lenNil rfl Try.underlying38) rfl rfl ?_
 refine SL.val (Val.move rfl) rfl rfl ?_
 refine SL.nil (SE.seq ?_)
 refine SC.block ?_
 refine SC.loop (ι := Nat × List (Int × Ow)) (fun z => [.blk z0.1 57 [int (4 : Nat), int (2 : Nat), mapV z0.2.1, .v z0.2.2], own 40 1 z0.2.2 ((List.replicate 4 []).map fun l => [pntsA l]), .pc (tmPc z0.2.1 intK intOk Ow.enc z.2)]) (fun z => [(0, ints ss), (3, ptr z0.1), (19, ints ss), (20, int (ss.length : Nat)), (21, int (z.1 : Nat))]) (fun z => z.1 ≤ ss.length ∧ OwnOf z.2 (ss.take z.1) ∧ PtsOk 4 2 z.2 (List.replicate 4 [])) (fun z => ss.length - z.1) (0, []) (⟨Nat.zero_le _, OwnOf.nil, PtsOk.new (by decide) (by decide) (by decide)⟩) (by exact ⟨rfl, rfl, rfl, rfl, rfl, trivial⟩) (by repeat first|exact s0_ _|exact s1_ _|apply s2_|apply s3_) ?_
 intro z hz
 refine SC.seq (SC.region ?_)
 refine SL.val (Val.ltI rfl rfl) rfl rfl ?_
 refine SL.nil (SE.seq ?_)
 refine SC.seq ?_
 refine SC.condP rfl ?_ ?_
 ·intro hc22
  have hlt : z.1 < ss.length := by omega
  refine SC.skip ?_
  refine SE.seq ?_
  refine SC.seq ?_
  refine SC.block ?_
  refine SC.seq (SC.region ?_)
  refine SL.val (Val.indexSl (q := z.1) tabOk Try.underlying38 rfl rfl rfl rfl (at_map (by omega)) rfl rfl) rfl rfl ?_
  refine SL.val (Val.to (C := int (ss[z.1]'(by omega))) (Val.load1R tabOk rfl rfl rfl) rfl) rfl rfl ?_
  refine SL.val (Val.assign rfl) rfl rfl ?_
  refine SL.nil (SE.seq ?_)
  refine SC.region ?_
  iterate 3 refine SL.val (Val.move rfl) rfl rfl ?_
  refine SL.val (Val.to (C := .v (bc (b8 (ss[z.1]'hlt)))) (Val.convW rfl Try.underlying5 (by kernel_rfl)) (congrArg (fun r => Abs.v (.int .u8 r)) (wrap_b8 (ss[z.1]'hlt)))) rfl rfl ?_
  refine SL.val (Val.to (C := .agg (digA (oD (ss[z.1]'hlt)))) (Val.buildA tabOk rfl rfl rfl rfl) (by exact oD_arr _)) rfl rfl ?_
  refine SL.call (pown_s (n := 4) (me := 2) (om := z.2) (vs := List.replicate 4 []) (bp := z0.1) (bm := z0.2.1) (vv := z0.2.2) (k := ss[z.1]'hlt) (o := oO (ss[z.1]'hlt)) (hs _ (List.getElem_mem hlt)) (Nat.zero_le _)) (Casts.keep (Casts.keep (Casts.keep (Casts.nils (s := 1) Casts.refl)))) (by kernel_rfl) rfl rfl rfl ?_
  refine After.mid [] (β := []) rfl (by intro x hx; simp only [List.mem_cons, List.not_mem_nil, or_false] at hx; rcases hx with rfl | rfl | rfl <;> rfl) ?_
  intro _
  refine SL.nil ?_
  refine SE.inBlock ?_
  refine SE.seq ?_
  refine SC.region ?_
  first
   | refine SL.val (Val.addI rfl rfl (by simp only [InR, lo, hi]; omega)) rfl rfl ?_
   | refine SL.val (Val.addW rfl rfl) rfl rfl ?_
  refine SL.val (Val.move rfl) rfl rfl ?_
  refine SL.nil ?_
  refine SE.round (z.1 + 1, aput z.2 (ss[z.1]'hlt) (oO (ss[z.1]'hlt))) (by first | omega | (dsimp only; omega)) (⟨by dsimp only; omega, by dsimp only; rw [List.take_succ_eq_append_getElem hlt]; exact hz.2.1.step _, hz.2.2.own (hs _ (List.getElem_mem hlt)) _ (by have h := hz.2.1.len; rw [List.length_take] at h; omega)⟩) (by exact ⟨rfl, rfl, rfl, rfl, rfl, trivial⟩) (by repeat first|exact s0_ _|exact s1_ _|apply s2_|apply s3_)
 intro hc22
 have hta : ss.take z.1 = ss := List.take_of_length_le (by omega)
 have hown := hz.2.1
 rw [hta] at hown
 have hok := hz.2.2
 obtain ⟨om, hom⟩ : ∃ om, z.2 = om := ⟨_, rfl⟩
 rw [hom] at hown hok ⊢
 have htl := hown.tells
 have h4 := htl.few
 refine SC.exit ?_
 refine SE.then_ nofun ?_
 refine SE.then_ nofun ?_
 refine SE.exit ?_
 refine SE.seq ?_
 refine SC.seq (SC.region ?_)
 refine SL.val (Val.move rfl) rfl rfl ?_
 refine SL.call (ptold_s (n := 4) (me := 2) (om := om) (vs := List.replicate 4 []) (bp := z0.1) (bm := z0.2.1) (vv := z0.2.2) hok) Casts.refl (by kernel_rfl) rfl rfl rfl ?_
 refine After.make (by repeat (first | exact Reads.nil | (refine Reads.blk ?_ ?_; focus ((repeat first|assumption|exact m0_|apply m1_); done)) | (refine Reads.rd ?_ ?_; focus ((repeat first|assumption|exact m0_|apply m1_); done)) | (refine Reads.pc ?_ ?_; focus ((repeat first|assumption|exact m0_|apply m1_); done)) | (refine Reads.rdpc ?_ ?_; focus ((repeat first|assumption|exact m0_|apply m1_); done)))) (fun _ => rfl) ?_
 intro r33
 refine SL.freeze [] (t := 33) rfl rfl ?_
 refine SL.val (Val.assign rfl) rfl rfl ?_
 refine SL.nil (SE.seq ?_)
 refine SC.seq ?_
 refine SC.seq (SC.region ?_)
 refine SL.val (Val.move rfl) rfl rfl ?_
 first
  | refine SL.val (Val.lenSl rfl Try.underlying38 (List.length_map _)) rfl rfl ?_
  | refine SL.val (Val.lenOwn rfl (by repeat first|assumption|exact m0_|apply m1_) Try.underlying38 (List.length_map _)) rfl rfl ?_
  | refine SL.val (Val.lenNil rfl Try.underlying38) rfl rfl ?_
 refine SL.val (Val.eqI rfl rfl) rfl rfl ?_
 refine SL.nil (SE.seq ?_)
 refine SC.condP rfl ?_ ?_
 ·intro hc36
  have hnil : ss = [] := List.length_eq_zero_iff.1 (by omega)
  have hT := htl.none_ hnil
  refine SC.seq (SC.region ?_)
  refine SL.val (Val.move rfl) rfl rfl ?_
  first
   | refine SL.val (Val.lenSl rfl Try.underlying40 (List.length_map _)) rfl rfl ?_
   | refine SL.val (Val.lenOwn rfl (by repeat first|assumption|exact m0_|apply m1_) Try.underlying40 (List.length_map _)) rfl rfl ?_
   | refine SL.val (Val.lenNil rfl Try.underlying40) rfl rfl ?_
  refine SL.val (Val.eqI rfl rfl) rfl rfl ?_
  refine SL.val (Val.assign rfl) rfl rfl ?_
  refine SL.nil (SE.seq ?_)
  refine SC.ret ?_
  refine SE.then_ nofun ?_
  refine SE.fin (rs := [.tmp 2]) rfl (RV.tmp rfl RV.nil) (()) (by repeat first|exact s0_ _|exact s1_ _|apply s2_|apply s3_) (by simp [It.rids]) ?_
  rw [hT]
  rfl
 intro hc36
 have hne : ss ≠ [] := fun h => by rw [h] at hc36; exact hc36 rfl
 have h0 : 0 < ss.length := by omega
 have h1 := htl.some_ hne
 refine SC.skip ?_
 refine SE.seq ?_
 refine SC.seq ?_
 refine SC.draw [] (.q 0 (.q 1 (.q 2 (.q 3 (.q 4 (.q 5 (.q 6 (.q 7 .nil)))))))) (by kernel_rfl) (by kernel_rfl) ?_
 refine SX.val rfl (Val.move rfl) (by simp) rfl rfl ?_
 refine SX.hx (by first|(simp[mids,It.mids,ownPc];done)|(intro k hk;simp[mids,It.mids,ownPc] at hk ⊢;grind)) fun hx9 => ?_
 refine SX.val rfl (Val.indexSl (q := 0) tabOk Try.underlying38 rfl rfl rfl rfl (at_map (by omega)) rfl rfl) hx9 rfl rfl ?_
 refine SX.val rfl (Val.to (C := int (ss[0]'(by omega))) (Val.load1R tabOk rfl rfl rfl) rfl) hx9 rfl rfl ?_
 refine SX.val rfl (Val.move rfl) (by simp) rfl rfl ?_
 refine SX.val rfl (Val.indexSl (q := 0) tabOk Try.underlying38 rfl rfl rfl rfl (at_map (by omega)) rfl rfl) hx9 rfl rfl ?_
 refine SX.val rfl (Val.to (C := int (ss[0]'(by omega))) (Val.load1R tabOk rfl rfl rfl) rfl) hx9 rfl rfl ?_
 refine SX.val rfl (Val.assign rfl) (by simp) rfl rfl ?_
 refine SX.val rfl (Val.assign rfl) (by simp) rfl rfl ?_
 refine SX.nil (SE.seq ?_)
 refine SC.seq ?_
 refine SC.seq (SC.region ?_)
 refine SL.val (Val.move rfl) rfl rfl ?_
 first
  | refine SL.val (Val.lenSl rfl Try.underlying38 (List.length_map _)) rfl rfl ?_
  | refine SL.val (Val.lenOwn rfl (by repeat first|assumption|exact m0_|apply m1_) Try.underlying38 (List.length_map _)) rfl rfl ?_
  | refine SL.val (Val.lenNil rfl Try.underlying38) rfl rfl ?_
 refine SL.val (Val.move rfl) rfl rfl ?_
 refine SL.nil (SE.seq ?_)
 refine SC.block ?_
 refine SC.loop (ι := Nat × Int × Int) (fun q => []) (fun q => [(0, ints ss), (6, .sl 33 ((toldF (ownP om)).map Pnt.abs)), (7, int q.2.1), (8, int q.2.2), (46, ints ss), (47, int (ss.length : Nat)), (48, int (q.1 : Nat))]) (fun q => q.1 ≤ ss.length ∧ MinMax ss q.1 q.2.1 q.2.2) (fun q => ss.length - q.1) (0, ss[0], ss[0]) (⟨Nat.zero_le _, List.getElem_mem _, List.getElem_mem _, fun j hj h => by omega, fun j hj h => by omega⟩) (by exact ⟨rfl, rfl, rfl, rfl, rfl, rfl, rfl, trivial⟩) (by repeat first|exact s0_ _|exact s1_ _|apply s2_|apply s3_) ?_
 intro q hq
 refine SC.seq (SC.region ?_)
 refine SL.val (Val.ltI rfl rfl) rfl rfl ?_
 refine SL.nil (SE.seq ?_)
 refine SC.seq ?_
 refine SC.condP rfl ?_ ?_
 ·intro hc49
  have hlt : q.1 < ss.length := by omega
  refine SC.skip ?_
  refine SE.seq ?_
  refine SC.seq ?_
  refine SC.block ?_
  refine SC.seq (SC.region ?_)
  refine SL.val (Val.indexSl (q := q.1) tabOk Try.underlying38 rfl rfl rfl rfl (at_map (by omega)) rfl rfl) rfl rfl ?_
  refine SL.val (Val.to (C := int (ss[q.1]'(by omega))) (Val.load1R tabOk rfl rfl rfl) rfl) rfl rfl ?_
  refine SL.val (Val.assign rfl) rfl rfl ?_
  refine SL.nil (SE.seq ?_)
  refine SC.region ?_
  iterate 2 refine SL.val (Val.move rfl) rfl rfl ?_
  refine SL.val (Val.minI rfl rfl) rfl rfl ?_
  iterate 2 refine SL.val (Val.move rfl) rfl rfl ?_
  refine SL.val (Val.maxI rfl rfl) rfl rfl ?_
  iterate 2 refine SL.val (Val.assign rfl) rfl rfl ?_
  refine SL.nil ?_
  refine SE.inBlock ?_
  refine SE.seq ?_
  refine SC.region ?_
  first
   | refine SL.val (Val.addI rfl rfl (by simp only [InR, lo, hi]; omega)) rfl rfl ?_
   | refine SL.val (Val.addW rfl rfl) rfl rfl ?_
  refine SL.val (Val.move rfl) rfl rfl ?_
  refine SL.nil ?_
  refine SE.round (q.1 + 1, min q.2.1 (ss[q.1]'hlt), max q.2.2 (ss[q.1]'hlt)) (by first | omega | (dsimp only; omega)) (⟨by dsimp only; omega, hq.2.step hlt⟩) (by exact ⟨rfl, rfl, rfl, rfl, rfl, rfl, rfl, trivial⟩) (by repeat first|exact s0_ _|exact s1_ _|apply s2_|apply s3_)
 intro hc49
 have hqe : q.1 = ss.length := by omega
 have hmm := hq.2
 rw [hqe] at hmm
 refine SC.exit ?_
 refine SE.then_ nofun ?_
 refine SE.then_ nofun ?_
 refine SE.exit ?_
 refine SE.seq ?_
 refine SC.seq ?_
 refine SC.seq (SC.region ?_)
 refine SL.val (Val.move rfl) rfl rfl ?_
 first
  | refine SL.val (Val.lenSl rfl Try.underlying40 (List.length_map _)) rfl rfl ?_
  | refine SL.val (Val.lenOwn rfl (by repeat first|assumption|exact m0_|apply m1_) Try.underlying40 (List.length_map _)) rfl rfl ?_
  | refine SL.val (Val.lenNil rfl Try.underlying40) rfl rfl ?_
 refine SL.val (Val.move rfl) rfl rfl ?_
 refine SL.nil (SE.seq ?_)
 refine SC.block ?_
 refine SC.loop (ι := Nat × Unit) (fun t => []) (fun t => [(6, .sl 33 ((toldF (ownP om)).map Pnt.abs)), (7, int q.2.1), (8, int q.2.2), (59, .sl 33 ((toldF (ownP om)).map Pnt.abs)), (60, int ((toldF (ownP om)).length : Nat)), (61, int (t.1 : Nat))]) (fun t => t.1 ≤ (toldF (ownP om)).length) (fun t => (toldF (ownP om)).length - t.1) (0, ()) (Nat.zero_le _) (by exact ⟨rfl, rfl, rfl, rfl, rfl, rfl, trivial⟩) (by repeat first|exact s0_ _|exact s1_ _|apply s2_|apply s3_) ?_
 intro t ht
 refine SC.seq (SC.region ?_)
 refine SL.val (Val.ltI rfl rfl) rfl rfl ?_
 refine SL.nil (SE.seq ?_)
 refine SC.seq ?_
 refine SC.condP rfl ?_ ?_
 rotate_left
 ·intro hc62
  refine SC.exit ?_
  refine SE.then_ nofun ?_
  refine SE.then_ nofun ?_
  refine SE.exit ?_
  refine SE.seq ?_
  refine SC.seq (SC.region ?_)
  refine SL.val (Val.move rfl) rfl rfl ?_
  first
   | refine SL.val (Val.lenSl rfl Try.underlying40 (List.length_map _)) rfl rfl ?_
   | refine SL.val (Val.lenOwn rfl (by repeat first|assumption|exact m0_|apply m1_) Try.underlying40 (List.length_map _)) rfl rfl ?_
   | refine SL.val (Val.lenNil rfl Try.underlying40) rfl rfl ?_
  refine SL.val (Val.geI rfl rfl) rfl rfl ?_
  refine SL.val (Val.move rfl) rfl rfl ?_
  refine SL.bothP (t := 92) rfl ?_ (by intro hc92; exfalso; omega)
  intro hc92
  refine SL.val (Val.move rfl) rfl rfl ?_
  first
   | refine SL.val (Val.lenSl rfl Try.underlying40 (List.length_map _)) rfl rfl ?_
   | refine SL.val (Val.lenOwn rfl (by repeat first|assumption|exact m0_|apply m1_) Try.underlying40 (List.length_map _)) rfl rfl ?_
   | refine SL.val (Val.lenNil rfl Try.underlying40) rfl rfl ?_
  refine SL.val (Val.leI rfl rfl) rfl rfl ?_
  refine SL.val (Val.pickT rfl rfl) rfl rfl ?_
  refine SL.val (Val.move rfl) rfl rfl ?_
  refine SL.bothP (t := 97) rfl ?_ (by intro hc97; exfalso; omega)
  intro hc97
  refine SL.val (Val.move rfl) rfl rfl ?_
  refine SL.val (Val.indexSl (q := 0) tabOk Try.underlying40 rfl rfl rfl (by omega) (at_map (by omega)) rfl rfl) rfl rfl ?_
  first
   | refine SL.val (Val.fieldAddr tabOk rfl rfl rfl rfl rfl) rfl rfl ?_
   | refine SL.val (Val.fieldAddrR tabOk rfl rfl rfl rfl rfl) rfl rfl ?_
  refine SL.val (Val.to (C := int (((toldF (ownP om))[0]'(by omega)).seq)) (Val.load1R tabOk rfl rfl rfl) rfl) rfl rfl ?_
  refine SL.val (Val.move rfl) rfl rfl ?_
  refine SL.val (Val.eqI rfl rfl) rfl rfl ?_
  refine SL.val (Val.pickT rfl rfl) rfl rfl ?_
  refine SL.val (Val.move rfl) rfl rfl ?_
  refine SL.bothP (t := 105) rfl ?_ (by intro hc105; exfalso; have h7 := htl.low (by omega) _ hmm.l1; have h8 := hmm.low ((htl.dig _ (List.getElem_mem (show 0 < (toldF (ownP om)).length by omega))).2); omega)
  intro hc105
  iterate 2 refine SL.val (Val.move rfl) rfl rfl ?_
  first
   | refine SL.val (Val.lenSl rfl Try.underlying40 (List.length_map _)) rfl rfl ?_
   | refine SL.val (Val.lenOwn rfl (by repeat first|assumption|exact m0_|apply m1_) Try.underlying40 (List.length_map _)) rfl rfl ?_
   | refine SL.val (Val.lenNil rfl Try.underlying40) rfl rfl ?_
  refine SL.val (Val.subI rfl rfl (by simp only [InR, lo, hi]; omega)) rfl rfl ?_
  refine SL.val (Val.indexSl (q := (toldF (ownP om)).length - 1) tabOk Try.underlying40 rfl rfl rfl (by omega) (at_map (by omega)) rfl rfl) rfl rfl ?_
  first
   | refine SL.val (Val.fieldAddr tabOk rfl rfl rfl rfl rfl) rfl rfl ?_
   | refine SL.val (Val.fieldAddrR tabOk rfl rfl rfl rfl rfl) rfl rfl ?_
  refine SL.val (Val.to (C := int (((toldF (ownP om))[(toldF (ownP om)).length - 1]'(by omega)).seq)) (Val.load1R tabOk rfl rfl rfl) rfl) rfl rfl ?_
  refine SL.val (Val.move rfl) rfl rfl ?_
  refine SL.val (Val.eqI rfl rfl) rfl rfl ?_
  refine SL.val (Val.pickT rfl rfl) rfl rfl ?_
  refine SL.val (Val.assign rfl) rfl rfl ?_
  refine SL.nil (SE.seq ?_)
  refine SC.ret ?_
  refine SE.fin (rs := [.tmp 2]) rfl (RV.tmp rfl RV.nil) (()) (by repeat first|exact s0_ _|exact s1_ _|apply s2_|apply s3_) (by simp [It.rids]) ?_
  refine congrArg (fun b => Abs.v (Value.bool b)) (decide_eq_true ?_)
  have h7 := htl.high (by omega) _ hmm.h1
  have h8 := hmm.low ((htl.dig _ (List.getElem_mem (show (toldF (ownP om)).length - 1 < (toldF (ownP om)).length by omega))).2)
  omega
 intro hc62
 have hlt : t.1 < (toldF (ownP om)).length := by omega
 refine SC.skip ?_
 refine SE.seq ?_
 refine SC.seq ?_
 refine SC.block ?_
 refine SC.seq (SC.region ?_)
 refine SL.val (Val.move rfl) rfl rfl ?_
 refine SL.val (Val.indexSl tabOk Try.underlying40 rfl rfl rfl rfl (at_map (by omega)) rfl rfl) rfl rfl ?_
 refine SL.val (Val.loadAR tabOk rfl rfl rfl (Pnt.size _)) rfl rfl ?_
 refine SL.eff (Eff.alloc tabOk rfl) rfl rfl ?_
 rintro _ _ ⟨b12, rfl, rfl⟩
 refine SL.val (Val.assign rfl) rfl rfl ?_
 refine SL.eff (Eff.store (L' := ((toldF (ownP om))[t.1]'hlt).abs) tabOk rfl rfl rfl (by repeat first|assumption|exact Upd.here|apply Upd.there) (Pnt.size _) (lb_ (by rfl)) (Pnt.ones _) (by exact putL_whole (Pnt.size _))) rfl rfl ?_
 rintro _ _ ⟨rfl, rfl⟩
 refine SL.nil (SE.seq ?_)
 refine SC.seq ?_
 refine SC.draw [] (.q 0 (.q 1 (.q 2 (.q 3 (.q 4 (.q 5 (.q 6 (.q 7 (.q 8 (.q 9 (.q 10 (.q 11 (.q 12 (.q 13 (.q 14 (.q 15 (.q 16 (.q 17 (.q 18 (.q 19 (.q 20 (.q 21 .nil)))))))))))))))))))))) (by kernel_rfl) (by kernel_rfl) ?_
 refine SX.val rfl (Val.move rfl) (by simp) rfl rfl ?_
 refine SX.val rfl (Val.gtI rfl rfl) (by simp) rfl rfl ?_
 refine SX.val rfl (Val.move rfl) (by simp) rfl rfl ?_
 refine SX.bothP (t := 68) rfl ?_ ?_
 rotate_left
 ·intro hc68
  iterate 9 refine SX.skip rfl rfl rfl ?_
  refine SX.val rfl (Val.pickF rfl rfl) (by simp) rfl rfl ?_
  refine SX.val rfl (Val.move rfl) (by simp) rfl rfl ?_
  refine SX.val rfl (Val.fieldAddr tabOk rfl rfl rfl rfl rfl) (by simp) rfl rfl ?_
  refine SX.hx (by first|(simp[mids,It.mids,ownPc];done)|(intro k hk;simp[mids,It.mids,ownPc] at hk ⊢;grind)) fun hx9 => ?_
  refine SX.val rfl (Val.to (C := .agg (digA ((toldF (ownP om))[t.1]'hlt).dig)) (Val.loadP tabOk rfl rfl rfl (by repeat first|assumption|exact o0_|exact o1_|apply o2_) List.not_mem_nil (by show 1 + 32 ≤ ((toldF (ownP om))[t.1]'hlt).abs.length; rw [Pnt.size]; omega)) (by exact pnt_part _)) hx9 rfl rfl ?_
  refine SX.val rfl (Val.fieldAddr tabOk rfl rfl rfl rfl rfl) (by simp) rfl rfl ?_
  refine SX.val rfl (Val.to (C := int ((toldF (ownP om))[t.1]'hlt).seq) (Val.load1 tabOk rfl rfl (by repeat first|assumption|exact o0_|exact o1_|apply o2_) List.not_mem_nil (by rfl)) rfl) hx9 rfl rfl ?_
  refine SX.val rfl (Val.to (C := .v (bc (b8 ((toldF (ownP om))[t.1]'hlt).seq))) (Val.convW rfl Try.underlying5 (by kernel_rfl)) (congrArg (fun r => Abs.v (.int .u8 r)) (wrap_b8 ((toldF (ownP om))[t.1]'hlt).seq))) hx9 rfl rfl ?_
  refine SX.val rfl (Val.to (C := .agg (digA (oD ((toldF (ownP om))[t.1]'hlt).seq))) (Val.buildA tabOk rfl rfl rfl rfl) (by exact oD_arr _)) hx9 rfl rfl ?_
  refine SX.val rfl ((Val.neA rfl rfl (plains_dig _) (plains_dig _) (by kernel_rfl) (neqD _ _ ((toldF (ownP om))[t.1]'hlt).len (oD_len _) (decide (((toldF (ownP om))[t.1]'hlt).dig ≠ oD ((toldF (ownP om))[t.1]'hlt).seq)) rfl))) hx9 rfl rfl ?_
  refine SX.val rfl (Val.pickF rfl rfl) (by simp) rfl rfl ?_
  refine SX.nil (SE.seq ?_)
  refine SC.condP rfl (by intro hc87; exfalso; exact hc87 ((htl.dig _ (List.getElem_mem hlt)).1)) ?_
  intro hc87
  refine SC.skip ?_
  refine SE.inBlock ?_
  refine SE.seq ?_
  refine SC.region ?_
  first
   | refine SL.val (Val.addI rfl rfl (by simp only [InR, lo, hi]; omega)) rfl rfl ?_
   | refine SL.val (Val.addW rfl rfl) rfl rfl ?_
  refine SL.val (Val.move rfl) rfl rfl ?_
  refine SL.nil ?_
  refine SE.round (t.1 + 1, ()) (by first | omega | (dsimp only; omega)) ((by dsimp only; omega)) (by exact ⟨rfl, rfl, rfl, rfl, rfl, rfl, trivial⟩) (by repeat first|exact s0_ _|exact s1_ _|apply s2_|apply s3_)
 intro hc68
 refine SX.val rfl (Val.move rfl) (by simp) rfl rfl ?_
 refine SX.val rfl (Val.move rfl) (by simp) rfl rfl ?_
 refine SX.hx (by first|(simp[mids,It.mids,ownPc];done)|(intro k hk;simp[mids,It.mids,ownPc] at hk ⊢;grind)) fun hx9 => ?_
 refine SX.val rfl (Val.subI rfl rfl (by simp only [InR, lo, hi]; omega)) hx9 rfl rfl ?_
 refine SX.val rfl (Val.indexSl (q := t.1 - 1) tabOk Try.underlying40 rfl rfl rfl (by omega) (at_map (by omega)) rfl rfl) hx9 rfl rfl ?_
 first
  | refine SX.val rfl (Val.fieldAddr tabOk rfl rfl rfl rfl rfl) (by simp) rfl rfl ?_
  | refine SX.val rfl (Val.fieldAddrR tabOk rfl rfl rfl rfl rfl) (by simp) rfl rfl ?_
 refine SX.val rfl (Val.to (C := int (((toldF (ownP om))[t.1 - 1]'(by omega)).seq)) (Val.load1R tabOk rfl rfl rfl) rfl) hx9 rfl rfl ?_
 refine SX.val rfl (Val.fieldAddr tabOk rfl rfl rfl rfl rfl) (by simp) rfl rfl ?_
 refine SX.val rfl (Val.to (C := int ((toldF (ownP om))[t.1]'hlt).seq) (Val.load1 tabOk rfl rfl (by repeat first|assumption|exact o0_|exact o1_|apply o2_) List.not_mem_nil (by rfl)) rfl) hx9 rfl rfl ?_
 refine SX.val rfl (Val.geI rfl rfl) (by simp) rfl rfl ?_
 refine SX.val rfl (Val.pickT rfl rfl) (by simp) rfl rfl ?_
 refine SX.val rfl (Val.move rfl) (by simp) rfl rfl ?_
 refine SX.bothP (t := 79) rfl (by intro hc79; exfalso; have h9 := List.pairwise_iff_getElem.1 htl.rise (t.1 - 1) t.1 (by omega) hlt (by omega); omega) ?_
 intro hc79
 refine SX.val rfl (Val.fieldAddr tabOk rfl rfl rfl rfl rfl) (by simp) rfl rfl ?_
 refine SX.val rfl (Val.to (C := .agg (digA ((toldF (ownP om))[t.1]'hlt).dig)) (Val.loadP tabOk rfl rfl rfl (by repeat first|assumption|exact o0_|exact o1_|apply o2_) List.not_mem_nil (by show 1 + 32 ≤ ((toldF (ownP om))[t.1]'hlt).abs.length; rw [Pnt.size]; omega)) (by exact pnt_part _)) hx9 rfl rfl ?_
 refine SX.val rfl (Val.fieldAddr tabOk rfl rfl rfl rfl rfl) (by simp) rfl rfl ?_
 refine SX.val rfl (Val.to (C := int ((toldF (ownP om))[t.1]'hlt).seq) (Val.load1 tabOk rfl rfl (by repeat first|assumption|exact o0_|exact o1_|apply o2_) List.not_mem_nil (by rfl)) rfl) hx9 rfl rfl ?_
 refine SX.val rfl (Val.to (C := .v (bc (b8 ((toldF (ownP om))[t.1]'hlt).seq))) (Val.convW rfl Try.underlying5 (by kernel_rfl)) (congrArg (fun r => Abs.v (.int .u8 r)) (wrap_b8 ((toldF (ownP om))[t.1]'hlt).seq))) hx9 rfl rfl ?_
 refine SX.val rfl (Val.to (C := .agg (digA (oD ((toldF (ownP om))[t.1]'hlt).seq))) (Val.buildA tabOk rfl rfl rfl rfl) (by exact oD_arr _)) hx9 rfl rfl ?_
 refine SX.val rfl ((Val.neA rfl rfl (plains_dig _) (plains_dig _) (by kernel_rfl) (neqD _ _ ((toldF (ownP om))[t.1]'hlt).len (oD_len _) (decide (((toldF (ownP om))[t.1]'hlt).dig ≠ oD ((toldF (ownP om))[t.1]'hlt).seq)) rfl))) hx9 rfl rfl ?_
 refine SX.val rfl (Val.pickF rfl rfl) (by simp) rfl rfl ?_
 refine SX.nil (SE.seq ?_)
 refine SC.condP rfl (by intro hc87; exfalso; exact hc87 ((htl.dig _ (List.getElem_mem hlt)).1)) ?_
 intro hc87
 refine SC.skip ?_
 refine SE.inBlock ?_
 refine SE.seq ?_
 refine SC.region ?_
 first
  | refine SL.val (Val.addI rfl rfl (by simp only [InR, lo, hi]; omega)) rfl rfl ?_
  | refine SL.val (Val.addW rfl rfl) rfl rfl ?_
 refine SL.val (Val.move rfl) rfl rfl ?_
 refine SL.nil ?_
 refine SE.round (t.1 + 1, ()) (by first | omega | (dsimp only; omega)) ((by dsimp only; omega)) (by exact ⟨rfl, rfl, rfl, rfl, rfl, rfl, trivial⟩) (by repeat first|exact s0_ _|exact s1_ _|apply s2_|apply s3_)
end
end Go.Proofs.Ytjbikemecdlolaa.A
