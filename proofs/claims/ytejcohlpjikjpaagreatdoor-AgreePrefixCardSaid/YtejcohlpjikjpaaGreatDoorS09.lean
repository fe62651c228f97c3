/-
  Packed out of the texts: AG4, AG5, AG6, CO2, CT1, TM2, TRow, TPar, TDoc, TM5, CT2.
-/
import Derived.Test.YtejcohlpjikjpaaGreatDoorS08
/-
  Agree: whether two agree.
-/
set_option maxRecDepth 100000
set_option linter.unusedSimpArgs false
set_option linter.unusedVariables false
namespace Go.Proofs.YtejcohlpjikjpaaGreatDoor.A
open Go.RowKit

theorem optSome {α : Type} {o : Option α} (h : o.isSome = true) : ∃ v, o = some v := Option.isSome_iff_exists.1 h
theorem optNone {α : Type} {o : Option α} (h : o.isSome = false) : o = none := by simpa using h
/-- What is done of a map's rows, and what is still to come. -/
theorem todo_step {tm : List (Int × (Value × List Dd))} {P : Int × (Value × List Dd) → Prop} {rest : List (Int × Value)} {e : Int × (Value × List Dd)} (hn : (tm.map (·.1)).Nodup) (h : ∀ d ∈ tm, (d.1, d.2.1) ∈ rest ∨ P d) (he : e ∈ tm) (hp : P e) : ∀ d ∈ tm, (d.1, d.2.1) ∈ (rest.filter fun q => decide (q.1 ≠ e.1)) ∨ P d := by
  intro d hd
  by_cases hk : d.1 = e.1
  · obtain rfl : d = e := by
      obtain ⟨i, hi9, rfl⟩ := List.getElem_of_mem hd
      obtain ⟨j, hj, rfl⟩ := List.getElem_of_mem he
      have := (List.getElem_inj (h₀ := by simpa using hi9) (h₁ := by simpa using hj) hn).1 (by simpa using hk)
      simp [this]
    exact .inr hp
  · rcases h d hd with h1 | h1
    · exact .inl (List.mem_filter.2 ⟨h1, by simpa using hk⟩)
    · exact .inr h1
section
variable {a b : List Dd} {l : List (List Dd)}
set_option maxHeartbeats 2000000 in
theorem agree_s (ha : ∀ d ∈ a, DdIns d) (hb : ∀ d ∈ b, DdIns d) (hal : ∀ d ∈ a, d.batch.length ≤ 1000) (hbl : ∀ d ∈ b, d.batch.length ≤ 1000) (han : a.length ≤ 1000) (hbn : b.length ≤ 1000) : Spec Tryz.prog 12 [ddsA a, ddsA b] [] (fun _ : Unit => []) (fun _ => boo (decide (sameD a b))) := by
 refine spec_of Tryz.func12 rfl Tryz.ntmps12 rfl fun G w => ?_
 refine SC.seq (SC.region ?_)
 refine SL.val (Val.assign rfl) rfl rfl ?_
 refine SL.nil (SE.seq ?_)
 refine SC.seq (SC.region ?_)
 refine SL.val (Val.move rfl) rfl rfl ?_
 refine SL.eff (Eff.buildSl tabOk Tryz.underlying22 rfl rfl rfl rfl rfl rfl rfl) rfl rfl ?_
 rintro _ _ ⟨rfl, rfl⟩
 refine SL.call (numbers_s (l := [b]) (by simpa using hb) (by simpa using hbn)) Casts.refl (by kernel_rfl) rfl rfl rfl ?_
 refine After.make2 (by repeat (first | exact Reads.nil | (refine Reads.blk ?_ ?_; focus ((repeat first|assumption|exact m0|apply m1); done)) | (refine Reads.rd ?_ ?_; focus ((repeat first|assumption|exact m0|apply m1); done)) | (refine Reads.pc ?_ ?_; focus ((repeat first|assumption|exact m0|apply m1); done)) | (refine Reads.rdpc ?_ ?_; focus ((repeat first|assumption|exact m0|apply m1); done)))) (fun _ => rfl) ?_
 intro nb
 refine SL.val (Val.assign rfl) rfl rfl ?_
 refine SL.nil (SE.seq ?_)
 refine SC.seq ?_
 refine SC.seq ?_
 have hnb : Num b nb.1.2 := by have h9 := nb.2; simpa using h9
 refine SC.region ?_
 refine SL.val (Val.move rfl) rfl rfl ?_
 refine SL.eff (Eff.buildSl tabOk Tryz.underlying22 rfl rfl rfl rfl rfl rfl rfl) rfl rfl ?_
 rintro _ _ ⟨rfl, rfl⟩
 refine SL.call (numbers_s (l := [a]) (by simpa using ha) (by simpa using han)) Casts.refl (by kernel_rfl) rfl rfl rfl ?_
 refine After.make2 (by repeat (first | exact Reads.nil | (refine Reads.blk ?_ ?_; focus ((repeat first|assumption|exact m0|apply m1); done)) | (refine Reads.rd ?_ ?_; focus ((repeat first|assumption|exact m0|apply m1); done)) | (refine Reads.pc ?_ ?_; focus ((repeat first|assumption|exact m0|apply m1); done)) | (refine Reads.rdpc ?_ ?_; focus ((repeat first|assumption|exact m0|apply m1); done)))) (fun _ => rfl) ?_
 intro na
 refine SL.eff (Eff.rangeMap (K := intK) (V := id) (Good := intOk) (m := rawM na.1.2) Tryz.underlying53 rfl (fun _ => (by repeat first|assumption|exact Upd.here|apply Upd.there))) rfl rfl ?_
 rintro _ _ ⟨r16, rfl, rfl⟩
 refine SL.nil (SE.seq ?_)
 refine SC.block ?_
 have hna : Num a na.1.2 := by have h9 := na.2; simpa using h9
 refine SC.loop (ι := List (Int × Value) × Option (Int × Value)) (fun y => [facts (facM ddsA na.1.2), .pc (rngPc na.1.1 r16 intK id intOk (rawM na.1.2) y.1 y.2), facts (facM ddsA nb.1.2), .pc (mapPc nb.1.1 intK id intOk (rawM nb.1.2))]) (fun y => [(5, mapV nb.1.1), (16, ptr r16)]) (fun y => (∀ p ∈ y.1, p ∈ rawM na.1.2) ∧ (∀ e ∈ na.1.2, (e.1, e.2.1) ∈ y.1 ∨ ∀ x ∈ e.2.2, oneB (x :: rowOf b e.1))) (fun y => y.1.length) (rawM na.1.2, none) (⟨fun p hp => hp, fun e he => .inl (List.mem_map.2 ⟨e, he, rfl⟩)⟩) (by exact ⟨rfl, rfl, trivial⟩) (by repeat first|exact s0 _|exact s1 _|apply s2|apply s3) ?_
 intro y hy
 refine SC.seq (SC.region ?_)
 refine SL.eff (Eff.nextMap (K := intK) (V := id) (Good := intOk) (m := rawM na.1.2) (rest := y.1) (cur := y.2) rfl (fun _ _ => (by repeat first|assumption|exact Upd.here|apply Upd.there))) rfl rfl ?_
 rintro _ _ ⟨o, rest', ho, hpo, rfl, rfl⟩
 refine SL.val (Val.extract rfl rfl) rfl rfl ?_
 refine SL.nil (SE.seq ?_)
 refine SC.seq ?_
 refine SC.cond rfl ?_ ?_
 rotate_left
 ·intro hc18
  have ho2 := optNone hc18
  subst ho2
  have hr0 := ho rfl
  refine SC.exit ?_
  refine SE.then_ nofun ?_
  refine SE.then_ nofun ?_
  refine SE.exit ?_
  refine SE.seq ?_
  refine SC.seq (SC.region ?_)
  refine SL.val (Val.assign rfl) rfl rfl ?_
  refine SL.nil (SE.seq ?_)
  refine SC.ret ?_
  refine SE.fin (rs := [.tmp 4]) rfl (RV.tmp rfl RV.nil) (()) (by repeat first|exact s0 _|exact s1 _|apply s2|apply s3) (by simp [It.rids]) ?_
  refine congrArg (fun b => Abs.v (Value.bool b)) (Eq.symm (decide_eq_true ?_))
  rw [sameD_rows]
  intro x hx h1
  have hxr : x ∈ rowOf a x.seq := rowOf_mem.2 ⟨hx, h1, rfl⟩
  by_cases hk : ∃ e ∈ na.1.2, e.1 = x.seq
  ·obtain ⟨e, he, hk⟩ := hk
   rcases hy.2 e he with h2 | h2
   ·rw [hr0] at h2; cases h2
   ·rw [← hk] at hxr ⊢
    exact h2 x (by rw [hna.entry he]; exact hxr)
  ·rw [hna.none (fun e he h2 => hk ⟨e, he, h2⟩)] at hxr
   cases hxr
 intro hc18
 obtain ⟨p, rfl⟩ := optSome hc18
 obtain ⟨hpm, hre⟩ := hpo p rfl
 subst hre
 have hls := rest_less hpm
 obtain ⟨e, he0, hep⟩ := List.mem_map.1 (hy.1 p hpm)
 subst hep
 have her := hna.entry he0
 have hrb : ∀ d ∈ (rowOf b e.1), DdIns d ∧ d.batch.length ≤ 1000000 := fun d hd => ⟨hb d (rowOf_mem.1 hd).1, by have := hbl d (rowOf_mem.1 hd).1; omega⟩
 have hrl := row_le b e.1
 refine SC.skip ?_
 refine SE.seq ?_
 refine SC.block ?_
 refine SC.seq (SC.region ?_)
 refine SL.val (Val.entryMap rfl (by repeat first|assumption|exact m0|apply m1) ⟨List.not_mem_nil, List.not_mem_nil⟩) rfl rfl ?_
 refine SL.val (Val.to (C := int e.1) (Val.extract rfl rfl) rfl) rfl rfl ?_
 refine SL.val (Val.fact (A := ddsA e.2.2) (u := e.2.1) (L := facM ddsA na.1.2) (Val.extract rfl rfl) (.inl (by repeat first|assumption|exact m0|apply m1)) (List.mem_map.2 ⟨e, he0, rfl⟩)) rfl rfl ?_
 iterate 2 refine SL.val (Val.assign rfl) rfl rfl ?_
 refine SL.nil (SE.seq ?_)
 refine SC.seq (SC.region ?_)
 refine SL.val (Val.move rfl) rfl rfl ?_
 first
  | refine SL.val (Val.lenSl rfl Tryz.underlying24 (List.length_map _)) rfl rfl ?_
  | refine SL.val (Val.lenOwn rfl (by repeat first|assumption|exact m0|apply m1) Tryz.underlying24 (List.length_map _)) rfl rfl ?_
  | refine SL.val (Val.lenNil rfl Tryz.underlying24) rfl rfl ?_
 refine SL.val (Val.move rfl) rfl rfl ?_
 refine SL.nil (SE.seq ?_)
 refine SC.block ?_
 refine SC.rowLe (i := 22) rfl fun hrow => ?_
 rw [List.length_map] at hrow
 unfold maxLen at hrow
 refine SC.loop (ι := Nat) (fun q => [facts (facM ddsA na.1.2), .pc (rngPc na.1.1 r16 intK id intOk (rawM na.1.2) (y.1.filter fun q => decide (q.1 ≠ (e.1, e.2.1).1)) (some (e.1, e.2.1))), facts (facM ddsA nb.1.2), .pc (mapPc nb.1.1 intK id intOk (rawM nb.1.2))]) (fun q => [(5, mapV nb.1.1), (16, ptr r16), (6, int e.1), (22, ddsA e.2.2), (23, int (e.2.2.length : Nat)), (24, int (q : Nat))]) (fun q => q ≤ e.2.2.length ∧ ∀ j (hj : j < e.2.2.length), j < q → oneB (e.2.2[j] :: rowOf b e.1)) (fun q => e.2.2.length - q) (0) (⟨Nat.zero_le _, fun j hj h => by omega⟩) (by exact ⟨rfl, rfl, rfl, rfl, rfl, rfl, trivial⟩) (by repeat first|exact s0 _|exact s1 _|apply s2|apply s3) ?_
 intro q hq
 refine SC.seq (SC.region ?_)
 refine SL.val (Val.ltI rfl rfl) rfl rfl ?_
 refine SL.nil (SE.seq ?_)
 refine SC.seq ?_
 refine SC.condP rfl ?_ ?_
 rotate_left
 ·intro hc25
  refine SC.exit ?_
  refine SE.then_ nofun ?_
  refine SE.then_ nofun ?_
  refine SE.exit ?_
  refine SE.inBlock ?_
  refine SE.round ((y.1.filter fun q => decide (q.1 ≠ (e.1, e.2.1).1)), some (e.1, e.2.1)) (by exact hls) (⟨fun q hq => hy.1 q ((List.mem_filter.1 hq).1), todo_step hna.nd hy.2 he0 (fun x hx => by obtain ⟨j, hj, rfl⟩ := List.getElem_of_mem hx; exact hq.2 j hj (by omega))⟩) (by exact ⟨rfl, rfl, trivial⟩) (by repeat first|exact s0 _|exact s1 _|apply s2|apply s3)
 intro hc25
 have hq2 : q < e.2.2.length := by omega
 have hqm : (e.2.2[q]'hq2) ∈ rowOf a e.1 := her ▸ List.getElem_mem hq2
 have hxq : DdIns (e.2.2[q]'hq2) ∧ (e.2.2[q]'hq2).batch.length ≤ 1000000 := ⟨ha _ (rowOf_mem.1 hqm).1, by have := hal _ (rowOf_mem.1 hqm).1; omega⟩
 refine SC.skip ?_
 refine SE.seq ?_
 refine SC.seq ?_
 refine SC.block ?_
 refine SC.seq (SC.region ?_)
 refine SL.val (Val.indexSl tabOk Tryz.underlying24 rfl rfl rfl rfl (at_map (by omega)) rfl rfl) rfl rfl ?_
 refine SL.val (Val.loadAR tabOk rfl rfl rfl (by rfl)) rfl rfl ?_
 refine SL.eff (Eff.alloc tabOk rfl) rfl rfl ?_
 rintro _ _ ⟨b9, rfl, rfl⟩
 refine SL.eff (Eff.store (L' := (e.2.2[q]'hq2).abs) tabOk rfl rfl rfl (by repeat first|assumption|exact Upd.here|apply Upd.there) rfl (lb_ (by rfl)) rfl (by exact putL_whole rfl)) rfl rfl ?_
 rintro _ _ ⟨rfl, rfl⟩
 refine SL.nil (SE.seq ?_)
 refine SC.seq (SC.region ?_)
 refine SL.val (Val.to (C := .agg (e.2.2[q]'hq2).abs) (Val.loadP tabOk rfl rfl rfl (by repeat first|assumption|exact o0_|exact o1_|apply o2_) List.not_mem_nil (lb_ (by rfl))) rfl) rfl rfl ?_
 refine SL.eff (Eff.buildOwn tabOk Tryz.underlying24 rfl rfl rfl rfl rfl rfl rfl) rfl rfl ?_
 rintro _ _ ⟨r29, rfl, rfl⟩
 iterate 2 refine SL.val (Val.move rfl) rfl rfl ?_
 refine SL.val (Val.to (C := ddsA (rowOf b e.1)) (Val.mapGetT (tm := nb.1.2) (enc := ddsA) (z0 := []) (zv := .slice none 0 0) (L := facM ddsA nb.1.2) (int_fit Tryz.underlying2) Tryz.underlying53 zero_sl (fun _ _ => rep_nil rfl) rfl (by repeat first|assumption|exact o0_|exact o1_|apply o2_) (.inl (by repeat first|assumption|exact m0|apply m1)) (fun _ h => h) List.not_mem_nil rfl is_v (i64_in (hna.ok e he0))) (by rw [hnb.get e.1])) rfl rfl ?_
 refine SL.eff (Eff.appendE (zs := ((e.2.2[q]'hq2) :: (rowOf b e.1)).map Dd.abs) tabOk [] rfl Tryz.underlying24 rfl rfl rfl rfl rfl rfl (dds_ones _) (by unfold maxLen; simp only [List.length_map, List.length_cons, List.length_nil]; omega) (by rw [show Tryz.prog.bytesOf 44 = 40 by kernel_rfl]; simp only [List.length_map, List.length_cons, List.length_nil]; omega)) rfl rfl ?_
 rintro _ _ ⟨r33, rfl, rfl⟩
 refine SL.freeze [] (t := 33) rfl rfl ?_
 refine SL.call (same_s (l := (e.2.2[q]'hq2) :: (rowOf b e.1)) (fun d hd => by rcases List.mem_cons.1 hd with h1 | h1; exact h1 ▸ hxq; exact hrb d h1)) Casts.refl (by kernel_rfl) rfl rfl rfl ?_
 refine ap_ ?_
 intro _
 refine SL.val (Val.notP rfl) rfl rfl ?_
 refine SL.nil (SE.seq ?_)
 refine SC.condP rfl ?_ ?_
 rotate_left
 ·intro hc35
  refine SC.skip ?_
  refine SE.inBlock ?_
  refine SE.seq ?_
  refine SC.region ?_
  first
   | refine SL.val (Val.addI rfl rfl (by simp only [InR, lo, hi]; omega)) rfl rfl ?_
   | refine SL.val (Val.addW rfl rfl) rfl rfl ?_
  refine SL.val (Val.move rfl) rfl rfl ?_
  refine SL.nil ?_
  refine SE.round (q + 1) (by first | omega | (dsimp only; omega)) (⟨by omega, fun j h1 h2 => by rcases Nat.lt_or_ge j q with h3 | h3; exact hq.2 j h1 h3; obtain rfl : j = q := (by omega); simp_all⟩) (by exact ⟨rfl, rfl, rfl, rfl, rfl, rfl, trivial⟩) (by repeat first|exact s0 _|exact s1 _|apply s2|apply s3)
 intro hc35
 refine SC.seq (SC.region ?_)
 refine SL.val (Val.assign rfl) rfl rfl ?_
 refine SL.nil (SE.seq ?_)
 refine SC.ret ?_
 refine SE.ret ?_
 refine SE.then_ nofun ?_
 refine SE.then_ nofun ?_
 refine SE.ret ?_
 refine SE.ret ?_
 refine SE.then_ nofun ?_
 refine SE.ret ?_
 refine SE.then_ nofun ?_
 refine SE.fin (rs := [.tmp 4]) rfl (RV.tmp rfl RV.nil) (()) (by repeat first|exact s0 _|exact s1 _|apply s2|apply s3) (by simp [It.rids]) ?_
 refine boo_dec0 fun h => ?_
 obtain ⟨g1, g2, g3⟩ := rowOf_mem.1 hqm
 have h9 := sameD_rows.1 h _ g1 g2
 rw [g3] at h9
 simp_all
end
end Go.Proofs.YtejcohlpjikjpaaGreatDoor.A
/-
  Agree: what they tell together.
-/
namespace Go.Proofs.YtejcohlpjikjpaaGreatDoor.A
open Go.RowKit

theorem clone_ents_s {xs : List (List Abs)} (h1 : ∀ c ∈ xs, ones c = true) (hn : xs.length ≤ 1000000) : Spec Tryz.prog 29 [.sl 8 xs] [] (fun _ : Unit => []) (fun _ => .sl 8 xs) := by
 refine spec_of Tryz.func29 rfl Tryz.ntmps29 rfl fun G w => ?_
 refine SC.seq (SC.region ?_)
 refine SL.val (Val.assign rfl) rfl rfl ?_
 refine SL.nil (SE.seq ?_)
 refine SC.seq ?_
 refine SC.seq (SC.region ?_)
 refine SL.val (Val.move rfl) rfl rfl ?_
 refine SL.eqNil Tryz.underlying33 rfl rfl rfl ?_
 intro b hb
 refine SL.nil (SE.seq ?_)
 refine SC.cond rfl ?_ ?_
 ·intro hc4
  have hnil : xs = [] := hb hc4
  subst hnil
  refine SC.seq (SC.region ?_)
  refine SL.val (Val.assign rfl) rfl rfl ?_
  refine SL.nil (SE.seq ?_)
  refine SC.ret ?_
  refine SE.then_ nofun ?_
  refine SE.finC (rs := [.tmp 2]) rfl (RV.tmp rfl RV.nil) (Casts.nils (s := 8) Casts.refl) () (by repeat first|exact s0 _|exact s1 _|apply s2|apply s3) (by simp [It.rids]) rfl
 intro hc4
 refine SC.skip ?_
 refine SE.seq ?_
 refine SC.seq (SC.region ?_)
 refine SL.eff (Eff.buildOwn tabOk Tryz.underlying33 rfl rfl rfl rfl rfl rfl rfl) rfl rfl ?_
 rintro _ _ ⟨r5, rfl, rfl⟩
 refine SL.val (Val.move rfl) rfl rfl ?_
 refine SL.eff (Eff.appendE (zs := xs) tabOk [] rfl Tryz.underlying33 rfl rfl rfl rfl rfl rfl h1 (by unfold maxLen; simp only [List.length_nil]; omega) (by rw [show Tryz.prog.bytesOf 51 = 80 by kernel_rfl]; simp only [List.length_nil]; omega)) rfl rfl ?_
 rintro _ _ ⟨r7, rfl, rfl⟩
 refine SL.val (Val.assign rfl) rfl rfl ?_
 refine SL.nil (SE.seq ?_)
 refine SC.ret ?_
 refine SE.freeze [] (t := 2) rfl rfl ?_
 refine SE.fin (rs := [.tmp 2]) rfl (RV.tmp rfl RV.nil) (()) (by repeat first|exact s0 _|exact s1 _|apply s2|apply s3) (by simp [It.rids]) ?_
 exact rfl
theorem ents_ones (l : List Ent) : ∀ c ∈ l.map entA, ones c = true := by
  intro c hc
  obtain ⟨o, _, rfl⟩ := List.mem_map.1 hc
  rfl
section
variable {a b : List Dd} {l : List (List Dd)}
set_option maxHeartbeats 2000000 in
theorem merge_s (hi9 : ∀ d ∈ l.flatten, DdIns d) (hbl : ∀ d ∈ l.flatten, d.batch.length ≤ 1000) (hn : l.flatten.length ≤ 1000) : Spec Tryz.prog 14 [ddssA l] [] (fun _ : Unit => []) (fun _ => .tup [histA (mergeF l).1, boo (mergeF l).2]) := by
 refine spec_of Tryz.func14 rfl Tryz.ntmps14 rfl fun G w => ?_
 refine SC.seq (SC.region ?_)
 iterate 2 refine SL.val (Val.assign rfl) rfl rfl ?_
 refine SL.nil (SE.seq ?_)
 refine SC.seq (SC.region ?_)
 refine SL.val (Val.move rfl) rfl rfl ?_
 refine SL.call (numbers_s (l := l) hi9 hn) Casts.refl (by kernel_rfl) rfl rfl rfl ?_
 refine After.make2 (by repeat (first | exact Reads.nil | (refine Reads.blk ?_ ?_; focus ((repeat first|assumption|exact m0|apply m1); done)) | (refine Reads.rd ?_ ?_; focus ((repeat first|assumption|exact m0|apply m1); done)) | (refine Reads.pc ?_ ?_; focus ((repeat first|assumption|exact m0|apply m1); done)) | (refine Reads.rdpc ?_ ?_; focus ((repeat first|assumption|exact m0|apply m1); done)))) (fun _ => rfl) ?_
 intro nl
 refine SL.val (Val.assign rfl) rfl rfl ?_
 refine SL.nil (SE.seq ?_)
 refine SC.seq ?_
 refine SC.seq (SC.region ?_)
 refine SL.val (Val.move rfl) rfl rfl ?_
 refine SL.eff (Eff.rangeMap (K := intK) (V := id) (Good := intOk) (m := rawM nl.1.2) Tryz.underlying53 rfl (fun _ => (by repeat first|assumption|exact Upd.here|apply Upd.there))) rfl rfl ?_
 rintro _ _ ⟨r12, rfl, rfl⟩
 refine SL.nil (SE.seq ?_)
 refine SC.block ?_
 refine SC.loop (ι := List (Int × Value) × Option (Int × Value)) (fun y => [facts (facM ddsA nl.1.2), .pc (rngPc nl.1.1 r12 intK id intOk (rawM nl.1.2) y.1 y.2)]) (fun y => [(4, mapV nl.1.1), (12, ptr r12)]) (fun y => (∀ p ∈ y.1, p ∈ rawM nl.1.2) ∧ (∀ e ∈ nl.1.2, (e.1, e.2.1) ∈ y.1 ∨ oneB e.2.2)) (fun y => y.1.length) (rawM nl.1.2, none) (⟨fun p hp => hp, fun e he => .inl (List.mem_map.2 ⟨e, he, rfl⟩)⟩) (by exact ⟨rfl, rfl, trivial⟩) (by repeat first|exact s0 _|exact s1 _|apply s2|apply s3) ?_
 intro y hy
 refine SC.seq (SC.region ?_)
 refine SL.eff (Eff.nextMap (K := intK) (V := id) (Good := intOk) (m := rawM nl.1.2) (rest := y.1) (cur := y.2) rfl (fun _ _ => (by repeat first|assumption|exact Upd.here|apply Upd.there))) rfl rfl ?_
 rintro _ _ ⟨o, rest', ho, hpo, rfl, rfl⟩
 refine SL.val (Val.extract rfl rfl) rfl rfl ?_
 refine SL.nil (SE.seq ?_)
 refine SC.seq ?_
 refine SC.cond rfl ?_ ?_
 ·intro hc14
  obtain ⟨p, rfl⟩ := optSome hc14
  obtain ⟨hpm, hre⟩ := hpo p rfl
  subst hre
  have hls := rest_less hpm
  obtain ⟨e, he0, hep⟩ := List.mem_map.1 (hy.1 p hpm)
  subst hep
  refine SC.skip ?_
  refine SE.seq ?_
  refine SC.block ?_
  refine SC.seq (SC.region ?_)
  refine SL.val (Val.entryMap rfl (by repeat first|assumption|exact m0|apply m1) ⟨List.not_mem_nil, List.not_mem_nil⟩) rfl rfl ?_
  refine SL.val (Val.fact (A := ddsA e.2.2) (u := e.2.1) (L := facM ddsA nl.1.2) (Val.extract rfl rfl) (.inl (by repeat first|assumption|exact m0|apply m1)) (List.mem_map.2 ⟨e, he0, rfl⟩)) rfl rfl ?_
  refine SL.val (Val.assign rfl) rfl rfl ?_
  refine SL.nil (SE.seq ?_)
  refine SC.seq (SC.region ?_)
  refine SL.val (Val.move rfl) rfl rfl ?_
  refine SL.call (same_s (l := e.2.2) (fun d hd => by rw [nl.2.entry he0] at hd; exact ⟨hi9 d (rowOf_mem.1 hd).1, by have := hbl d (rowOf_mem.1 hd).1; omega⟩)) Casts.refl (by kernel_rfl) rfl rfl rfl ?_
  refine ap_ ?_
  intro _
  refine SL.val (Val.notP rfl) rfl rfl ?_
  refine SL.nil (SE.seq ?_)
  refine SC.condP rfl ?_ ?_
  rotate_left
  ·intro hc19
   refine SC.skip ?_
   refine SE.inBlock ?_
   refine SE.round ((y.1.filter fun q => decide (q.1 ≠ (e.1, e.2.1).1)), some (e.1, e.2.1)) (by exact hls) (⟨fun q hq => hy.1 q ((List.mem_filter.1 hq).1), todo_step (P := fun e => oneB e.2.2) nl.2.nd hy.2 he0 (by simpa using hc19)⟩) (by exact ⟨rfl, rfl, trivial⟩) (by repeat first|exact s0 _|exact s1 _|apply s2|apply s3)
  intro hc19
  refine SC.seq (SC.region ?_)
  iterate 2 refine SL.val (Val.assign rfl) rfl rfl ?_
  refine SL.nil (SE.seq ?_)
  refine SC.ret ?_
  refine SE.ret ?_
  refine SE.then_ nofun ?_
  refine SE.ret ?_
  refine SE.then_ nofun ?_
  refine SE.finC (rs := [.tmp 2, .tmp 3]) rfl (RV.tmp rfl (RV.tmp rfl RV.nil)) (Casts.nils (s := 1) Casts.refl) (()) (by repeat first|exact s0 _|exact s1 _|apply s2|apply s3) (by simp [It.rids]) ?_
  rw [show mergeF l = ([], false) from if_neg (fun h => by have h9 := allSame_rows.1 h e.1; rw [← nl.2.entry he0] at h9; simp_all)]
  rfl
 intro hc14
 have ho2 := optNone hc14
 subst ho2
 have hr0 := ho rfl
 have hall : allSame l := by
  rw [allSame_rows]
  intro k
  by_cases hk : ∃ e ∈ nl.1.2, e.1 = k
  ·obtain ⟨e, he, rfl⟩ := hk
   rw [← nl.2.entry he]
   rcases hy.2 e he with h2 | h2
   ·rw [hr0] at h2; cases h2
   ·exact h2
  ·rw [nl.2.none (fun e he h2 => hk ⟨e, he, h2⟩)]
   exact fun x hx => by cases hx
 refine SC.exit ?_
 refine SE.then_ nofun ?_
 refine SE.then_ nofun ?_
 refine SE.exit ?_
 refine SE.seq ?_
 refine SC.seq (SC.region ?_)
 refine SL.val (Val.assign rfl) rfl rfl ?_
 refine SL.nil (SE.seq ?_)
 refine SC.seq ?_
 refine SC.seq (SC.region ?_)
 refine SL.val (Val.assign rfl) rfl rfl ?_
 refine SL.nil (SE.seq ?_)
 refine SC.block ?_
 refine SC.rngDone (by repeat first|assumption|exact Upd.here|apply Upd.there) ?_
 refine SC.own0 33 1 ?_
 refine SC.loop (ι := List (List Ent) × Value) (fun u => [own 33 1 u.2 ((u.1).map fun b => [entsR b]), facts (facM ddsA nl.1.2), .pc (mapPc nl.1.1 intK id intOk (rawM nl.1.2))]) (fun u => [(4, mapV nl.1.1), (7, .v u.2), (8, int ((u.1.length : Int) + 1))]) (fun u => HistUp l.flatten u.1) (fun u => l.flatten.length + 1 - u.1.length) ([], .slice none 0 0) (HistUp.nil) (by exact ⟨rfl, rfl, rfl, trivial⟩) (by repeat first|exact s0 _|exact s1 _|apply s2|apply s3) ?_
 intro u hu
 refine SC.seq ?_
 refine SC.seq ?_
 have hul := hu.le
 refine SC.region ?_
 iterate 2 refine SL.val (Val.move rfl) rfl rfl ?_
 refine SL.val (Val.to (C := ddsA (rowOf l.flatten ((u.1.length : Int) + 1))) (Val.mapGetT (a := ((u.1.length : Int) + 1)) (tm := nl.1.2) (enc := ddsA) (z0 := []) (zv := .slice none 0 0) (L := facM ddsA nl.1.2) (int_fit Tryz.underlying2) Tryz.underlying53 zero_sl (fun _ _ => rep_nil rfl) rfl (by repeat first|assumption|exact o0_|exact o1_|apply o2_) (.inl (by repeat first|assumption|exact m0|apply m1)) (fun _ h => h) List.not_mem_nil rfl is_v (i64_in (show i64ok _ by unfold i64ok; omega))) (by rw [nl.2.get ((u.1.length : Int) + 1)])) rfl rfl ?_
 refine SL.val (Val.to (C := int ((rowOf l.flatten ((u.1.length : Int) + 1)).length : Nat)) (Val.lenSl (m := (rowOf l.flatten ((u.1.length : Int) + 1)).length) rfl Tryz.underlying24 (List.length_map _)) rfl) rfl rfl ?_
 refine SL.val (Val.gtI rfl rfl) rfl rfl ?_
 refine SL.nil (SE.seq ?_)
 refine SC.condP rfl ?_ ?_
 rotate_left
 ·intro hc24
  have hre : (rowOf l.flatten ((u.1.length : Int) + 1)) = [] := List.length_eq_zero_iff.1 (by omega)
  have hdo := hu.done hre
  refine SC.exit ?_
  refine SE.then_ nofun ?_
  refine SE.then_ nofun ?_
  refine SE.exit ?_
  refine SE.seq ?_
  refine SC.seq (SC.region ?_)
  refine SL.val (Val.move rfl) rfl rfl ?_
  iterate 2 refine SL.val (Val.assign rfl) rfl rfl ?_
  refine SL.nil (SE.seq ?_)
  refine SC.ret ?_
  refine SE.freeze [] (t := 2) rfl rfl ?_
  refine SE.fin (rs := [.tmp 2, .tmp 3]) rfl (RV.tmp rfl (RV.tmp rfl RV.nil)) (()) (by repeat first|exact s0 _|exact s1 _|apply s2|apply s3) (by simp [It.rids]) ?_
  rw [show mergeF l = (histF l.flatten, true) from if_pos hall, ← hdo]
  rfl
 intro hc24
 obtain ⟨d, hd⟩ : ∃ d, (rowOf l.flatten ((u.1.length : Int) + 1)).head? = some d := by
  cases hh : (rowOf l.flatten ((u.1.length : Int) + 1)).head? with
  | some d => exact ⟨d, rfl⟩
  | none =>
   rw [List.head?_eq_none_iff] at hh
   rw [hh] at hc24
   exact absurd hc24 (by decide)
 have hdm : d ∈ l.flatten := (rowOf_mem.1 (List.mem_of_mem_head? hd)).1
 have hmo := hu.more hd
 have hml := hmo.le
 rw [List.length_append, List.length_singleton] at hml
 refine SC.skip ?_
 refine SE.seq ?_
 refine SC.seq ?_
 refine SC.block ?_
 refine SC.region ?_
 iterate 3 refine SL.val (Val.move rfl) rfl rfl ?_
 refine SL.val (Val.to (C := ddsA (rowOf l.flatten ((u.1.length : Int) + 1))) (Val.mapGetT (a := ((u.1.length : Int) + 1)) (tm := nl.1.2) (enc := ddsA) (z0 := []) (zv := .slice none 0 0) (L := facM ddsA nl.1.2) (int_fit Tryz.underlying2) Tryz.underlying53 zero_sl (fun _ _ => rep_nil rfl) rfl (by repeat first|assumption|exact o0_|exact o1_|apply o2_) (.inl (by repeat first|assumption|exact m0|apply m1)) (fun _ h => h) List.not_mem_nil rfl is_v (i64_in (show i64ok _ by unfold i64ok; omega))) (by rw [nl.2.get ((u.1.length : Int) + 1)])) rfl rfl ?_
 refine SL.val (Val.indexSl (q := 0) (cs := d.abs) tabOk Tryz.underlying24 rfl rfl rfl rfl (by rw [List.getElem?_map, ← List.head?_eq_getElem?, hd]; rfl) rfl rfl) rfl rfl ?_
 first
  | refine SL.val (Val.fieldAddr tabOk rfl rfl rfl rfl rfl) rfl rfl ?_
  | refine SL.val (Val.fieldAddrR tabOk rfl rfl rfl rfl rfl) rfl rfl ?_
 refine SL.val (Val.to (C := entsR d.batch) (Val.load1R tabOk rfl rfl rfl) rfl) rfl rfl ?_
 refine SL.call (clone_ents_s (ents_ones d.batch) (by rw [List.length_map]; have := hbl d hdm; omega)) Casts.refl (by kernel_rfl) rfl rfl rfl ?_
 refine ap_ ?_
 intro _
 refine SL.eff (Eff.buildSl tabOk Tryz.underlying26 rfl rfl rfl rfl rfl rfl rfl) rfl rfl ?_
 rintro _ _ ⟨rfl, rfl⟩
 refine SL.eff (Eff.appendE (zs := (u.1 ++ [d.batch]).map fun b => [entsR b]) tabOk [] (by simp only [List.map_append]; rfl) Tryz.underlying26 rfl rfl rfl rfl rfl rfl (by intro c hc; rw [List.mem_singleton] at hc; subst hc; rfl) (by unfold maxLen; simp only [List.length_map, List.length_append, List.length_cons, List.length_nil]; omega) (by rw [show Tryz.prog.bytesOf 33 = 24 by kernel_rfl]; simp only [List.length_map, List.length_append, List.length_cons, List.length_nil]; omega)) rfl rfl ?_
 rintro _ _ ⟨r36, rfl, rfl⟩
 refine SL.val (Val.assign rfl) rfl rfl ?_
 refine SL.nil ?_
 refine SE.inBlock ?_
 refine SE.seq ?_
 refine SC.region ?_
 refine SL.val (Val.move rfl) rfl rfl ?_
 refine SL.val (Val.to (C := int (((u.1 ++ [d.batch]).length : Int) + 1)) (Val.addI rfl rfl (by simp only [InR, lo, hi]; omega)) (by refine congrArg int ?_; simp)) rfl rfl ?_
 refine SL.val (Val.assign rfl) rfl rfl ?_
 refine SL.nil ?_
 refine SE.round (u.1 ++ [d.batch], r36) (by simp only [List.length_append, List.length_singleton]; omega) (hmo) (by exact ⟨rfl, rfl, rfl, trivial⟩) (by repeat first|exact s0 _|exact s1 _|apply s2|apply s3)
end
end Go.Proofs.YtejcohlpjikjpaaGreatDoor.A
/-
  Agree: what they tell together, the document's.
-/
namespace Go.Proofs.YtejcohlpjikjpaaGreatDoor.A
open Go.RowKit

/-- One pass of the document's. -/
structure Pass (D D' : List Dd) (n : Nat) (H : List (List Ent)) (g : Bool) : Prop where
  up : HistUp D H
  len : H.length = n + (if g = true then 1 else 0)
  non : g = false → rowOf D' ((H.length : Int) + 1) = []
theorem Pass.hit {D D' R : List Dd} {n : Nat} {H : List (List Ent)} {d : Dd} (h : Pass D D' n H false) (hD : D = D' ++ d :: R) (h1 : d.adopted = false) (h2 : d.seq = (H.length : Int) + 1) : Pass D (D' ++ [d]) n (H ++ [d.batch]) true := by
  refine ⟨h.up.more (d := d) ?_, ?_, fun h => by cases h⟩
  · rw [hD, rowOf_app, h.non rfl, List.nil_append]
    unfold rowOf
    rw [List.filter_cons_of_pos (by simp [h1, h2])]
    rfl
  · have := h.len
    rw [List.length_append, List.length_singleton, this]
    rfl
section
variable {a b : List Dd} {l : List (List Dd)}
end
end Go.Proofs.YtejcohlpjikjpaaGreatDoor.A
/-
  Ledgers: what is found, and put in.
-/
namespace Go.Proofs.YtejcohlpjikjpaaGreatDoor.A
open Go.RowKit

def Oc.zero : Oc := ⟨0, 0, 0⟩
theorem place_find {α : Type} {eq gt : α → Bool} {xs : List α} (h : (placeG eq gt xs).2 = true) : ∃ h2 : (placeG eq gt xs).1 < xs.length, xs.find? eq = some (xs[(placeG eq gt xs).1]'h2) := by
  have ha : xs.any eq = true := by
    unfold placeG at h
    split at h
    · assumption
    · cases h
  have hp : placeG eq gt xs = (xs.findIdx eq, true) := if_pos ha
  refine ⟨by rw [hp]; exact findIdx_in ha, ?_⟩
  rw [find_at ha]
  simp only [hp]
theorem place_none {α : Type} {eq gt : α → Bool} {xs : List α} (h : ¬ (placeG eq gt xs).2 = true) : xs.find? eq = none := by
  refine find_none fun ha => h ?_
  unfold placeG
  rw [if_pos ha]
/-- Lists that are not too long. -/
structure Lg.Few (l : Lg) : Prop where
  ls : l.ls.length ≤ 1000
  os : l.os.length ≤ 1000
section
variable {l : Lg} {x : Ltr} {o : Oc} {k n : Int} {s : ByteArray} {c : Core} {e : Ent} {p : Nat}
theorem lcopied_s (hf : l.Few) : Spec Tryz.prog 64 [.agg l.abs] [] (fun _ : Unit => []) (fun _ => .agg l.abs) := by
 have hf1 := hf.ls
 have hf2 := hf.os
 refine spec_of Tryz.func64 rfl Tryz.ntmps64 rfl fun G w => ?_
 refine SC.seq (SC.region ?_)
 refine SL.eff (Eff.boxA (cs := l.abs) rfl) rfl rfl ?_
 rintro _ _ ⟨b1, rfl, rfl⟩
 refine SL.eff (Eff.alloc tabOk rfl) rfl rfl ?_
 rintro _ _ ⟨b2, rfl, rfl⟩
 refine SL.nil (SE.seq ?_)
 refine SC.seq ?_
 refine SC.drawS 7 [] (.q 0 (.q 1 (.q 3 (.q 4 (.e 2 (.q 6 (.e 5 .nil))))))) (.e 7 (.q 8 (.e 9 .nil))) (by kernel_rfl) (by kernel_rfl) ?_
 refine SX.val rfl (Val.fieldAddr tabOk rfl rfl rfl rfl rfl) (by simp) rfl rfl ?_
 refine SX.hx (by first|(simp[mids,It.mids,ownPc];done)|(intro k hk;simp[mids,It.mids,ownPc] at hk ⊢;grind)) fun hx9 => ?_
 refine SX.val rfl (Val.to (C := ltrsA l.ls) (Val.load1 tabOk rfl rfl (by repeat first|assumption|exact o0_|exact o1_|apply o2_) List.not_mem_nil (by rfl)) rfl) hx9 rfl rfl ?_
 refine SX.val rfl (Val.fieldAddr tabOk rfl rfl rfl rfl rfl) (by simp) rfl rfl ?_
 refine SX.val rfl (Val.to (C := .sl 3 (l.os.map Oc.abs)) (Val.load1 tabOk rfl rfl (by repeat first|assumption|exact o0_|exact o1_|apply o2_) List.not_mem_nil (by rfl)) rfl) hx9 rfl rfl ?_
 refine SX.call rfl (clone_ltr_s (ltrs_ones l.ls) (by rw [List.length_map]; omega)) (by simp [mids, It.mids]) Casts.refl (by kernel_rfl) rfl rfl rfl ?_
 refine ap_ ?_
 intro _
 refine SX.val rfl (Val.fieldAddr tabOk rfl rfl rfl rfl rfl) (by simp) rfl rfl ?_
 refine SX.call rfl (clone_oc_s (ocs_ones l.os) (by rw [List.length_map]; omega)) (by simp [mids, It.mids]) Casts.refl (by kernel_rfl) rfl rfl rfl ?_
 refine ap_ ?_
 intro _
 refine SX.nil ?_
 refine SE.rest [b1] ?_
 refine SX.eff rfl (Eff.store (L' := l.abs) tabOk rfl rfl rfl (by repeat first|assumption|exact Upd.here|apply Upd.there) rfl (lb_ (by rfl)) rfl (by rfl)) (by simp) rfl rfl ?_
 rintro _ _ ⟨rfl, rfl⟩
 refine SX.hx (by first|(simp[mids,It.mids,ownPc];done)|(intro k hk;simp[mids,It.mids,ownPc] at hk ⊢;grind)) fun hx9 => ?_
 refine SX.val rfl (Val.fieldAddr tabOk rfl rfl rfl rfl rfl) hx9 rfl rfl ?_
 refine SX.eff rfl (Eff.store (L' := l.abs) tabOk rfl rfl rfl (by repeat first|assumption|exact Upd.here|apply Upd.there) rfl (lb_ (by rfl)) rfl (by rfl)) (by simp) rfl rfl ?_
 rintro _ _ ⟨rfl, rfl⟩
 refine SX.nil (SE.seq ?_)
 refine SC.seq (SC.region ?_)
 first
  | refine SL.val (Val.loadA tabOk rfl rfl rfl (by repeat first|assumption|exact o0_|exact o1_|apply o2_) List.not_mem_nil (by rfl)) rfl rfl ?_
  | refine SL.val (Val.loadP tabOk rfl rfl rfl (by repeat first|assumption|exact o0_|exact o1_|apply o2_) List.not_mem_nil (lb_ (by rfl))) rfl rfl ?_
 refine SL.eff (Eff.store (L' := l.abs) tabOk rfl rfl rfl (by repeat first|assumption|exact Upd.here|apply Upd.there) rfl (lb_ (by rfl)) rfl (by exact putL_whole rfl)) rfl rfl ?_
 rintro _ _ ⟨rfl, rfl⟩
 refine SL.nil (SE.seq ?_)
 refine SC.ret ?_
 refine SE.fin (rs := [.cell 2 66]) rfl (RV.cell rfl (RV.cellA tabOk rfl rfl (by repeat first|assumption|exact o0_|exact o1_|apply o2_) (by rfl)) RV.nil) (()) (by repeat first|exact s0 _|exact s1 _|apply s2|apply s3) (by simp [It.rids]) ?_
 exact rfl
theorem llast_s (hf : l.Few) : Spec Tryz.prog 56 [.agg l.abs, int k] [] (fun _ : Unit => []) (fun _ => .tup [.agg (Oc.abs ((l.last k).getD Oc.zero)), boo (l.last k).isSome]) := by
 have hf1 := hf.ls
 have hf2 := hf.os
 refine spec_of Tryz.func56 rfl Tryz.ntmps56 rfl fun G w => ?_
 refine SC.seq (SC.region ?_)
 refine SL.eff (Eff.boxA (cs := l.abs) rfl) rfl rfl ?_
 rintro _ _ ⟨b2, rfl, rfl⟩
 refine SL.eff (Eff.alloc tabOk rfl) rfl rfl ?_
 rintro _ _ ⟨b4, rfl, rfl⟩
 refine SL.val (Val.assign rfl) rfl rfl ?_
 refine SL.nil (SE.seq ?_)
 refine SC.seq (SC.region ?_)
 refine SL.val (Val.fieldAddr tabOk rfl rfl rfl rfl rfl) rfl rfl ?_
 refine SL.val (Val.to (C := .sl 3 (l.os.map Oc.abs)) (Val.load1 tabOk rfl rfl (by repeat first|assumption|exact o0_|exact o1_|apply o2_) List.not_mem_nil (by rfl)) rfl) rfl rfl ?_
 refine SL.val (Val.move rfl) rfl rfl ?_
 refine SL.call (place_oc (xs := l.os) (k := k) (by omega)) Casts.refl (by kernel_rfl) rfl rfl rfl ?_
 refine ap_ ?_
 intro _
 refine SL.val (Val.move rfl) rfl rfl ?_
 refine SL.val (Val.extract rfl rfl) rfl rfl ?_
 refine SL.val (Val.extract rfl rfl) rfl rfl ?_
 iterate 2 refine SL.val (Val.assign rfl) rfl rfl ?_
 refine SL.nil (SE.seq ?_)
 refine SC.seq ?_
 refine SC.seq (SC.region ?_)
 refine SL.val (Val.move rfl) rfl rfl ?_
 refine SL.val (Val.notB rfl) rfl rfl ?_
 refine SL.nil (SE.seq ?_)
 refine SC.cond rfl ?_ ?_
 ·intro hc16
  have hnp : ¬ (placeG (eqO k) (gtO k) l.os).2 = true := by simpa using hc16
  have hfn := place_none hnp
  refine SC.seq (SC.region ?_)
  refine SL.val (Val.buildS tabOk rfl rfl rfl rfl) rfl rfl ?_
  refine SL.eff (Eff.store (L' := Oc.abs Oc.zero) tabOk rfl rfl rfl (by repeat first|assumption|exact Upd.here|apply Upd.there) rfl (lb_ (by rfl)) rfl (by exact putL_whole rfl)) rfl rfl ?_
  rintro _ _ ⟨rfl, rfl⟩
  refine SL.val (Val.assign rfl) rfl rfl ?_
  refine SL.nil (SE.seq ?_)
  refine SC.ret ?_
  refine SE.then_ nofun ?_
  refine SE.fin (rs := [.cell 4 76, .tmp 5]) rfl (RV.cell rfl (RV.cellA tabOk rfl rfl (by repeat first|assumption|exact o0_|exact o1_|apply o2_) (by rfl)) (RV.tmp rfl RV.nil)) (()) (by repeat first|exact s0 _|exact s1 _|apply s2|apply s3) (by simp [It.rids]) ?_
  unfold Lg.last
  rw [hfn]
  rfl
 intro hc16
 obtain ⟨hlt, hfs⟩ := place_find (show (placeG (eqO k) (gtO k) l.os).2 = true by simpa using hc16)
 refine SC.skip ?_
 refine SE.seq ?_
 refine SC.seq (SC.region ?_)
 refine SL.val (Val.fieldAddr tabOk rfl rfl rfl rfl rfl) rfl rfl ?_
 refine SL.val (Val.to (C := .sl 3 (l.os.map Oc.abs)) (Val.load1 tabOk rfl rfl (by repeat first|assumption|exact o0_|exact o1_|apply o2_) List.not_mem_nil (by rfl)) rfl) rfl rfl ?_
 refine SL.val (Val.move rfl) rfl rfl ?_
 refine SL.val (Val.indexSl (q := (placeG (eqO k) (gtO k) l.os).1) tabOk Tryz.underlying64 rfl rfl rfl rfl (at_map hlt) rfl rfl) rfl rfl ?_
 refine SL.val (Val.loadAR tabOk rfl rfl rfl (by rfl)) rfl rfl ?_
 refine SL.eff (Eff.store (L' := Oc.abs (l.os[(placeG (eqO k) (gtO k) l.os).1]'hlt)) tabOk rfl rfl rfl (by repeat first|assumption|exact Upd.here|apply Upd.there) rfl (lb_ (by rfl)) rfl (by exact putL_whole rfl)) rfl rfl ?_
 rintro _ _ ⟨rfl, rfl⟩
 refine SL.val (Val.assign rfl) rfl rfl ?_
 refine SL.nil (SE.seq ?_)
 refine SC.ret ?_
 refine SE.fin (rs := [.cell 4 76, .tmp 5]) rfl (RV.cell rfl (RV.cellA tabOk rfl rfl (by repeat first|assumption|exact o0_|exact o1_|apply o2_) (by rfl)) (RV.tmp rfl RV.nil)) (()) (by repeat first|exact s0 _|exact s1 _|apply s2|apply s3) (by simp [It.rids]) ?_
 unfold Lg.last
 rw [hfs]
 rfl
theorem lfind_s (hf : l.Few) : Spec Tryz.prog 58 [.agg l.abs, st s] [] (fun _ : Unit => []) (fun _ => .tup [.agg (ltrA ((l.find s).getD Ltr.none)), boo (l.find s).isSome]) := by
 have hf1 := hf.ls
 have hf2 := hf.os
 refine spec_of Tryz.func58 rfl Tryz.ntmps58 rfl fun G w => ?_
 refine SC.seq (SC.region ?_)
 refine SL.eff (Eff.boxA (cs := l.abs) rfl) rfl rfl ?_
 rintro _ _ ⟨b2, rfl, rfl⟩
 refine SL.eff (Eff.alloc tabOk rfl) rfl rfl ?_
 rintro _ _ ⟨b4, rfl, rfl⟩
 refine SL.val (Val.assign rfl) rfl rfl ?_
 refine SL.nil (SE.seq ?_)
 refine SC.seq (SC.region ?_)
 refine SL.val (Val.fieldAddr tabOk rfl rfl rfl rfl rfl) rfl rfl ?_
 refine SL.val (Val.to (C := .sl 6 (l.ls.map ltrA)) (Val.load1 tabOk rfl rfl (by repeat first|assumption|exact o0_|exact o1_|apply o2_) List.not_mem_nil (by rfl)) rfl) rfl rfl ?_
 refine SL.val (Val.move rfl) rfl rfl ?_
 refine SL.call (place_ltr (xs := l.ls) (k := s) (by omega)) Casts.refl (by kernel_rfl) rfl rfl rfl ?_
 refine ap_ ?_
 intro _
 refine SL.val (Val.move rfl) rfl rfl ?_
 refine SL.val (Val.extract rfl rfl) rfl rfl ?_
 refine SL.val (Val.extract rfl rfl) rfl rfl ?_
 iterate 2 refine SL.val (Val.assign rfl) rfl rfl ?_
 refine SL.nil (SE.seq ?_)
 refine SC.seq ?_
 refine SC.seq (SC.region ?_)
 refine SL.val (Val.move rfl) rfl rfl ?_
 refine SL.val (Val.notB rfl) rfl rfl ?_
 refine SL.nil (SE.seq ?_)
 refine SC.cond rfl ?_ ?_
 ·intro hc16
  have hnp : ¬ (placeG (eqL s) (gtL s) l.ls).2 = true := by simpa using hc16
  have hfn := place_none hnp
  refine SC.seq (SC.region ?_)
  refine SL.val (Val.buildS tabOk rfl rfl rfl rfl) rfl rfl ?_
  refine SL.eff (Eff.store (L' := ltrA Ltr.none) tabOk rfl rfl rfl (by repeat first|assumption|exact Upd.here|apply Upd.there) rfl (lb_ (by rfl)) rfl (by exact putL_whole rfl)) rfl rfl ?_
  rintro _ _ ⟨rfl, rfl⟩
  refine SL.val (Val.assign rfl) rfl rfl ?_
  refine SL.nil (SE.seq ?_)
  refine SC.ret ?_
  refine SE.then_ nofun ?_
  refine SE.fin (rs := [.cell 4 74, .tmp 5]) rfl (RV.cell rfl (RV.cellA tabOk rfl rfl (by repeat first|assumption|exact o0_|exact o1_|apply o2_) (by rfl)) (RV.tmp rfl RV.nil)) (()) (by repeat first|exact s0 _|exact s1 _|apply s2|apply s3) (by simp [It.rids]) ?_
  unfold Lg.find
  rw [hfn]
  rfl
 intro hc16
 obtain ⟨hlt, hfs⟩ := place_find (show (placeG (eqL s) (gtL s) l.ls).2 = true by simpa using hc16)
 refine SC.skip ?_
 refine SE.seq ?_
 refine SC.seq (SC.region ?_)
 refine SL.val (Val.fieldAddr tabOk rfl rfl rfl rfl rfl) rfl rfl ?_
 refine SL.val (Val.to (C := .sl 6 (l.ls.map ltrA)) (Val.load1 tabOk rfl rfl (by repeat first|assumption|exact o0_|exact o1_|apply o2_) List.not_mem_nil (by rfl)) rfl) rfl rfl ?_
 refine SL.val (Val.move rfl) rfl rfl ?_
 refine SL.val (Val.indexSl (q := (placeG (eqL s) (gtL s) l.ls).1) tabOk Tryz.underlying63 rfl rfl rfl rfl (at_map hlt) rfl rfl) rfl rfl ?_
 refine SL.val (Val.loadAR tabOk rfl rfl rfl (by rfl)) rfl rfl ?_
 refine SL.eff (Eff.store (L' := ltrA (l.ls[(placeG (eqL s) (gtL s) l.ls).1]'hlt)) tabOk rfl rfl rfl (by repeat first|assumption|exact Upd.here|apply Upd.there) rfl (lb_ (by rfl)) rfl (by exact putL_whole rfl)) rfl rfl ?_
 rintro _ _ ⟨rfl, rfl⟩
 refine SL.val (Val.assign rfl) rfl rfl ?_
 refine SL.nil (SE.seq ?_)
 refine SC.ret ?_
 refine SE.fin (rs := [.cell 4 74, .tmp 5]) rfl (RV.cell rfl (RV.cellA tabOk rfl rfl (by repeat first|assumption|exact o0_|exact o1_|apply o2_) (by rfl)) (RV.tmp rfl RV.nil)) (()) (by repeat first|exact s0 _|exact s1 _|apply s2|apply s3) (by simp [It.rids]) ?_
 unfold Lg.find
 rw [hfs]
 rfl
theorem ltold_s (hf : l.Few) : Spec Tryz.prog 51 [.agg l.abs, .agg o.abs] [] (fun _ : Unit => []) (fun _ => .agg (l.told o).abs) := by
 have hf1 := hf.ls
 have hf2 := hf.os
 refine spec_of Tryz.func51 rfl Tryz.ntmps51 rfl fun G w => ?_
 refine SC.seq (SC.region ?_)
 refine SL.eff (Eff.boxA (cs := l.abs) rfl) rfl rfl ?_
 rintro _ _ ⟨b2, rfl, rfl⟩
 refine SL.eff (Eff.boxA (cs := o.abs) rfl) rfl rfl ?_
 rintro _ _ ⟨b3, rfl, rfl⟩
 refine SL.eff (Eff.alloc tabOk rfl) rfl rfl ?_
 rintro _ _ ⟨b4, rfl, rfl⟩
 refine SL.nil (SE.seq ?_)
 refine SC.seq (SC.region ?_)
 refine SL.val (Val.to (C := .agg l.abs) (Val.loadP tabOk rfl rfl rfl (by repeat first|assumption|exact o0_|exact o1_|apply o2_) List.not_mem_nil (lb_ (by rfl))) (congrArg Abs.agg rfl)) rfl rfl ?_
 refine SL.call (lcopied_s hf) Casts.refl (by kernel_rfl) rfl rfl rfl ?_
 refine ap_ ?_
 intro _
 refine SL.eff (Eff.alloc tabOk rfl) rfl rfl ?_
 rintro _ _ ⟨b5, rfl, rfl⟩
 refine SL.eff (Eff.store (L' := l.abs) tabOk rfl rfl rfl (by repeat first|assumption|exact Upd.here|apply Upd.there) rfl (lb_ (by rfl)) rfl (by exact putL_whole rfl)) rfl rfl ?_
 rintro _ _ ⟨rfl, rfl⟩
 refine SL.nil (SE.seq ?_)
 refine SC.seq (SC.region ?_)
 refine SL.val (Val.fieldAddr tabOk rfl rfl rfl rfl rfl) rfl rfl ?_
 refine SL.val (Val.to (C := .sl 3 (l.os.map Oc.abs)) (Val.load1 tabOk rfl rfl (by repeat first|assumption|exact o0_|exact o1_|apply o2_) List.not_mem_nil (by rfl)) rfl) rfl rfl ?_
 refine SL.val (Val.loadA tabOk rfl rfl rfl (by repeat first|assumption|exact o0_|exact o1_|apply o2_) List.not_mem_nil (by rfl)) rfl rfl ?_
 refine SL.call (put_oc (xs := l.os) (x := o) (by omega)) Casts.refl (by kernel_rfl) rfl rfl rfl ?_
 refine ap_ ?_
 intro _
 refine SL.val (Val.fieldAddr tabOk rfl rfl rfl rfl rfl) rfl rfl ?_
 refine SL.eff (Eff.store (L' := (l.told o).abs) tabOk rfl rfl rfl (by repeat first|assumption|exact Upd.here|apply Upd.there) rfl (lb_ (by rfl)) rfl (by rfl)) rfl rfl ?_
 rintro _ _ ⟨rfl, rfl⟩
 refine SL.nil (SE.seq ?_)
 refine SC.seq (SC.region ?_)
 first
  | refine SL.val (Val.loadA tabOk rfl rfl rfl (by repeat first|assumption|exact o0_|exact o1_|apply o2_) List.not_mem_nil (by rfl)) rfl rfl ?_
  | refine SL.val (Val.loadP tabOk rfl rfl rfl (by repeat first|assumption|exact o0_|exact o1_|apply o2_) List.not_mem_nil (lb_ (by rfl))) rfl rfl ?_
 refine SL.eff (Eff.store (L' := (l.told o).abs) tabOk rfl rfl rfl (by repeat first|assumption|exact Upd.here|apply Upd.there) rfl (lb_ (by rfl)) rfl (by exact putL_whole rfl)) rfl rfl ?_
 rintro _ _ ⟨rfl, rfl⟩
 refine SL.nil (SE.seq ?_)
 refine SC.ret ?_
 refine SE.fin (rs := [.cell 4 66]) rfl (RV.cell rfl (RV.cellA tabOk rfl rfl (by repeat first|assumption|exact o0_|exact o1_|apply o2_) (by rfl)) RV.nil) (()) (by repeat first|exact s0 _|exact s1 _|apply s2|apply s3) (by simp [It.rids]) ?_
 exact rfl
theorem lwith_s (hf : l.Few) : Spec Tryz.prog 62 [.agg l.abs, .agg (ltrA x)] [] (fun _ : Unit => []) (fun _ => .tup [.agg (l.with_ x).1.abs, int (l.with_ x).2]) := by
 have hf1 := hf.ls
 have hf2 := hf.os
 have hwl := withG_length (eq := eqL x.name) (gt := gtL x.name) (x := x) l.ls
 refine spec_of Tryz.func62 rfl Tryz.ntmps62 rfl fun G w => ?_
 refine SC.seq (SC.region ?_)
 refine SL.eff (Eff.boxA (cs := l.abs) rfl) rfl rfl ?_
 rintro _ _ ⟨b2, rfl, rfl⟩
 refine SL.eff (Eff.boxA (cs := ltrA x) rfl) rfl rfl ?_
 rintro _ _ ⟨b3, rfl, rfl⟩
 refine SL.eff (Eff.alloc tabOk rfl) rfl rfl ?_
 rintro _ _ ⟨b4, rfl, rfl⟩
 refine SL.val (Val.assign rfl) rfl rfl ?_
 refine SL.nil (SE.seq ?_)
 refine SC.seq ?_
 refine SC.seq (SC.region ?_)
 refine SL.val (Val.fieldAddr tabOk rfl rfl rfl rfl rfl) rfl rfl ?_
 refine SL.val (Val.to (C := st x.name) (Val.load1 tabOk rfl rfl (by repeat first|assumption|exact o0_|exact o1_|apply o2_) List.not_mem_nil (by rfl)) rfl) rfl rfl ?_
 refine SL.call (isname_s (s := x.name)) Casts.refl (by kernel_rfl) rfl rfl rfl ?_
 refine ap_ ?_
 intro _
 refine SL.val (Val.notB rfl) rfl rfl ?_
 refine SL.nil (SE.seq ?_)
 refine SC.cond rfl ?_ ?_
 ·intro hc10
  have hnb : nameB x.name = false := by simpa using hc10
  refine SC.seq (SC.region ?_)
  refine SL.val (Val.buildS tabOk rfl rfl rfl rfl) rfl rfl ?_
  refine SL.eff (Eff.store (L' := (zabs [.int .i64 0, .int .i64 0, .slice none 0 0, .slice none 0 0])) tabOk rfl rfl rfl (by repeat first|assumption|exact Upd.here|apply Upd.there) rfl (lb_ (by rfl)) rfl (by exact putL_whole rfl)) rfl rfl ?_
  rintro _ _ ⟨rfl, rfl⟩
  refine SL.val (Val.assign rfl) rfl rfl ?_
  refine SL.nil (SE.seq ?_)
  refine SC.ret ?_
  refine SE.then_ nofun ?_
  refine SE.finC (rs := [.cell 4 66, .tmp 5]) rfl (RV.cell rfl (RV.cellA tabOk rfl rfl (by repeat first|assumption|exact o0_|exact o1_|apply o2_) (by rfl)) (RV.tmp rfl RV.nil)) (Casts.cons (cast_agg (Casts.keep (Casts.keep (Casts.nils (s := 6) (Casts.nils (s := 3) Casts.refl))))) Casts.refl) (()) (by repeat first|exact s0 _|exact s1 _|apply s2|apply s3) (by simp [It.rids]) ?_
  unfold Lg.with_
  rw [if_pos hnb]
  rfl
 intro hc10
 have hnb : ¬ nameB x.name = false := by simpa using hc10
 refine SC.skip ?_
 refine SE.seq ?_
 refine SC.seq (SC.region ?_)
 refine SL.val (Val.to (C := .agg l.abs) (Val.loadP tabOk rfl rfl rfl (by repeat first|assumption|exact o0_|exact o1_|apply o2_) List.not_mem_nil (lb_ (by rfl))) (congrArg Abs.agg rfl)) rfl rfl ?_
 refine SL.call (lcopied_s hf) Casts.refl (by kernel_rfl) rfl rfl rfl ?_
 refine ap_ ?_
 intro _
 refine SL.eff (Eff.alloc tabOk rfl) rfl rfl ?_
 rintro _ _ ⟨b6, rfl, rfl⟩
 refine SL.eff (Eff.store (L' := l.abs) tabOk rfl rfl rfl (by repeat first|assumption|exact Upd.here|apply Upd.there) rfl (lb_ (by rfl)) rfl (by exact putL_whole rfl)) rfl rfl ?_
 rintro _ _ ⟨rfl, rfl⟩
 refine SL.nil (SE.seq ?_)
 refine SC.seq ?_
 refine SC.seq (SC.region ?_)
 refine SL.val (Val.fieldAddr tabOk rfl rfl rfl rfl rfl) rfl rfl ?_
 refine SL.val (Val.to (C := ltrsA l.ls) (Val.load1 tabOk rfl rfl (by repeat first|assumption|exact o0_|exact o1_|apply o2_) List.not_mem_nil (by rfl)) rfl) rfl rfl ?_
 refine SL.val (Val.loadA tabOk rfl rfl rfl (by repeat first|assumption|exact o0_|exact o1_|apply o2_) List.not_mem_nil (by rfl)) rfl rfl ?_
 refine SL.call (put_ltr (xs := l.ls) (x := x) (by omega)) Casts.refl (by kernel_rfl) rfl rfl rfl ?_
 refine ap_ ?_
 intro _
 refine SL.val (Val.fieldAddr tabOk rfl rfl rfl rfl rfl) rfl rfl ?_
 refine SL.eff (Eff.store (L' := (l.putL x).abs) tabOk rfl rfl rfl (by repeat first|assumption|exact Upd.here|apply Upd.there) rfl (lb_ (by rfl)) rfl (by rfl)) rfl rfl ?_
 rintro _ _ ⟨rfl, rfl⟩
 refine SL.nil (SE.seq ?_)
 refine SC.seq (SC.region ?_)
 refine SL.val (Val.fieldAddr tabOk rfl rfl rfl rfl rfl) rfl rfl ?_
 refine SL.val (Val.to (C := ltrsA (l.putL x).ls) (Val.load1 tabOk rfl rfl (by repeat first|assumption|exact o0_|exact o1_|apply o2_) List.not_mem_nil (by rfl)) rfl) rfl rfl ?_
 first
  | refine SL.val (Val.lenSl rfl Tryz.underlying63 (List.length_map _)) rfl rfl ?_
  | refine SL.val (Val.lenOwn rfl (by repeat first|assumption|exact m0|apply m1) Tryz.underlying63 (List.length_map _)) rfl rfl ?_
  | refine SL.val (Val.lenNil rfl Tryz.underlying63) rfl rfl ?_
 refine SL.val (Val.gtI rfl rfl) rfl rfl ?_
 refine SL.nil (SE.seq ?_)
 refine SC.condP rfl ?_ ?_
 ·intro hc22
  refine SC.seq (SC.region ?_)
  refine SL.val (Val.buildS tabOk rfl rfl rfl rfl) rfl rfl ?_
  refine SL.eff (Eff.store (L' := (zabs [.int .i64 0, .int .i64 0, .slice none 0 0, .slice none 0 0])) tabOk rfl rfl rfl (by repeat first|assumption|exact Upd.here|apply Upd.there) rfl (lb_ (by rfl)) rfl (by exact putL_whole rfl)) rfl rfl ?_
  rintro _ _ ⟨rfl, rfl⟩
  refine SL.val (Val.assign rfl) rfl rfl ?_
  refine SL.nil (SE.seq ?_)
  refine SC.ret ?_
  refine SE.then_ nofun ?_
  refine SE.finC (rs := [.cell 4 66, .tmp 5]) rfl (RV.cell rfl (RV.cellA tabOk rfl rfl (by repeat first|assumption|exact o0_|exact o1_|apply o2_) (by rfl)) (RV.tmp rfl RV.nil)) (Casts.cons (cast_agg (Casts.keep (Casts.keep (Casts.nils (s := 6) (Casts.nils (s := 3) Casts.refl))))) Casts.refl) (()) (by repeat first|exact s0 _|exact s1 _|apply s2|apply s3) (by simp [It.rids]) ?_
  unfold Lg.with_
  rw [if_neg hnb, if_pos (by omega)]
  rfl
 intro hc22
 refine SC.skip ?_
 refine SE.seq ?_
 refine SC.seq (SC.region ?_)
 refine SL.val (Val.to (C := .agg (l.putL x).abs) (Val.loadP tabOk rfl rfl rfl (by repeat first|assumption|exact o0_|exact o1_|apply o2_) List.not_mem_nil (lb_ (by rfl))) (congrArg Abs.agg rfl)) rfl rfl ?_
 refine SL.eff (Eff.store (L' := (l.putL x).abs) tabOk rfl rfl rfl (by repeat first|assumption|exact Upd.here|apply Upd.there) rfl (lb_ (by rfl)) rfl (by exact putL_whole rfl)) rfl rfl ?_
 rintro _ _ ⟨rfl, rfl⟩
 refine SL.val (Val.assign rfl) rfl rfl ?_
 refine SL.nil (SE.seq ?_)
 refine SC.ret ?_
 refine SE.fin (rs := [.cell 4 66, .tmp 5]) rfl (RV.cell rfl (RV.cellA tabOk rfl rfl (by repeat first|assumption|exact o0_|exact o1_|apply o2_) (by rfl)) (RV.tmp rfl RV.nil)) (()) (by repeat first|exact s0 _|exact s1 _|apply s2|apply s3) (by simp [It.rids]) ?_
 unfold Lg.with_
 rw [if_neg hnb, if_neg (by omega)]
 rfl
theorem lstale_s (hf : l.Few) : Spec Tryz.prog 46 [.agg l.abs, coreA c] [] (fun _ : Unit => []) (fun _ => boo (l.stale c)) := by
 refine spec_of Tryz.func46 rfl Tryz.ntmps46 rfl fun G w => ?_
 refine SC.seq (SC.region ?_)
 refine SL.eff (Eff.boxA (cs := l.abs) rfl) rfl rfl ?_
 rintro _ _ ⟨b2, rfl, rfl⟩
 refine SL.eff (Eff.boxA (cs := c.cells.map .v) rfl) rfl rfl ?_
 rintro _ _ ⟨b3, rfl, rfl⟩
 refine SL.val (Val.assign rfl) rfl rfl ?_
 refine SL.nil (SE.seq ?_)
 refine SC.seq (SC.region ?_)
 refine SL.val (Val.to (C := .agg l.abs) (Val.loadP tabOk rfl rfl rfl (by repeat first|assumption|exact o0_|exact o1_|apply o2_) List.not_mem_nil (lb_ (by rfl))) (congrArg Abs.agg rfl)) rfl rfl ?_
 refine SL.val (Val.fieldAddr tabOk rfl rfl rfl rfl rfl) rfl rfl ?_
 refine SL.val (Val.load1 tabOk rfl rfl (by repeat first|assumption|exact o0_|exact o1_|apply o2_) List.not_mem_nil (by rfl)) rfl rfl ?_
 refine SL.call (llast_s (k := c.client) hf) Casts.refl (by kernel_rfl) rfl rfl rfl ?_
 refine ap_ ?_
 intro _
 refine SL.val (Val.move rfl) rfl rfl ?_
 refine SL.val (Val.extract rfl rfl) rfl rfl ?_
 refine SL.val (Val.extract rfl rfl) rfl rfl ?_
 refine SL.eff (Eff.alloc tabOk rfl) rfl rfl ?_
 rintro _ _ ⟨b5, rfl, rfl⟩
 refine SL.eff (Eff.store (L' := ((l.last c.client).getD Oc.zero).abs) tabOk rfl rfl rfl (by repeat first|assumption|exact Upd.here|apply Upd.there) rfl (lb_ (by rfl)) rfl (by exact putL_whole rfl)) rfl rfl ?_
 rintro _ _ ⟨rfl, rfl⟩
 refine SL.val (Val.assign rfl) rfl rfl ?_
 refine SL.nil (SE.seq ?_)
 refine SC.seq (SC.region ?_)
 iterate 2 refine SL.val (Val.move rfl) rfl rfl ?_
 refine SL.both (t := 15) rfl ?_ ?_
 ·intro hc15
  refine SL.val (Val.fieldAddr tabOk rfl rfl rfl rfl rfl) rfl rfl ?_
  refine SL.val (Val.load1 tabOk rfl rfl (by repeat first|assumption|exact o0_|exact o1_|apply o2_) List.not_mem_nil (by rfl)) rfl rfl ?_
  refine SL.val (Val.fieldAddr tabOk rfl rfl rfl rfl rfl) rfl rfl ?_
  refine SL.val (Val.load1 tabOk rfl rfl (by repeat first|assumption|exact o0_|exact o1_|apply o2_) List.not_mem_nil (by rfl)) rfl rfl ?_
  refine SL.val (Val.leI rfl rfl) rfl rfl ?_
  refine SL.val (Val.pickT rfl rfl) rfl rfl ?_
  refine SL.val (Val.assign rfl) rfl rfl ?_
  refine SL.nil (SE.seq ?_)
  refine SC.ret ?_
  refine SE.fin (rs := [.tmp 4]) rfl (RV.tmp rfl RV.nil) (()) (by repeat first|exact s0 _|exact s1 _|apply s2|apply s3) (by simp [It.rids]) ?_
  unfold Lg.stale
  cases hl : l.last c.client with
  | none => rw [hl] at hc15; first | rfl | cases hc15
  | some o9 => rw [hl] at hc15; first | rfl | cases hc15
 intro hc15
 iterate 5 refine SL.skip rfl rfl ?_
 refine SL.val (Val.pickF rfl rfl) rfl rfl ?_
 refine SL.val (Val.assign rfl) rfl rfl ?_
 refine SL.nil (SE.seq ?_)
 refine SC.ret ?_
 refine SE.fin (rs := [.tmp 4]) rfl (RV.tmp rfl RV.nil) (()) (by repeat first|exact s0 _|exact s1 _|apply s2|apply s3) (by simp [It.rids]) ?_
 unfold Lg.stale
 cases hl : l.last c.client with
 | none => rw [hl] at hc15; first | rfl | cases hc15
 | some o9 => rw [hl] at hc15; first | rfl | cases hc15
end
end Go.Proofs.YtejcohlpjikjpaaGreatDoor.A
/-
  The document's ledgers: what is told last, and put in.
-/
namespace Go.Proofs.YtejcohlpjikjpaaGreatDoor.A
open Go.RowKit

section
variable {l : Lg} {k n : Int} {s : ByteArray} {c : Core} {e : Ent} {es : List Ent} {e1 e2 : Value}
end
section
variable {l : Lg} {x : Oc}
end
section
variable {l : Lg} {x : Ltr}
end
end Go.Proofs.YtejcohlpjikjpaaGreatDoor.A
/-
  Policies' texts: numbers, read by the program.
-/
namespace Go.Proofs.YtejcohlpjikjpaaGreatDoor.A
open Go.RowKit

section
variable {l wd : Txt} {odd : Bool} {p : Nat} {es er : Value}
set_option maxHeartbeats 4000000 in
theorem number_s (he : isIf es) (hr : isIf er) (hl : l.length ≤ 100000) : Spec Tryz.prog 109 [ptr p] (.blk p 116 (psA (l) odd) :: globs es er) (fun _ : Unit => [.blk p 116 (psA (numL l) (numO l odd))]) (fun _ => int (numV l)) := by
 have hbl := bare_len l
 have hdl := digs_len (bare l)
 refine spec_of Tryz.func109 rfl Tryz.ntmps109 rfl fun G w => ?_
 refine SC.seq (SC.region ?_)
 refine SL.val (Val.assign rfl) rfl rfl ?_
 refine SL.nil (SE.seq ?_)
 refine SC.seq (SC.region ?_)
 refine SL.val (Val.move rfl) rfl rfl ?_
 refine SL.call (blanks_s (p := p) (l := l) (odd := odd)) Casts.refl (by kernel_rfl) rfl rfl rfl ?_
 refine After.one rfl (by repeat first|assumption|exact m0|apply m1) (fun _ => rfl) ?_
 intro _
 refine ⟨_, (by repeat first|assumption|exact Upd.here|apply Upd.there), ?_⟩
 refine SL.nil (SE.seq ?_)
 refine SC.seq (SC.region ?_)
 refine SL.val (Val.move rfl) rfl rfl ?_
 refine SL.val (Val.nilCheck rfl) rfl rfl ?_
 refine SL.val (Val.fieldAddr tabOk rfl rfl rfl rfl rfl) rfl rfl ?_
 refine SL.val (Val.load1 tabOk rfl rfl (by repeat first|assumption|exact o0_|exact o1_|apply o2_) List.not_mem_nil (by rfl)) rfl rfl ?_
 refine SL.val (Val.to (C := int (((bare l).length : Nat) : Int)) (Val.lenSt rfl Tryz.underlying9) rfl) rfl rfl ?_
 refine SL.val (Val.assign rfl) rfl rfl ?_
 refine SL.nil (SE.seq ?_)
 refine SC.cutS (ι := Unit) (fun z => (.blk p 116 (psA (bare l) odd) :: globs es er)) (fun z => [(0, ptr p), (3, int ((digs (bare l)).length : Nat))]) (fun z => True) ?_ ?_
 ·skip
  refine SC.seq (SC.region ?_)
  refine SL.val (Val.move rfl) rfl rfl ?_
  refine SL.val (Val.nilCheck rfl) rfl rfl ?_
  refine SL.val (Val.fieldAddr tabOk rfl rfl rfl rfl rfl) rfl rfl ?_
  refine SL.val (Val.load1 tabOk rfl rfl (by repeat first|assumption|exact o0_|exact o1_|apply o2_) List.not_mem_nil (by rfl)) rfl rfl ?_
  refine SL.eff (Eff.rangeStr rfl Tryz.underlying9) rfl rfl ?_
  rintro _ _ ⟨b20, rfl, rfl⟩
  refine SL.nil (SE.seq ?_)
  refine SC.block ?_
  refine SC.loop (ι := Nat) (fun z => .pc (iterPc b20 ⟨(bare l).toArray⟩ z) :: (.blk p 116 (psA (bare l) odd) :: globs es er)) (fun z => [(0, ptr p), (3, int ((bare l).length : Nat)), (20, ptr b20)]) (fun z => z ≤ (bare l).length ∧ ∀ j (hj : j < (bare l).length), j < z → isDig (bare l)[j] = true) (fun z => (bare l).length - z) (0) (⟨Nat.zero_le _, fun j _ h => absurd h (by omega)⟩) (by exact ⟨rfl, rfl, rfl, trivial⟩) (by repeat first|exact s0 _|exact s1 _|apply s2|apply s3) ?_
  intro z hz
  refine SC.seq (SC.region ?_)
  refine SL.nextStr rfl (by repeat first|assumption|exact m0|apply m1) rfl rfl ?_ ?_
  rotate_left
  ·intro hnx
   refine SL.val (Val.extract rfl rfl) rfl rfl ?_
   refine SL.nil (SE.seq ?_)
   refine SC.seq ?_
   refine SC.condF rfl ?_
   refine SC.exit ?_
   refine SE.then_ nofun ?_
   refine SE.then_ nofun ?_
   refine SE.exit ?_
   have hdz := digs_all (t := bare l) fun j hj => hz.2 j hj (by have h9 : ¬ z < (bare l).length := hnx; omega)
   refine SE.meet (()) (trivial) (by exact ⟨rfl, congrArg (fun k : Nat => some (int (k : Nat))) hdz.symm, trivial⟩) (by repeat first|exact s0 _|exact s1 _|apply s2|apply s3)
  intro hnx
  refine ⟨_, (by repeat first|assumption|exact Upd.here|apply Upd.there), ?_⟩
  have hd := decode_high ⟨(bare l).toArray⟩ z hnx
  have hz1 : z < (bare l).length := hnx
  have hb8 := ((bare l)[z]'hz1).toNat_lt
  have e1 : ((bare l)[z]'hz1).toNat < 128 → Utf8.decode (ByteArray.mk (bare l).toArray) z = (((bare l)[z]'hz1).toNat, 1) := fun h => decode_ascii ⟨(bare l).toArray⟩ z hnx h
  refine SL.val (Val.extract rfl rfl) rfl rfl ?_
  refine SL.nil (SE.seq ?_)
  refine SC.seq ?_
  refine SC.condT rfl ?_
  refine SC.skip ?_
  refine SE.seq ?_
  refine SC.block ?_
  refine SC.seq (SC.region ?_)
  refine SL.val (Val.extract rfl rfl) rfl rfl ?_
  refine SL.val (Val.extract rfl rfl) rfl rfl ?_
  iterate 2 refine SL.val (Val.assign rfl) rfl rfl ?_
  refine SL.nil (SE.seq ?_)
  refine SC.seq (SC.region ?_)
  refine SL.val (Val.move rfl) rfl rfl ?_
  refine SL.val (Val.ltI rfl rfl) rfl rfl ?_
  refine SL.val (Val.move rfl) rfl rfl ?_
  refine SL.bothP (t := 27) rfl ?_ ?_
  ·intro hc27
   iterate 2 refine SL.skip rfl rfl ?_
   refine SL.val (Val.pickT rfl rfl) rfl rfl ?_
   refine SL.nil (SE.seq ?_)
   refine SC.condT rfl ?_
   refine SC.seq (SC.region ?_)
   refine SL.val (Val.move rfl) rfl rfl ?_
   refine SL.val (Val.assign rfl) rfl rfl ?_
   refine SL.nil (SE.seq ?_)
   refine SC.exit ?_
   refine SE.exit_ rfl ?_
   refine SE.then_ nofun ?_
   refine SE.exit ?_
   have hdn : ¬ isDig ((bare l)[z]'hz1) = true := by
    intro hdd
    have h3 := of_decide_eq_true (show decide (48 ≤ ((bare l)[z]'hz1).toNat ∧ ((bare l)[z]'hz1).toNat ≤ 57) = true from hdd)
    have e2 := e1 (by omega)
    first
     | (rw [e2] at hc27; dsimp only at hc27; omega)
     | (rw [e2] at hc30; dsimp only at hc30; omega)
   have hdz := digs_stop hz1 hz.2 hdn
   refine SE.meet (()) (trivial) (by exact ⟨rfl, congrArg (fun k : Nat => some (int (k : Nat))) hdz.symm, trivial⟩) (by repeat first|exact s0 _|exact s1 _|apply s2|apply s3)
  intro hc27
  refine SL.val (Val.move rfl) rfl rfl ?_
  refine SL.val (Val.gtI rfl rfl) rfl rfl ?_
  refine SL.val (Val.pickF rfl rfl) rfl rfl ?_
  refine SL.nil (SE.seq ?_)
  refine SC.condP rfl ?_ ?_
  rotate_left
  ·intro hc30
   refine SC.skip ?_
   refine SE.inBlock ?_
   have h128 : ((bare l)[z]'hz1).toNat < 128 := by
    rcases Nat.lt_or_ge ((bare l)[z]'hz1).toNat 128 with h | h
    ·exact h
    ·have h2 := hd (by show ¬ ((bare l)[z]'hz1).toNat < 128; omega)
     omega
   have e2 := e1 h128
   have hdd : isDig ((bare l)[z]'hz1) = true := decide_eq_true (by rw [e2] at hc27 hc30; dsimp only at hc27 hc30; omega)
   rw [e2]
   refine SE.round (z + 1) (by first | omega | (dsimp only; omega)) (⟨hz1, fun j hj h => by rcases Nat.lt_or_ge j z with h1 | h1; exact hz.2 j hj h1; obtain rfl : j = z := (by omega); exact hdd⟩) (by exact ⟨rfl, rfl, rfl, trivial⟩) (by repeat first|exact s0 _|exact s1 _|apply s2|apply s3)
  intro hc30
  refine SC.seq (SC.region ?_)
  refine SL.val (Val.move rfl) rfl rfl ?_
  refine SL.val (Val.assign rfl) rfl rfl ?_
  refine SL.nil (SE.seq ?_)
  refine SC.exit ?_
  refine SE.exit_ rfl ?_
  refine SE.then_ nofun ?_
  refine SE.exit ?_
  have hdn : ¬ isDig ((bare l)[z]'hz1) = true := by
   intro hdd
   have h3 := of_decide_eq_true (show decide (48 ≤ ((bare l)[z]'hz1).toNat ∧ ((bare l)[z]'hz1).toNat ≤ 57) = true from hdd)
   have e2 := e1 (by omega)
   first
    | (rw [e2] at hc27; dsimp only at hc27; omega)
    | (rw [e2] at hc30; dsimp only at hc30; omega)
  have hdz := digs_stop hz1 hz.2 hdn
  refine SE.meet (()) (trivial) (by exact ⟨rfl, congrArg (fun k : Nat => some (int (k : Nat))) hdz.symm, trivial⟩) (by repeat first|exact s0 _|exact s1 _|apply s2|apply s3)
 ·intro z hz
  refine SC.seq (SC.region ?_)
  refine SL.val (Val.move rfl) rfl rfl ?_
  refine SL.val (Val.nilCheck rfl) rfl rfl ?_
  refine SL.val (Val.fieldAddr tabOk rfl rfl rfl rfl rfl) rfl rfl ?_
  refine SL.val (Val.load1 tabOk rfl rfl (by repeat first|assumption|exact o0_|exact o1_|apply o2_) List.not_mem_nil (by rfl)) rfl rfl ?_
  refine SL.val (Val.move rfl) rfl rfl ?_
  refine SL.val (Val.to (C := stA (digs (bare l))) (Val.sliceStHi (q := (digs (bare l)).length) Tryz.underlying9 rfl rfl rfl (by simp only [tx_size]; omega)) ((st_hi _ _).trans (congrArg stA (take_digs _)))) rfl rfl ?_
  refine SL.val (Val.assign rfl) rfl rfl ?_
  refine SL.nil (SE.seq ?_)
  refine SC.seq (SC.region ?_)
  refine SL.val (Val.move rfl) rfl rfl ?_
  refine SL.call (atoi_s (l := (digs (bare l))) he hr (by omega)) Casts.refl (by kernel_rfl) rfl rfl rfl ?_
  refine ap_ ?_
  intro z9
  refine SL.val (Val.move rfl) rfl rfl ?_
  refine SL.val (Val.extract rfl rfl) rfl rfl ?_
  refine SL.val (Val.extract rfl rfl) rfl rfl ?_
  iterate 2 refine SL.val (Val.assign rfl) rfl rfl ?_
  refine SL.nil (SE.seq ?_)
  refine SC.seq ?_
  refine SC.seq (SC.region ?_)
  refine SL.val (Val.move rfl) rfl rfl ?_
  refine SL.val (Val.neIf (c := atoiBad (digs (bare l))) Tryz.underlying164 rfl (atoi_bad z9.2)) rfl rfl ?_
  refine SL.val (Val.move rfl) rfl rfl ?_
  refine SL.both (t := 45) rfl ?_ ?_
  ·intro hc45
   iterate 2 refine SL.skip rfl rfl ?_
   refine SL.val (Val.pickT rfl rfl) rfl rfl ?_
   refine SL.val (Val.move rfl) rfl rfl ?_
   iterate 4 refine SL.skip rfl rfl ?_
   refine SL.val (Val.pickT rfl rfl) rfl rfl ?_
   refine SL.nil (SE.seq ?_)
   refine SC.condT rfl ?_
   refine SC.seq (SC.region ?_)
   refine SL.val (Val.move rfl) rfl rfl ?_
   refine SL.val (Val.nilCheck rfl) rfl rfl ?_
   refine SL.val (Val.fieldAddr tabOk rfl rfl rfl rfl rfl) rfl rfl ?_
   refine SL.eff (Eff.store (L' := psA (bare l) true) tabOk rfl rfl rfl (by repeat first|assumption|exact Upd.here|apply Upd.there) rfl (lb_ (by rfl)) rfl (by rfl)) rfl rfl ?_
   rintro _ _ ⟨rfl, rfl⟩
   refine SL.nil (SE.seq ?_)
   refine SC.seq (SC.region ?_)
   refine SL.val (Val.assign rfl) rfl rfl ?_
   refine SL.nil (SE.seq ?_)
   refine SC.ret ?_
   refine SE.then_ nofun ?_
   have hnn : numT (bare l) = none := by
    first
     | exact numT_bad hc45
     | exact numT_long (by omega)
     | exact numT_other hgv.1 (by rw [← hgv.2]; assumption)
   obtain ⟨e1, e2, e3⟩ := num_none hnn odd
   refine SE.fin (rs := [.tmp 2]) rfl (RV.tmp rfl RV.nil) (()) (by rw [e1, e2]; repeat (first | exact List.nil_sublist _ | exact List.Sublist.refl _ | apply List.Sublist.cons_cons | apply List.Sublist.cons)) (by simp [It.rids]) ?_
   rw [e3]
   rfl
  intro hc45
  refine SL.val (Val.move rfl) rfl rfl ?_
  refine SL.val (Val.gtI rfl rfl) rfl rfl ?_
  refine SL.val (Val.pickF rfl rfl) rfl rfl ?_
  refine SL.val (Val.move rfl) rfl rfl ?_
  refine SL.bothP (t := 49) rfl ?_ ?_
  ·intro hc49
   iterate 4 refine SL.skip rfl rfl ?_
   refine SL.val (Val.pickT rfl rfl) rfl rfl ?_
   refine SL.nil (SE.seq ?_)
   refine SC.condT rfl ?_
   refine SC.seq (SC.region ?_)
   refine SL.val (Val.move rfl) rfl rfl ?_
   refine SL.val (Val.nilCheck rfl) rfl rfl ?_
   refine SL.val (Val.fieldAddr tabOk rfl rfl rfl rfl rfl) rfl rfl ?_
   refine SL.eff (Eff.store (L' := psA (bare l) true) tabOk rfl rfl rfl (by repeat first|assumption|exact Upd.here|apply Upd.there) rfl (lb_ (by rfl)) rfl (by rfl)) rfl rfl ?_
   rintro _ _ ⟨rfl, rfl⟩
   refine SL.nil (SE.seq ?_)
   refine SC.seq (SC.region ?_)
   refine SL.val (Val.assign rfl) rfl rfl ?_
   refine SL.nil (SE.seq ?_)
   refine SC.ret ?_
   refine SE.then_ nofun ?_
   have hnn : numT (bare l) = none := by
    first
     | exact numT_bad hc45
     | exact numT_long (by omega)
     | exact numT_other hgv.1 (by rw [← hgv.2]; assumption)
   obtain ⟨e1, e2, e3⟩ := num_none hnn odd
   refine SE.fin (rs := [.tmp 2]) rfl (RV.tmp rfl RV.nil) (()) (by rw [e1, e2]; repeat (first | exact List.nil_sublist _ | exact List.Sublist.refl _ | apply List.Sublist.cons_cons | apply List.Sublist.cons)) (by simp [It.rids]) ?_
   rw [e3]
   rfl
  intro hc49
  have hgv := good_val z9.2 hc45 (by omega)
  refine SL.val (Val.move rfl) rfl rfl ?_
  refine SL.call (itoa_s (es := es) (er := er) (v := z9.1.1) (by rw [hgv.2]; have h9 := decV_lt (digs (bare l)) (digs_dig _); have h10 : 10 ^ (digs (bare l)).length ≤ 10 ^ 4 := Nat.pow_le_pow_right (by omega) (by omega); simp only [InR, lo, hi]; omega)) Casts.refl (by kernel_rfl) rfl rfl rfl ?_
  refine ap_ ?_
  intro _
  refine SL.val (Val.move rfl) rfl rfl ?_
  refine SL.val (Val.to (C := boo (decide (¬ Lib.itoa z9.1.1 = (digs (bare l))))) (Val.neS rfl rfl) (congrArg (fun b => Abs.v (Value.bool b)) (decide_eq_decide.2 (not_congr st_eq)))) rfl rfl ?_
  refine SL.val (Val.pickF rfl rfl) rfl rfl ?_
  refine SL.nil (SE.seq ?_)
  refine SC.condP rfl ?_ ?_
  ·intro hc54
   refine SC.seq (SC.region ?_)
   refine SL.val (Val.move rfl) rfl rfl ?_
   refine SL.val (Val.nilCheck rfl) rfl rfl ?_
   refine SL.val (Val.fieldAddr tabOk rfl rfl rfl rfl rfl) rfl rfl ?_
   refine SL.eff (Eff.store (L' := psA (bare l) true) tabOk rfl rfl rfl (by repeat first|assumption|exact Upd.here|apply Upd.there) rfl (lb_ (by rfl)) rfl (by rfl)) rfl rfl ?_
   rintro _ _ ⟨rfl, rfl⟩
   refine SL.nil (SE.seq ?_)
   refine SC.seq (SC.region ?_)
   refine SL.val (Val.assign rfl) rfl rfl ?_
   refine SL.nil (SE.seq ?_)
   refine SC.ret ?_
   refine SE.then_ nofun ?_
   have hnn : numT (bare l) = none := by
    first
     | exact numT_bad hc45
     | exact numT_long (by omega)
     | exact numT_other hgv.1 (by rw [← hgv.2]; assumption)
   obtain ⟨e1, e2, e3⟩ := num_none hnn odd
   refine SE.fin (rs := [.tmp 2]) rfl (RV.tmp rfl RV.nil) (()) (by rw [e1, e2]; repeat (first | exact List.nil_sublist _ | exact List.Sublist.refl _ | apply List.Sublist.cons_cons | apply List.Sublist.cons)) (by simp [It.rids]) ?_
   rw [e3]
   rfl
  intro hc54
  refine SC.skip ?_
  refine SE.seq ?_
  refine SC.seq (SC.region ?_)
  iterate 2 refine SL.val (Val.move rfl) rfl rfl ?_
  refine SL.val (Val.nilCheck rfl) rfl rfl ?_
  refine SL.val (Val.fieldAddr tabOk rfl rfl rfl rfl rfl) rfl rfl ?_
  refine SL.val (Val.load1 tabOk rfl rfl (by repeat first|assumption|exact o0_|exact o1_|apply o2_) List.not_mem_nil (by rfl)) rfl rfl ?_
  refine SL.val (Val.move rfl) rfl rfl ?_
  refine SL.val (Val.to (C := stA ((bare l).drop (digs (bare l)).length)) (Val.sliceStLo (q := (digs (bare l)).length) Tryz.underlying9 rfl rfl rfl (by simp only [tx_size]; omega)) (st_lo _ _)) rfl rfl ?_
  refine SL.val (Val.nilCheck rfl) rfl rfl ?_
  refine SL.val (Val.fieldAddr tabOk rfl rfl rfl rfl rfl) rfl rfl ?_
  refine SL.eff (Eff.store (L' := psA ((bare l).drop (digs (bare l)).length) odd) tabOk rfl rfl rfl (by repeat first|assumption|exact Upd.here|apply Upd.there) rfl (lb_ (by rfl)) rfl (by rfl)) rfl rfl ?_
  rintro _ _ ⟨rfl, rfl⟩
  refine SL.nil (SE.seq ?_)
  refine SC.seq (SC.region ?_)
  refine SL.val (Val.move rfl) rfl rfl ?_
  refine SL.val (Val.assign rfl) rfl rfl ?_
  refine SL.nil (SE.seq ?_)
  refine SC.ret ?_
  have hi9 : Lib.itoa z9.1.1 = digs (bare l) := Classical.byContradiction fun h => hc54 h
  obtain ⟨e1, e2, e3⟩ := num_some (numT_own hgv.1 (by omega) (by rw [← hgv.2]; exact hi9)) odd
  refine SE.fin (rs := [.tmp 2]) rfl (RV.tmp rfl RV.nil) (()) (by rw [e1, e2]; repeat (first | exact List.nil_sublist _ | exact List.Sublist.refl _ | apply List.Sublist.cons_cons | apply List.Sublist.cons)) (by simp [It.rids]) ?_
  rw [e3, ← hgv.2]
  rfl
end
end Go.Proofs.YtejcohlpjikjpaaGreatDoor.A
/-
  Policies' texts, plain: what the program's parser leaves, step by step.
-/
namespace Go.Proofs.YtejcohlpjikjpaaGreatDoor.A
open Go.RowKit

/-- What the parser leaves behind a policy: what is left, whether it is odd, the policy. -/
def PolR (k : Nat) (l : Txt) (odd : Bool) (z : Txt × Bool × Frm) : Prop :=
  z.1.length ≤ l.length ∧ (odd = true → z.2.1 = true) ∧ (odd = false → polT k l = none → z.2.1 = true) ∧ (odd = false → ∀ x, polT k l = some x → z.2.1 = false ∧ bare z.1 = bare x.2 ∧ z.2.2 = x.1)
/-- And behind a row. -/
def RowF (k : Nat) (l : Txt) (odd : Bool) (z : Txt × Bool × List Frm) : Prop :=
  z.1.length ≤ l.length ∧ (odd = true → z.2.1 = true) ∧ (odd = false → rowT (polT k) l = none → z.2.1 = true) ∧ (odd = false → ∀ x, rowT (polT k) l = some x → z.2.1 = false ∧ z.1 = x.2 ∧ z.2.2 = x.1)
/-- At the head of a round. -/
structure RowI (k : Nat) (l : Txt) (odd : Bool) (z : Txt × Bool × List Frm) : Prop where
  len : z.1.length ≤ l.length
  few : z.2.2.length + (if z.2.1 = true then 0 else z.1.length + 1) ≤ l.length + 2
  off : odd = true → z.2.1 = true
  no : odd = false → z.2.1 = true → rowT (polT k) l = none
  go : odd = false → z.2.1 = false → ∃ F, z.1.length + 1 ≤ F ∧ rowT (polT k) l = rowL (polT k) F z.1 z.2.2
theorem takeT_yes {l wd : Txt} (h : begins (bare l) wd = true) : takeT l wd = (bare l).drop wd.length := if_pos h
theorem takeT_no {l wd : Txt} (h : ¬ begins (bare l) wd = true) : takeT l wd = bare l := if_neg h
theorem takeT_len (l wd : Txt) : (takeT l wd).length ≤ l.length := by
  have := bare_len l
  unfold takeT
  split
  · rw [List.length_drop]; omega
  · exact this
section
variable {k : Nat} {l : Txt} {odd : Bool} {z : Txt × Bool × List Frm} {y : Txt × Bool × Frm}
theorem RowI.start (h : begins (bare l) [40] = true) : RowI k l odd (takeT l [40], odd, []) := by
  have hl := takeT_len l [40]
  refine ⟨hl, (by dsimp only; split <;> simp <;> omega), fun h => h, fun h1 h2 => (by simp only at h2; rw [h1] at h2; cases h2), fun _ _ => ⟨l.length + 1, (by simp only; omega), ?_⟩⟩
  unfold rowT
  rw [if_pos h, takeT_yes h]
  rfl
theorem RowI.odd_ (h : ¬ begins (bare l) [40] = true) : RowI k l odd (takeT l [40], true, []) := by
  have hl := takeT_len l [40]
  exact ⟨hl, (by simp), fun _ => rfl, fun _ _ => if_neg h, fun _ h2 => (by cases h2)⟩
theorem RowI.done (h : RowI k l odd z) (ho : z.2.1 = true) : RowF k l odd z :=
  ⟨h.len, h.off, fun _ _ => ho, fun h1 x hx => (by rw [h.no h1 ho] at hx; cases hx)⟩
theorem RowI.step (h : RowI k l odd z) (ho : z.2.1 = false) (hy : PolR k z.1 z.2.1 y) :
    (begins (bare y.1) [41] = true → RowF k l odd (takeT y.1 [41], y.2.1, z.2.2 ++ [y.2.2])) ∧
    (¬ begins (bare y.1) [41] = true → begins (bare (takeT y.1 [41])) [44] = true → RowI k l odd (takeT (takeT y.1 [41]) [44], y.2.1, z.2.2 ++ [y.2.2]) ∧ (y.2.1 = true ∨ (takeT (takeT y.1 [41]) [44]).length < z.1.length)) ∧
    (¬ begins (bare y.1) [41] = true → ¬ begins (bare (takeT y.1 [41])) [44] = true → RowI k l odd (takeT (takeT y.1 [41]) [44], true, z.2.2 ++ [y.2.2])) := by
  obtain ⟨h1, h2, h3, h4⟩ := hy
  have hodd : odd = false := by
    cases odd with
    | true => have := h.off rfl; rw [ho] at this; cases this
    | false => rfl
  subst hodd
  obtain ⟨F, hF, hR⟩ := h.go rfl ho
  have hlen := h.len
  have hfew := h.few
  rw [ho] at hfew
  simp only [Bool.false_eq_true, if_false] at hfew
  have hb := bare_len y.1
  have t1 := takeT_len y.1 [41]
  have t2 := takeT_len (takeT y.1 [41]) [44]
  have hF1 : ∃ m, F = m + 1 := ⟨F - 1, (by omega)⟩
  obtain ⟨m, rfl⟩ := hF1
  cases hp : polT k z.1 with
  | none =>
    have hno := h3 ho hp
    have hR2 : rowT (polT k) l = none := by rw [hR]; unfold rowL; rw [hp]
    refine ⟨fun _ => ⟨(by simp only; omega), fun h => (by cases h), fun _ _ => hno, fun _ x hx => (by rw [hR2] at hx; cases hx)⟩, fun _ _ => ⟨⟨(by simp only; omega), ?_, fun h => (by cases h), fun _ _ => hR2, fun _ h9 => (by simp only at h9; rw [hno] at h9; cases h9)⟩, .inl hno⟩,
      fun _ _ => ⟨(by simp only; omega), ?_, fun h => (by cases h), fun _ _ => hR2, fun _ h9 => (by cases h9)⟩⟩
    · simp only [hno, if_true, List.length_append, List.length_singleton]; omega
    · simp only [if_true, List.length_append, List.length_singleton]; omega
  | some x =>
    obtain ⟨f, r⟩ := x
    obtain ⟨q1, q2, q3⟩ := h4 ho (f, r) hp
    have hs := polT_short k z.1 f r hp
    have hbr := bare_len r
    dsimp only at q2 q3
    have hR2 : rowL (polT k) (m + 1) z.1 z.2.2 = if begins (bare r) [41] = true then some (z.2.2 ++ [f], (bare r).drop 1) else if begins (bare r) [44] = true then rowL (polT k) m ((bare r).drop 1) (z.2.2 ++ [f]) else none := by
      conv => lhs; unfold rowL
      rw [hp]
    rw [hR2] at hR
    rw [q3, q1]
    rw [q2]
    refine ⟨fun hb1 => ?_, fun hb1 hb2 => ?_, fun hb1 hb2 => ?_⟩
    · have e : takeT y.1 [41] = (bare r).drop 1 := by rw [takeT_yes (by rw [q2]; exact hb1), q2]; rfl
      refine ⟨(by simp only; omega), fun h => (by cases h), fun _ hn => ?_, fun _ x hx => ?_⟩
      · rw [hR, if_pos hb1] at hn; cases hn
      · rw [hR, if_pos hb1] at hx
        cases hx
        exact ⟨rfl, e, rfl⟩
    · have e1 : takeT y.1 [41] = bare r := by rw [takeT_no (by rw [q2]; exact hb1), q2]
      rw [e1, bare_bare] at hb2
      have hbl := begins_len hb2
      have e2 : takeT (takeT y.1 [41]) [44] = (bare r).drop 1 := by rw [e1, takeT_yes (by rw [bare_bare]; exact hb2), bare_bare]; rfl
      have hl2 : ((bare r).drop 1).length < z.1.length := by rw [List.length_drop]; omega
      refine ⟨⟨(by simp only; omega), ?_, fun h => (by cases h), fun _ h9 => (by cases h9), fun _ _ => ⟨m, ?_, ?_⟩⟩, .inr (by rw [e2]; exact hl2)⟩
      · simp only [Bool.false_eq_true, if_false, List.length_append, List.length_singleton, e2]; omega
      · simp only [e2]; omega
      · rw [hR, if_neg hb1, if_pos hb2, e2]
    · have e1 : takeT y.1 [41] = bare r := by rw [takeT_no (by rw [q2]; exact hb1), q2]
      rw [e1, bare_bare] at hb2
      refine ⟨(by simp only; omega), ?_, fun h => (by cases h), fun _ _ => (by rw [hR, if_neg hb1, if_neg hb2]), fun _ h9 => (by cases h9)⟩
      simp only [if_true, List.length_append, List.length_singleton]; omega
end
/-! ### Policies -/
section
variable {k : Nat} {l : Txt} {odd : Bool} {y : Txt × Bool × Frm} {z : Txt × Bool × List Frm}
theorem PolR.deep : PolR 0 l odd (l, true, .mk 0 0 []) := ⟨Nat.le_refl _, fun _ => rfl, fun _ _ => rfl, fun _ x hx => (by cases hx)⟩
theorem PolR.was (h : odd = true) (f : Frm) : PolR k l odd (l, odd, f) := ⟨Nat.le_refl _, fun h => h, fun h2 => (by rw [h] at h2; cases h2), fun h2 => (by rw [h] at h2; cases h2)⟩
theorem PolR.all (h0 : odd = false) (hb : begins (bare l) [97, 108, 108] = true) (hz : RowF k (takeT l [97, 108, 108]) odd z) : PolR (k + 1) l odd (z.1, z.2.1, .mk 0 z.2.2.length z.2.2) := by
  obtain ⟨h1, h2, h3, h4⟩ := hz
  have ht := takeT_len l [97, 108, 108]
  have e : polT (k + 1) l = (rowT (polT k) (takeT l [97, 108, 108])).map fun x => (.mk 0 x.1.length x.1, x.2) := by
    conv => lhs; unfold polT
    rw [if_pos hb, takeT_yes hb]
    rfl
  refine ⟨(by simp only; omega), fun h => (by rw [h0] at h; cases h), fun _ hn => ?_, fun _ x hx => ?_⟩
  · cases hr : rowT (polT k) (takeT l [97, 108, 108]) with
    | none => exact h3 h0 hr
    | some x => rw [e, hr] at hn; cases hn
  · cases hr : rowT (polT k) (takeT l [97, 108, 108]) with
    | none => rw [e, hr] at hx; cases hx
    | some q =>
      rw [e, hr] at hx
      cases hx
      obtain ⟨r1, r2, r3⟩ := h4 h0 q hr
      exact ⟨r1, (by simp only [r2]), (by simp only [r3])⟩
theorem PolR.any (h0 : odd = false) (ha : ¬ begins (bare l) [97, 108, 108] = true) (hb : begins (bare l) [97, 110, 121] = true) (hz : RowF k (takeT (takeT l [97, 108, 108]) [97, 110, 121]) odd z) : PolR (k + 1) l odd (z.1, z.2.1, .mk 0 1 z.2.2) := by
  obtain ⟨h1, h2, h3, h4⟩ := hz
  have ht := takeT_len (takeT l [97, 108, 108]) [97, 110, 121]
  have ht2 := takeT_len l [97, 108, 108]
  have e0 : takeT l [97, 108, 108] = bare l := takeT_no ha
  have e1 : takeT (takeT l [97, 108, 108]) [97, 110, 121] = (bare l).drop 3 := by
    rw [e0, takeT_yes (by rw [bare_bare]; exact hb), bare_bare]
    rfl
  have e : polT (k + 1) l = (rowT (polT k) (takeT (takeT l [97, 108, 108]) [97, 110, 121])).map fun x => (.mk 0 1 x.1, x.2) := by
    conv => lhs; unfold polT
    rw [if_neg ha, if_pos hb, e1]
  refine ⟨(by simp only; omega), fun h => (by rw [h0] at h; cases h), fun _ hn => ?_, fun _ x hx => ?_⟩
  · cases hr : rowT (polT k) (takeT (takeT l [97, 108, 108]) [97, 110, 121]) with
    | none => exact h3 h0 hr
    | some x => rw [e, hr] at hn; cases hn
  · cases hr : rowT (polT k) (takeT (takeT l [97, 108, 108]) [97, 110, 121]) with
    | none => rw [e, hr] at hx; cases hx
    | some q =>
      rw [e, hr] at hx
      cases hx
      obtain ⟨r1, r2, r3⟩ := h4 h0 q hr
      exact ⟨r1, (by simp only [r2]), (by simp only [r3])⟩
/-- What is left behind 'all' and 'any', neither of which stands there. -/
theorem two_no (ha : ¬ begins (bare l) [97, 108, 108] = true) (hb : ¬ begins (bare (takeT l [97, 108, 108])) [97, 110, 121] = true) : takeT (takeT l [97, 108, 108]) [97, 110, 121] = bare l := by
  rw [takeT_no hb, takeT_no ha, bare_bare]
theorem numL_bare (l : Txt) (odd : Bool) : numL (bare l) = numL l ∧ numO (bare l) odd = numO l odd ∧ numV (bare l) = numV l := by
  unfold numL numO numV
  rw [bare_bare]
  exact ⟨rfl, rfl, rfl⟩
theorem numL_len (l : Txt) : (numL l).length ≤ l.length := by
  have hb := bare_len l
  unfold numL
  cases h : numT (bare l) with
  | none => exact hb
  | some x =>
    have := numT_short (v := x.1) (r := x.2) h
    show x.2.length ≤ _
    omega
theorem pol_num (ha : ¬ begins (bare l) [97, 108, 108] = true) (hb : ¬ begins (bare l) [97, 110, 121] = true) : polT (k + 1) l = match numT (bare l) with
    | none => none
    | some (v, r) => if begins (bare r) [111, 102] = true then (if 1 ≤ v ∧ v ≤ 99 then (rowT (polT k) ((bare r).drop 2)).map fun x => (.mk 0 v x.1, x.2) else none) else some (.mk v 0 [], r) := by
  conv => lhs; unfold polT
  rw [if_neg ha, if_neg hb]
  cases numT (bare l) with
  | none => rfl
  | some x => obtain ⟨v, r⟩ := x; rfl
/-- No number, or a number alone. -/
theorem PolR.org (h0 : odd = false) (ha : ¬ begins (bare l) [97, 108, 108] = true) (hb : ¬ begins (bare l) [97, 110, 121] = true) (hn : ¬ (numO l odd = false ∧ begins (bare (numL l)) [111, 102] = true)) (t : Txt) (ht : t = numL l ∨ t = bare (numL l)) :
    PolR (k + 1) l odd (t, numO l odd, .mk (numV l) 0 []) := by
  have e := pol_num (k := k) ha hb
  have hl := numL_len l
  have hbl := bare_len (numL l)
  have htl : t.length ≤ l.length := by rcases ht with rfl | rfl <;> omega
  have htb : bare t = bare (numL l) := by
    rcases ht with rfl | rfl
    · rfl
    · rw [bare_bare]
  cases hq : numT (bare l) with
  | none =>
    rw [hq] at e
    obtain ⟨q1, q2, q3⟩ := num_none hq odd
    exact ⟨htl, fun h => (by rw [h0] at h; cases h), fun _ _ => q2, fun _ x hx => (by rw [e] at hx; cases hx)⟩
  | some x =>
    obtain ⟨v, r⟩ := x
    rw [hq] at e
    obtain ⟨q1, q2, q3⟩ := num_some hq odd
    rw [q1, q2] at hn
    have hof : ¬ begins (bare r) [111, 102] = true := fun h => hn ⟨h0, h⟩
    dsimp only at e
    rw [if_neg hof] at e
    refine ⟨htl, fun h => (by rw [h0] at h; cases h), fun _ h => (by rw [e] at h; cases h), fun _ x hx => ?_⟩
    rw [e] at hx
    cases hx
    exact ⟨q2.trans h0, (by rw [htb, q1]), (by rw [q3])⟩
/-- So many of a row. -/
theorem PolR.of (h0 : odd = false) (ha : ¬ begins (bare l) [97, 108, 108] = true) (hb : ¬ begins (bare l) [97, 110, 121] = true) (hq : numO l odd = false) (hof : begins (bare (numL l)) [111, 102] = true) {o2 : Bool} (ho : o2 = (numO l odd || decide (numV l < 1 ∨ 99 < numV l)))
    (hz : RowF k (takeT (numL l) [111, 102]) o2 z) : PolR (k + 1) l odd (z.1, z.2.1, .mk 0 (numV l) z.2.2) := by
  have e := pol_num (k := k) ha hb
  have hl := numL_len l
  have ht := takeT_len (numL l) [111, 102]
  obtain ⟨h1, h2, h3, h4⟩ := hz
  cases hn : numT (bare l) with
  | none =>
    have := (num_none hn odd).2.1
    rw [hq] at this
    cases this
  | some x =>
    obtain ⟨v, r⟩ := x
    rw [hn] at e
    obtain ⟨q1, q2, q3⟩ := num_some hn odd
    rw [q1] at hof hl ht h1 h3 h4
    rw [hq, q3, Bool.false_or] at ho
    dsimp only at e
    rw [if_pos hof] at e
    have e2 : takeT r [111, 102] = (bare r).drop 2 := takeT_yes hof
    rw [e2] at h3 h4
    by_cases hv : 1 ≤ v ∧ v ≤ 99
    · rw [if_pos hv] at e
      have ho2 : o2 = false := by rw [ho]; exact decide_eq_false (by omega)
      refine ⟨(by simp only; omega), fun h => (by rw [h0] at h; cases h), fun _ hn2 => ?_, fun _ x hx => ?_⟩
      · cases hr : rowT (polT k) ((bare r).drop 2) with
        | none => exact h3 ho2 hr
        | some x => rw [e, hr] at hn2; cases hn2
      · cases hr : rowT (polT k) ((bare r).drop 2) with
        | none => rw [e, hr] at hx; cases hx
        | some q =>
          rw [e, hr] at hx
          cases hx
          obtain ⟨r1, r2, r3⟩ := h4 ho2 q hr
          exact ⟨r1, (by simp only [r2]), (by simp only [r3, q3])⟩
    · rw [if_neg hv] at e
      have ho2 : o2 = true := by rw [ho]; exact decide_eq_true (by omega)
      exact ⟨(by simp only; omega), fun h => (by rw [h0] at h; cases h), fun _ _ => h2 ho2, fun _ x hx => (by rw [e] at hx; cases hx)⟩
end
end Go.Proofs.YtejcohlpjikjpaaGreatDoor.A
/-
  Policies' texts, plain: how many nodes, and what the whole text tells.
-/
namespace Go.Proofs.YtejcohlpjikjpaaGreatDoor.A
open Go.RowKit

theorem rowL_nodes {p : Txt → Option (Frm × Txt)} (hp : ∀ t f r, p t = some (f, r) → f.nodes + r.length ≤ t.length) : ∀ (n : Nat) (t : Txt) (acc l : List Frm) (r : Txt), rowL p n t acc = some (l, r) → Frm.nodess l + r.length ≤ Frm.nodess acc + t.length
  | 0, t, acc, l, r, h => by cases h
  | n + 1, t, acc, l, r, h => by
    unfold rowL at h
    cases hq : p t with
    | none => rw [hq] at h; cases h
    | some x =>
      obtain ⟨f, r1⟩ := x
      rw [hq] at h
      have h1 := hp t f r1 hq
      have h2 := bare_len r1
      have h4 : Frm.nodess (acc ++ [f]) = Frm.nodess acc + f.nodes := by rw [Frm.nodess_app, Frm.nodess_one]
      dsimp only at h
      split at h
      · cases h
        rw [List.length_drop]
        omega
      · split at h
        · have h3 := rowL_nodes hp n _ _ _ _ h
          rw [List.length_drop] at h3
          omega
        · cases h
theorem rowT_nodes {p : Txt → Option (Frm × Txt)} (hp : ∀ t f r, p t = some (f, r) → f.nodes + r.length ≤ t.length) {t : Txt} {l : List Frm} {r : Txt} (h : rowT p t = some (l, r)) : Frm.nodess l + r.length + 1 ≤ t.length := by
  unfold rowT at h
  split at h
  · next hb =>
    have h1 := rowL_nodes hp _ _ _ _ _ h
    have h2 := bare_len t
    have h3 := begins_len hb
    have h4 : Frm.nodess [] = 0 := rfl
    simp only [List.length_singleton] at h3
    rw [List.length_drop] at h1
    omega
  · cases h
theorem polT_nodes : ∀ k t f r, polT k t = some (f, r) → f.nodes + r.length ≤ t.length
  | 0, t, f, r, h => by cases h
  | k + 1, t, f, r, h => by
    have hb := bare_len t
    have hnn : Frm.nodess [] = 0 := rfl
    unfold polT at h
    split at h
    · next hs =>
      have hs3 := begins_len hs
      simp only [List.length_cons, List.length_nil] at hs3
      cases hr : rowT (polT k) ((bare t).drop 3) with
      | none => rw [hr] at h; cases h
      | some x =>
        rw [hr] at h
        cases h
        have h1 := rowT_nodes (polT_nodes k) hr
        rw [List.length_drop] at h1
        rw [Frm.nodes_mk]
        omega
    · split at h
      · next hs =>
        have hs3 := begins_len hs
        simp only [List.length_cons, List.length_nil] at hs3
        cases hr : rowT (polT k) ((bare t).drop 3) with
        | none => rw [hr] at h; cases h
        | some x =>
          rw [hr] at h
          cases h
          have h1 := rowT_nodes (polT_nodes k) hr
          rw [List.length_drop] at h1
          rw [Frm.nodes_mk]
          omega
      · cases hn : numT (bare t) with
        | none => rw [hn] at h; cases h
        | some x =>
          obtain ⟨v, r1⟩ := x
          rw [hn] at h
          dsimp only at h
          have h1 := numT_short hn
          have h2 := bare_len r1
          split at h
          · split at h
            · cases hr : rowT (polT k) ((bare r1).drop 2) with
              | none => rw [hr] at h; cases h
              | some x =>
                rw [hr] at h
                cases h
                have h3 := rowT_nodes (polT_nodes k) hr
                rw [List.length_drop] at h3
                rw [Frm.nodes_mk]
                omega
            · cases h
          · cases h
            rw [Frm.nodes_mk]
            omega
section
variable {l : Txt} {n : Int} {y : Txt × Bool × Frm}
theorem parse_long (h : 200 < l.length) : parseF l n = (.mk 0 0 [], 3) := if_pos h
theorem parse_odd (h : ¬ 200 < l.length) (hy : PolR 10 l false y) (ho : y.2.1 = true ∨ ¬ bare y.1 = []) : parseF l n = (.mk 0 0 [], 2) := by
  obtain ⟨_, _, h3, h4⟩ := hy
  unfold parseF
  rw [if_neg h]
  cases hp : polT 10 l with
  | none => rfl
  | some x =>
    obtain ⟨f, r⟩ := x
    obtain ⟨q1, q2, q3⟩ := h4 rfl _ hp
    dsimp only at q2 ⊢
    rcases ho with ho | ho
    · rw [q1] at ho; cases ho
    · rw [← q2, if_pos ho]
/-- A text that is read to its end. -/
theorem parse_end (h : ¬ 200 < l.length) (hy : PolR 10 l false y) (ho : y.2.1 = false) (hb : bare y.1 = []) : y.2.2.nodes ≤ l.length ∧ parseF l n = if y.2.2.check n ≠ 0 then (.mk 0 0 [], y.2.2.check n) else (y.2.2, 0) := by
  obtain ⟨_, _, h3, h4⟩ := hy
  unfold parseF
  rw [if_neg h]
  cases hp : polT 10 l with
  | none => have := h3 rfl hp; rw [ho] at this; cases this
  | some x =>
    obtain ⟨f, r⟩ := x
    obtain ⟨q1, q2, q3⟩ := h4 rfl _ hp
    have hn := polT_nodes 10 l f r hp
    dsimp only at q2 q3 ⊢
    rw [q3]
    refine ⟨by omega, ?_⟩
    rw [if_neg (by rw [← q2, hb]; simp)]
end
end Go.Proofs.YtejcohlpjikjpaaGreatDoor.A
/-
  Policies' texts, plain: what the document's parser answers, step by step.
-/
namespace Go.Proofs.YtejcohlpjikjpaaGreatDoor.A
open Go.RowKit

/-- A number, as the document's parser answers. -/
def numF (t : Txt) : Int × Txt × Bool := match numT t with
  | none => (0, t, false)
  | some x => (((x.1 : Nat) : Int), x.2, true)
theorem numF_none {t : Txt} (h : numT t = none) : numF t = (0, t, false) := by unfold numF; rw [h]
theorem numF_some {t : Txt} {x : Nat × Txt} (h : numT t = some x) : numF t = (((x.1 : Nat) : Int), x.2, true) := by unfold numF; rw [h]
theorem numF_no {t : Txt} (h : (numF t).2.2 = false) : numT t = none := by
  cases hq : numT t with
  | none => rfl
  | some x => rw [numF_some hq] at h; cases h
theorem numF_ok {t : Txt} (h : (numF t).2.2 = true) : ∃ v : Nat, numT t = some (v, (numF t).2.1) ∧ (numF t).1 = (v : Int) ∧ (numF t).2.1.length < t.length ∧ v ≤ 9999 := by
  cases hq : numT t with
  | none => rw [numF_none hq] at h; cases h
  | some x =>
    obtain ⟨v, r⟩ := x
    rw [numF_some hq]
    exact ⟨v, rfl, rfl, numT_short hq, numT_le hq⟩
/-- What the document's parser answers of a policy. -/
def DocP (k : Nat) (l : Txt) (z : Frm × Txt × Bool) : Prop := (polT k l = none → z.2.2 = false) ∧ ∀ x, polT k l = some x → z = (x.1, x.2, true)
def DocR (k : Nat) (l : Txt) (z : List Frm × Txt × Bool) : Prop := (rowT (polT k) l = none → z.2.2 = false) ∧ ∀ x, rowT (polT k) l = some x → z = (x.1, x.2, true)
section
variable {k : Nat} {l : Txt} {y : Frm × Txt × Bool} {w : List Frm × Txt × Bool} {z : Txt × List Frm}
theorem DocP.no (h : DocP k l y) (ho : y.2.2 = false) : polT k l = none := by
  cases hq : polT k l with
  | none => rfl
  | some x => rw [h.2 x hq] at ho; cases ho
theorem DocP.get (h : DocP k l y) (ho : y.2.2 = true) : polT k l = some (y.1, y.2.1) := by
  cases hq : polT k l with
  | none => rw [h.1 hq] at ho; cases ho
  | some x => rw [h.2 x hq]
theorem DocR.no (h : DocR k l w) (ho : w.2.2 = false) : rowT (polT k) l = none := by
  cases hq : rowT (polT k) l with
  | none => rfl
  | some x => rw [h.2 x hq] at ho; cases ho
theorem DocR.get (h : DocR k l w) (ho : w.2.2 = true) : rowT (polT k) l = some (w.1, w.2.1) := by
  cases hq : rowT (polT k) l with
  | none => rw [h.1 hq] at ho; cases ho
  | some x => rw [h.2 x hq]
theorem DocR.of_none (h : rowT (polT k) l = none) (t : Txt) : DocR k l ([], t, false) := ⟨fun _ => rfl, fun x hx => (by rw [h] at hx; cases hx)⟩
theorem DocR.of_some {a : List Frm} {b : Txt} (h : rowT (polT k) l = some (a, b)) : DocR k l (a, b, true) := ⟨fun hx => (by rw [h] at hx; cases hx), fun x hx => (by rw [h] at hx; cases hx; rfl)⟩
theorem DocP.of_none (h : polT k l = none) (hy : y.2.2 = false) : DocP k l y := ⟨fun _ => hy, fun x hx => (by rw [h] at hx; cases hx)⟩
theorem DocP.of_some {a : Frm} {b : Txt} (h : polT k l = some (a, b)) : DocP k l (a, b, true) := ⟨fun hx => (by rw [h] at hx; cases hx), fun x hx => (by rw [h] at hx; cases hx; rfl)⟩
/-- At the head of a round: the text begins with a bracket or a comma. -/
structure DocI (k : Nat) (l : Txt) (z : Txt × List Frm) : Prop where
  pos : 1 ≤ z.1.length
  len : z.1.length ≤ l.length
  few : z.2.length + z.1.length ≤ l.length + 1
  go : ∃ F, z.1.length ≤ F ∧ rowT (polT k) l = rowL (polT k) F (z.1.drop 1) z.2
theorem DocI.start (h : begins (bare l) [40] = true) : DocI k l (bare l, []) := by
  have h1 := begins_len h
  have h2 := bare_len l
  refine ⟨h1, h2, (by simp only [List.length_nil]; omega), l.length + 1, (by simp only; omega), ?_⟩
  unfold rowT
  rw [if_pos h]
theorem DocI.more (h : DocI k l z) : ∃ m, z.1.length ≤ m + 1 ∧ rowT (polT k) l = match polT k (z.1.drop 1) with
    | none => none
    | some (f, r) => if begins (bare r) [41] = true then some (z.2 ++ [f], (bare r).drop 1) else if begins (bare r) [44] = true then rowL (polT k) m ((bare r).drop 1) (z.2 ++ [f]) else none := by
  obtain ⟨F, hF, hR⟩ := h.go
  have hp := h.pos
  obtain ⟨m, rfl⟩ : ∃ m, F = m + 1 := ⟨F - 1, (by omega)⟩
  refine ⟨m, hF, hR.trans ?_⟩
  conv => lhs; unfold rowL
  cases polT k (z.1.drop 1) with
  | none => rfl
  | some x => obtain ⟨f, r⟩ := x; rfl
theorem DocI.no (h : DocI k l z) (hy : DocP k (z.1.drop 1) y) (ho : y.2.2 = false) : rowT (polT k) l = none := by
  obtain ⟨m, _, hR⟩ := h.more
  rw [hR, hy.no ho]
theorem DocI.done (h : DocI k l z) (hy : DocP k (z.1.drop 1) y) (ho : y.2.2 = true) (hb : begins (bare y.2.1) [41] = true) : rowT (polT k) l = some (z.2 ++ [y.1], (bare y.2.1).drop 1) := by
  obtain ⟨m, _, hR⟩ := h.more
  rw [hR, hy.get ho]
  exact if_pos hb
theorem DocI.bad (h : DocI k l z) (hy : DocP k (z.1.drop 1) y) (ho : y.2.2 = true) (hb : ¬ begins (bare y.2.1) [41] = true) (hc : ¬ begins (bare y.2.1) [44] = true) : rowT (polT k) l = none := by
  obtain ⟨m, _, hR⟩ := h.more
  rw [hR, hy.get ho]
  exact (if_neg hb).trans (if_neg hc)
theorem DocI.step (h : DocI k l z) (hy : DocP k (z.1.drop 1) y) (ho : y.2.2 = true) (hb : ¬ begins (bare y.2.1) [41] = true) (hc : begins (bare y.2.1) [44] = true) : DocI k l (bare y.2.1, z.2 ++ [y.1]) ∧ (bare y.2.1).length < z.1.length := by
  obtain ⟨m, hm, hR⟩ := h.more
  have hg := hy.get ho
  have hs := polT_short k _ _ _ hg
  rw [List.length_drop] at hs
  have hbl := bare_len y.2.1
  have hp := h.pos
  have hl := h.len
  have hf := h.few
  have hcl := begins_len hc
  simp only [List.length_singleton] at hcl
  rw [hg] at hR
  refine ⟨⟨hcl, (by simp only; omega), (by simp only [List.length_append, List.length_singleton]; omega), m, (by simp only; omega), ?_⟩, (by omega)⟩
  rw [hR]
  exact (if_neg hb).trans (if_pos hc)
/-! ### Policies -/
theorem DocP.deep (hy : y.2.2 = false) : DocP 0 l y := DocP.of_none rfl hy
theorem DocP.all (hb : begins (bare l) [97, 108, 108] = true) (hw : DocR k ((bare l).drop 3) w) : DocP (k + 1) l (.mk 0 w.1.length w.1, w.2.1, w.2.2) := by
  have e : polT (k + 1) l = (rowT (polT k) ((bare l).drop 3)).map fun x => (.mk 0 x.1.length x.1, x.2) := by
    conv => lhs; unfold polT
    rw [if_pos hb]
  cases hq : rowT (polT k) ((bare l).drop 3) with
  | none => rw [hq] at e; exact DocP.of_none e (hw.1 hq)
  | some x => rw [hq] at e; rw [hw.2 x hq]; exact DocP.of_some e
theorem DocP.any (ha : ¬ begins (bare l) [97, 108, 108] = true) (hb : begins (bare l) [97, 110, 121] = true) (hw : DocR k ((bare l).drop 3) w) : DocP (k + 1) l (.mk 0 1 w.1, w.2.1, w.2.2) := by
  have e : polT (k + 1) l = (rowT (polT k) ((bare l).drop 3)).map fun x => (.mk 0 1 x.1, x.2) := by
    conv => lhs; unfold polT
    rw [if_neg ha, if_pos hb]
  cases hq : rowT (polT k) ((bare l).drop 3) with
  | none => rw [hq] at e; exact DocP.of_none e (hw.1 hq)
  | some x => rw [hq] at e; rw [hw.2 x hq]; exact DocP.of_some e
theorem DocP.bad (ha : ¬ begins (bare l) [97, 108, 108] = true) (hb : ¬ begins (bare l) [97, 110, 121] = true) (hn : (numF (bare l)).2.2 = false) (hy : y.2.2 = false) : DocP (k + 1) l y :=
  DocP.of_none (by rw [pol_num ha hb, numF_no hn]) hy
theorem DocP.org (ha : ¬ begins (bare l) [97, 108, 108] = true) (hb : ¬ begins (bare l) [97, 110, 121] = true) (hn : (numF (bare l)).2.2 = true) (hof : ¬ begins (bare (numF (bare l)).2.1) [111, 102] = true) : DocP (k + 1) l (.mk (numF (bare l)).1 0 [], (numF (bare l)).2.1, true) := by
  obtain ⟨v, h1, h2, _⟩ := numF_ok hn
  refine DocP.of_some ?_
  rw [pol_num ha hb, h1, h2]
  exact if_neg hof
theorem DocP.of (ha : ¬ begins (bare l) [97, 108, 108] = true) (hb : ¬ begins (bare l) [97, 110, 121] = true) (hn : (numF (bare l)).2.2 = true) (hof : begins (bare (numF (bare l)).2.1) [111, 102] = true) (hw : DocR k ((bare (numF (bare l)).2.1).drop 2) w) {o : Bool}
    (ho : o = true ↔ w.2.2 = true ∧ 1 ≤ (numF (bare l)).1 ∧ (numF (bare l)).1 ≤ 99) : DocP (k + 1) l (.mk 0 (numF (bare l)).1 w.1, w.2.1, o) := by
  obtain ⟨v, h1, h2, _⟩ := numF_ok hn
  rw [h2] at ho ⊢
  have e := pol_num (k := k) ha hb
  rw [h1] at e
  dsimp only at e
  rw [if_pos hof] at e
  by_cases hv : 1 ≤ v ∧ v ≤ 99
  · rw [if_pos hv] at e
    cases hq : rowT (polT k) ((bare (numF (bare l)).2.1).drop 2) with
    | none =>
      rw [hq] at e
      refine DocP.of_none e ?_
      have := hw.1 hq
      cases o with
      | false => rfl
      | true => rw [(ho.1 rfl).1] at this; cases this
    | some x =>
      rw [hq] at e
      have hx := hw.2 x hq
      have ho2 : o = true := ho.2 ⟨(by rw [hx]), (by omega), (by omega)⟩
      rw [ho2, hx]
      exact DocP.of_some e
  · rw [if_neg hv] at e
    refine DocP.of_none e ?_
    cases o with
    | false => rfl
    | true => have := ho.1 rfl; exact absurd ⟨(by omega), (by omega)⟩ hv
end
end Go.Proofs.YtejcohlpjikjpaaGreatDoor.A
/-
  Policies' texts: the document's parser.
-/
namespace Go.Proofs.YtejcohlpjikjpaaGreatDoor.A
open Go.RowKit

section
variable {l wd : Txt} {k : Nat} {d n : Int}
end
end Go.Proofs.YtejcohlpjikjpaaGreatDoor.A
/-
  The document's contract: entries, batches, ledgers.
-/
namespace Go.Proofs.YtejcohlpjikjpaaGreatDoor.A
open Go.RowKit

section
variable {l : Lg} {x : Ltr} {k n : Int} {s : ByteArray} {c : Core} {e : Ent} {es : List Ent} {h : List (List Ent)} {e1 e2 : Value}
theorem ldgAt_few {l : Lg} (hr : ∀ b ∈ h, b.length ≤ 10) : ∀ z, z ≤ h.length → (ldgAt n l (h.take z)).ls.length ≤ l.ls.length + 10 * z ∧ (ldgAt n l (h.take z)).os.length ≤ l.os.length + 10 * z
  | 0, _ => ⟨Nat.le_refl _, Nat.le_refl _⟩
  | z + 1, hz => by
    have h1 := ldgAt_few (l := l) hr z (by omega)
    have h2 := goes_few n (ldgAt n l (h.take z)) (h[z]'(by omega))
    have h3 := hr _ (List.getElem_mem (show z < h.length by omega))
    rw [ldgAt_take (by omega)]
    show (Lg.goes n _ _).1.ls.length ≤ _ ∧ (Lg.goes n _ _).1.os.length ≤ _
    omega
theorem ldgAt_seq {l : Lg} : ∀ z, z ≤ h.length → (ldgAt n l (h.take z)).seq = l.seq + z
  | 0, _ => by show l.seq = l.seq + ((0 : Nat) : Int); omega
  | z + 1, hz => by
    rw [ldgAt_take (by omega)]
    show (Lg.goes n _ _).1.seq + 1 = _
    rw [goes_seq, ldgAt_seq z (by omega)]
    omega
theorem foldF_ins {l : Lg} (hl : l.Ins) (hs : i64ok (l.seq + 1)) (he : ∀ e ∈ es, EnIns e) : (l.foldF es n).1.Ins := by
  have h1 := goes_ins n hl he
  exact ⟨by show i64ok ((Lg.goes n l es).1.seq + 1); rw [goes_seq]; exact hs, h1.total, h1.ls, h1.os⟩
theorem ldgAt_ins {l : Lg} (hl : l.Ins) (h0 : l.seq = 0) (hh : HisIns h) (hb : h.length ≤ 1000000) : ∀ z, z ≤ h.length → (ldgAt n l (h.take z)).Ins
  | 0, _ => hl
  | z + 1, hz => by
    rw [ldgAt_take (by omega)]
    refine foldF_ins (ldgAt_ins hl h0 hh hb z (by omega)) ?_ (hh _ (List.getElem_mem (show z < h.length by omega)))
    rw [ldgAt_seq z (by omega), h0]
    unfold i64ok
    omega
end
end Go.Proofs.YtejcohlpjikjpaaGreatDoor.A
