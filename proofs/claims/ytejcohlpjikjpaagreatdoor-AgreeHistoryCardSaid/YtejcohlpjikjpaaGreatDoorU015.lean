/-
  Packed out of the texts: AG7, AG8, AG9, A27, AG10, AG11, AG12, AG13, AG14.
-/
import Derived.Test.YtejcohlpjikjpaaGreatDoorU014
/-
  Agree: where, and how often.
-/
set_option maxRecDepth 100000
set_option linter.unusedSimpArgs false
set_option linter.unusedVariables false
namespace Go.Proofs.YtejcohlpjikjpaaGreatDoor.A
open Go.RowKit

def hitE (client stamp : Int) (p : Ev × ByteArray) : Bool := decide (p.1.client = client ∧ p.1.stamp = stamp ∧ p.1.result ≠ 10)
/-- Where a request is done, and what it comes to. -/
def hitsE (client stamp : Int) (P : List (Ev × ByteArray)) : List (Int × Int) := (P.filter (hitE client stamp)).map fun p => (p.1.seq, p.1.result)
theorem hitsE_hit {client stamp : Int} {p : Ev × ByteArray} {P : List (Ev × ByteArray)} (h : p.1.client = client ∧ p.1.stamp = stamp ∧ p.1.result ≠ 10) : hitsE client stamp (p :: P) = (p.1.seq, p.1.result) :: hitsE client stamp P := by
  unfold hitsE
  rw [List.filter_cons_of_pos (show hitE client stamp p = true from decide_eq_true h)]
  rfl
theorem hitsE_miss {client stamp : Int} {p : Ev × ByteArray} {P : List (Ev × ByteArray)} (h : ¬ (p.1.client = client ∧ p.1.stamp = stamp ∧ p.1.result ≠ 10)) : hitsE client stamp (p :: P) = hitsE client stamp P := by
  unfold hitsE
  rw [List.filter_cons_of_neg (by show ¬ decide _ = true; rw [decide_eq_false h]; decide)]
def tellS {S : Type} (tell : S → Int → Int → S × Bool) : S → List (Int × Int) → S
  | s, [] => s
  | s, x :: l => if (tell s x.1 x.2).2 = true then tellS tell (tell s x.1 x.2).1 l else (tell s x.1 x.2).1
theorem doF_err64 {l : Lg} {e : Ent} {n : Int} : i64ok (l.doF e n).2 := by
  unfold Lg.doF
  split
  · show i64ok 10; unfold i64ok; omega
  · split
    · show i64ok (e.core.check n)
      unfold Core.check
      repeat' split
      all_goals (unfold i64ok; omega)
    · exact small_i64 res_err
section
variable {S Hd : Type} {C : S → Hd → Pc} {tell : S → Int → Int → S × Bool} {Inv : Nat → S → Prop} {k : Nat} {caps : List Abs} {s0 : S} {v0 : Hd} {n client stamp : Int} {h : List (List Ent)} {e1 e2 : Value}
set_option maxHeartbeats 4000000 in
theorem done_s (he : isIf e1) (hr : isIf e2) (g1 : goesIn Tryz.prog k = true) (hE : ∀ i s v (q e : Int), Inv i s → i ≤ 400 → 1 ≤ q → q ≤ 1000 → i64ok e → Spec Tryz.prog k (int q :: int e :: caps) [.pc (C s v)] (fun r : Hd => [.pc (C (tell s q e).1 r)]) (fun _ => boo (tell s q e).2)) (hE2 : ∀ i s (q e : Int), Inv i s → Inv (i + 1) (tell s q e).1) (h0 : Inv 0 s0) (hh : HisIns h) (hro : ∀ b ∈ h, b.length ≤ 10) (hn : h.length ≤ 40) : Spec Tryz.prog 30 [histA h, int n, int client, int stamp, .fn (.func k) [] caps] (.pc (C s0 v0) :: (globs e1 e2)) (fun r : Hd => [.pc (C (tellS tell s0 (hitsE client stamp (evsH n 0 Lg.zero h))) r)]) (fun _ => .tup []) := by
 refine spec_of Tryz.func30 rfl Tryz.ntmps30 rfl fun G w => ?_
 refine SC.seq (SC.region ?_)
 refine SL.val (Val.buildS tabOk rfl rfl rfl rfl) rfl rfl ?_
 refine SL.eff (Eff.alloc tabOk rfl) rfl rfl ?_
 rintro _ _ ⟨b10, rfl, rfl⟩
 refine SL.eff (Eff.store (L' := (zabs [.int .i64 0, .int .i64 0, .slice none 0 0, .slice none 0 0])) tabOk rfl rfl rfl (by repeat first|assumption|exact Upd.here|apply Upd.there) rfl (lb_ (by rfl)) rfl (by exact putL_whole rfl)) rfl rfl ?_
 rintro _ _ ⟨rfl, rfl⟩
 refine SL.re [] (Re.cast (ds := Lg.zero.abs) (Casts.keep (Casts.keep (Casts.nils (s := 6) (Casts.nils (s := 3) Casts.refl))))) rfl ?_
 refine SL.nil (SE.seq ?_)
 refine SC.seq (SC.region ?_)
 refine SL.val (Val.move rfl) rfl rfl ?_
 first
  | refine SL.val (Val.lenSl rfl Tryz.underlying26 (List.length_map _)) rfl rfl ?_
  | refine SL.val (Val.lenOwn rfl (by repeat first|assumption|exact m0|apply m1) Tryz.underlying26 (List.length_map _)) rfl rfl ?_
  | refine SL.val (Val.lenNil rfl Tryz.underlying26) rfl rfl ?_
 refine SL.val (Val.move rfl) rfl rfl ?_
 refine SL.nil (SE.seq ?_)
 refine SC.block ?_
 refine SC.rowLe (i := 17) rfl fun hrow => ?_
 rw [List.length_map] at hrow
 unfold maxLen at hrow
 refine SC.loop (ι := Nat × S × Lg × Hd) (fun z => (.blk b10 66 z.2.2.1.abs :: .pc (C z.2.1 z.2.2.2) :: (globs e1 e2))) (fun z => [(1, int n), (2, int client), (3, int stamp), (4, .fn (.func k) [] caps), (10, ptr b10), (17, histA h), (18, int (h.length : Nat)), (19, int (z.1 : Nat))]) (fun z => z.1 ≤ h.length ∧ tellS tell z.2.1 (hitsE client stamp (evsH n z.1 z.2.2.1 (h.drop z.1))) = (tellS tell s0 (hitsE client stamp (evsH n 0 Lg.zero h))) ∧ (∃ i, i ≤ 10 * z.1 ∧ Inv i z.2.1) ∧ z.2.2.1.ls.length ≤ 10 * z.1 ∧ z.2.2.1.os.length ≤ 10 * z.1 ∧ z.2.2.1.Ins) (fun z => h.length - z.1) (0, s0, Lg.zero, v0) (⟨Nat.zero_le _, rfl, ⟨0, Nat.le_refl _, h0⟩, Nat.le_refl _, Nat.le_refl _, Lg.zero_ins⟩) (by exact ⟨rfl, rfl, rfl, rfl, rfl, rfl, rfl, rfl, trivial⟩) (by repeat first|exact s0 _|exact s1 _|apply s2|apply s3) ?_
 intro z hz
 refine SC.seq (SC.region ?_)
 refine SL.val (Val.ltI rfl rfl) rfl rfl ?_
 refine SL.nil (SE.seq ?_)
 refine SC.seq ?_
 refine SC.condP rfl ?_ ?_
 rotate_left
 ·intro hc20
  refine SC.exit ?_
  refine SE.then_ nofun ?_
  refine SE.then_ nofun ?_
  refine SE.exit ?_
  have hfe := hz.2.1
  rw [show h.drop z.1 = [] from List.drop_eq_nil_of_le (by omega)] at hfe
  have hfe : z.2.1 = (tellS tell s0 (hitsE client stamp (evsH n 0 Lg.zero h))) := hfe
  refine SE.finN (rs := []) rfl RV.nil (z.2.2.2) (by rw [← hfe]; repeat (first | exact List.nil_sublist _ | exact List.Sublist.refl _ | apply List.Sublist.cons_cons | apply List.Sublist.cons)) (by simp [It.rids]) ?_
  exact rfl
 intro hc20
 have hzl : z.1 < h.length := by omega
 have hbl := hro _ (List.getElem_mem hzl)
 refine SC.skip ?_
 refine SE.seq ?_
 refine SC.seq ?_
 refine SC.block ?_
 refine SC.seq (SC.region ?_)
 refine SL.val (Val.move rfl) rfl rfl ?_
 refine SL.val (Val.indexSl tabOk Tryz.underlying26 rfl rfl rfl rfl (at_map (by omega)) rfl rfl) rfl rfl ?_
 refine SL.val (Val.load1R tabOk rfl rfl rfl) rfl rfl ?_
 iterate 2 refine SL.val (Val.assign rfl) rfl rfl ?_
 refine SL.nil (SE.seq ?_)
 refine SC.seq (SC.region ?_)
 refine SL.val (Val.move rfl) rfl rfl ?_
 first
  | refine SL.val (Val.lenSl rfl Tryz.underlying33 (List.length_map _)) rfl rfl ?_
  | refine SL.val (Val.lenOwn rfl (by repeat first|assumption|exact m0|apply m1) Tryz.underlying33 (List.length_map _)) rfl rfl ?_
  | refine SL.val (Val.lenNil rfl Tryz.underlying33) rfl rfl ?_
 refine SL.val (Val.move rfl) rfl rfl ?_
 refine SL.nil (SE.seq ?_)
 refine SC.block ?_
 refine SC.rowLe (i := 24) rfl fun hro2 => ?_
 rw [List.length_map] at hro2
 unfold maxLen at hro2
 refine SC.loop (ι := Nat × S × Lg × Hd) (fun y => (.blk b10 66 y.2.2.1.abs :: .pc (C y.2.1 y.2.2.2) :: (globs e1 e2))) (fun y => [(1, int n), (2, int client), (3, int stamp), (4, .fn (.func k) [] caps), (10, ptr b10), (17, histA h), (18, int (h.length : Nat)), (19, int (z.1 : Nat)), (11, int (z.1 : Nat)), (24, entsR (h[z.1]'hzl)), (25, int ((h[z.1]'hzl).length : Nat)), (26, int (y.1 : Nat))]) (fun y => y.1 ≤ (h[z.1]'hzl).length ∧ tellS tell y.2.1 (hitsE client stamp (evsB n z.1 y.2.2.1 ((h[z.1]'hzl).drop y.1) ++ evsH n (z.1 + 1) (lgB n y.2.2.1 ((h[z.1]'hzl).drop y.1)) (h.drop (z.1 + 1)))) = (tellS tell s0 (hitsE client stamp (evsH n 0 Lg.zero h))) ∧ (∃ i, i ≤ 10 * z.1 + y.1 ∧ Inv i y.2.1) ∧ y.2.2.1.ls.length ≤ 10 * z.1 + y.1 ∧ y.2.2.1.os.length ≤ 10 * z.1 + y.1 ∧ y.2.2.1.Ins) (fun y => (h[z.1]'hzl).length - y.1) (0, z.2) (⟨Nat.zero_le _, by have h9 := hz.2.1; rw [evsH_step hzl] at h9; exact h9, hz.2.2.1, hz.2.2.2.1, hz.2.2.2.2.1, hz.2.2.2.2.2⟩) (by exact ⟨rfl, rfl, rfl, rfl, rfl, rfl, rfl, rfl, rfl, rfl, rfl, rfl, trivial⟩) (by repeat first|exact s0 _|exact s1 _|apply s2|apply s3) ?_
 intro y hy
 refine SC.seq (SC.region ?_)
 refine SL.val (Val.ltI rfl rfl) rfl rfl ?_
 refine SL.nil (SE.seq ?_)
 refine SC.seq ?_
 refine SC.condP rfl ?_ ?_
 rotate_left
 ·intro hc27
  obtain ⟨q0, q1, ⟨i9, q3, q4⟩, q5, q6, q7⟩ := hy
  rw [show (h[z.1]'hzl).drop y.1 = [] from List.drop_eq_nil_of_le (by omega)] at q1
  refine SC.exit ?_
  refine SE.then_ nofun ?_
  refine SE.then_ nofun ?_
  refine SE.exit ?_
  refine SE.inBlock ?_
  refine SE.seq ?_
  refine SC.region ?_
  first
   | refine SL.val (Val.addI rfl rfl (by simp only [InR, lo, hi]; omega)) rfl rfl ?_
   | refine SL.val (Val.addW rfl rfl) rfl rfl ?_
  refine SL.val (Val.move rfl) rfl rfl ?_
  refine SL.nil ?_
  refine SE.round (z.1 + 1, y.2) (by first | omega | (dsimp only; omega)) (⟨by dsimp only; omega, q1, ⟨i9, by dsimp only; omega, q4⟩, by dsimp only; omega, by dsimp only; omega, q7⟩) (by exact ⟨rfl, rfl, rfl, rfl, rfl, rfl, rfl, rfl, trivial⟩) (by repeat first|exact s0 _|exact s1 _|apply s2|apply s3)
 intro hc27
 have hyl : y.1 < (h[z.1]'hzl).length := by omega
 have hen := hh _ (List.getElem_mem hzl) _ (List.getElem_mem hyl)
 obtain ⟨i9, q3, q4⟩ := hy.2.2.1
 have hdl := doF_len (l := y.2.2.1) (e := ((h[z.1]'hzl)[y.1]'hyl)) (n := n)
 have hst := hy.2.1
 rw [evsB_step hyl, lgB_step hyl, List.cons_append] at hst
 refine SC.skip ?_
 refine SE.seq ?_
 refine SC.seq ?_
 refine SC.block ?_
 refine SC.seq (SC.region ?_)
 refine SL.val (Val.indexSl tabOk Tryz.underlying33 rfl rfl rfl rfl (at_map (by omega)) rfl rfl) rfl rfl ?_
 refine SL.val (Val.loadAR tabOk rfl rfl rfl (by rfl)) rfl rfl ?_
 refine SL.eff (Eff.alloc tabOk rfl) rfl rfl ?_
 rintro _ _ ⟨b14, rfl, rfl⟩
 refine SL.eff (Eff.store (L' := entA ((h[z.1]'hzl)[y.1]'hyl)) tabOk rfl rfl rfl (by repeat first|assumption|exact Upd.here|apply Upd.there) rfl (lb_ (by rfl)) rfl (by exact putL_whole rfl)) rfl rfl ?_
 rintro _ _ ⟨rfl, rfl⟩
 refine SL.nil (SE.seq ?_)
 refine SC.seq (SC.region ?_)
 refine SL.val (Val.assign rfl) rfl rfl ?_
 refine SL.nil (SE.seq ?_)
 refine SC.seq (SC.region ?_)
 refine SL.val (Val.to (C := .agg y.2.2.1.abs) (Val.loadP tabOk rfl rfl rfl (by repeat first|assumption|exact o0_|exact o1_|apply o2_) List.not_mem_nil (lb_ (by rfl))) rfl) rfl rfl ?_
 refine SL.val (Val.to (C := .agg (entA ((h[z.1]'hzl)[y.1]'hyl))) (Val.loadP tabOk rfl rfl rfl (by repeat first|assumption|exact o0_|exact o1_|apply o2_) List.not_mem_nil (lb_ (by rfl))) rfl) rfl rfl ?_
 refine SL.val (Val.move rfl) rfl rfl ?_
 refine SL.call (do_s (l := y.2.2.1) (e := ((h[z.1]'hzl)[y.1]'hyl)) (n := n) he hr hen.mask ⟨by omega, by omega⟩ hy.2.2.2.2.2.wf hen.a (by have := hen.text; unfold maxLen at this; omega)) Casts.refl (by kernel_rfl) rfl rfl rfl ?_
 refine ap_ ?_
 intro _
 refine SL.val (Val.move rfl) rfl rfl ?_
 refine SL.val (Val.extract rfl rfl) rfl rfl ?_
 refine SL.val (Val.extract rfl rfl) rfl rfl ?_
 refine SL.eff (Eff.store (L' := (y.2.2.1.doF ((h[z.1]'hzl)[y.1]'hyl) n).1.abs) tabOk rfl rfl rfl (by repeat first|assumption|exact Upd.here|apply Upd.there) rfl (lb_ (by rfl)) rfl (by exact putL_whole rfl)) rfl rfl ?_
 rintro _ _ ⟨rfl, rfl⟩
 refine SL.val (Val.assign rfl) rfl rfl ?_
 refine SL.nil (SE.seq ?_)
 refine SC.seq ?_
 refine SC.seq (SC.region ?_)
 refine SL.val (Val.fieldAddr tabOk rfl rfl rfl rfl rfl) rfl rfl ?_
 refine SL.val (Val.fieldAddr tabOk rfl rfl rfl rfl rfl) rfl rfl ?_
 refine SL.val (Val.to (C := int ((h[z.1]'hzl)[y.1]'hyl).core.client) (Val.load1 tabOk rfl rfl (by repeat first|assumption|exact o0_|exact o1_|apply o2_) List.not_mem_nil (by rfl)) rfl) rfl rfl ?_
 refine SL.val (Val.move rfl) rfl rfl ?_
 refine SL.val (Val.neI rfl rfl) rfl rfl ?_
 refine SL.val (Val.move rfl) rfl rfl ?_
 refine SL.bothP (t := 42) rfl ?_ ?_
 ·intro hc42
  iterate 5 refine SL.skip rfl rfl ?_
  refine SL.val (Val.pickT rfl rfl) rfl rfl ?_
  refine SL.val (Val.move rfl) rfl rfl ?_
  iterate 2 refine SL.skip rfl rfl ?_
  refine SL.val (Val.pickT rfl rfl) rfl rfl ?_
  refine SL.nil (SE.seq ?_)
  refine SC.condT rfl ?_
  refine SC.exit ?_
  refine SE.then_ nofun ?_
  refine SE.exit ?_
  refine SE.seq ?_
  refine SC.region ?_
  first
   | refine SL.val (Val.addI rfl rfl (by simp only [InR, lo, hi]; omega)) rfl rfl ?_
   | refine SL.val (Val.addW rfl rfl) rfl rfl ?_
  refine SL.val (Val.move rfl) rfl rfl ?_
  refine SL.nil ?_
  refine SE.round (y.1 + 1, y.2.1, (y.2.2.1.doF ((h[z.1]'hzl)[y.1]'hyl) n).1, y.2.2.2) (by first | omega | (dsimp only; omega)) (⟨by dsimp only; omega, by rw [hitsE_miss (by rintro ⟨a1, a2, a3⟩; first | exact hc42 a1 | exact hc49 a2 | exact a3 hc52)] at hst; exact hst, ⟨i9, by dsimp only; omega, q4⟩, by dsimp only; omega, by dsimp only; omega, doF_ins hy.2.2.2.2.2 hen⟩) (by exact ⟨rfl, rfl, rfl, rfl, rfl, rfl, rfl, rfl, rfl, rfl, rfl, rfl, trivial⟩) (by repeat first|exact s0 _|exact s1 _|apply s2|apply s3)
 intro hc42
 refine SL.val (Val.fieldAddr tabOk rfl rfl rfl rfl rfl) rfl rfl ?_
 refine SL.val (Val.fieldAddr tabOk rfl rfl rfl rfl rfl) rfl rfl ?_
 refine SL.val (Val.to (C := int ((h[z.1]'hzl)[y.1]'hyl).core.stamp) (Val.load1 tabOk rfl rfl (by repeat first|assumption|exact o0_|exact o1_|apply o2_) List.not_mem_nil (by rfl)) rfl) rfl rfl ?_
 refine SL.val (Val.move rfl) rfl rfl ?_
 refine SL.val (Val.neI rfl rfl) rfl rfl ?_
 refine SL.val (Val.pickF rfl rfl) rfl rfl ?_
 refine SL.val (Val.move rfl) rfl rfl ?_
 refine SL.bothP (t := 49) rfl ?_ ?_
 ·intro hc49
  iterate 2 refine SL.skip rfl rfl ?_
  refine SL.val (Val.pickT rfl rfl) rfl rfl ?_
  refine SL.nil (SE.seq ?_)
  refine SC.condT rfl ?_
  refine SC.exit ?_
  refine SE.then_ nofun ?_
  refine SE.exit ?_
  refine SE.seq ?_
  refine SC.region ?_
  first
   | refine SL.val (Val.addI rfl rfl (by simp only [InR, lo, hi]; omega)) rfl rfl ?_
   | refine SL.val (Val.addW rfl rfl) rfl rfl ?_
  refine SL.val (Val.move rfl) rfl rfl ?_
  refine SL.nil ?_
  refine SE.round (y.1 + 1, y.2.1, (y.2.2.1.doF ((h[z.1]'hzl)[y.1]'hyl) n).1, y.2.2.2) (by first | omega | (dsimp only; omega)) (⟨by dsimp only; omega, by rw [hitsE_miss (by rintro ⟨a1, a2, a3⟩; first | exact hc42 a1 | exact hc49 a2 | exact a3 hc52)] at hst; exact hst, ⟨i9, by dsimp only; omega, q4⟩, by dsimp only; omega, by dsimp only; omega, doF_ins hy.2.2.2.2.2 hen⟩) (by exact ⟨rfl, rfl, rfl, rfl, rfl, rfl, rfl, rfl, rfl, rfl, rfl, rfl, trivial⟩) (by repeat first|exact s0 _|exact s1 _|apply s2|apply s3)
 intro hc49
 refine SL.val (Val.move rfl) rfl rfl ?_
 refine SL.val (Val.eqI rfl rfl) rfl rfl ?_
 refine SL.val (Val.pickF rfl rfl) rfl rfl ?_
 refine SL.nil (SE.seq ?_)
 refine SC.condP rfl ?_ ?_
 ·intro hc52
  refine SC.exit ?_
  refine SE.then_ nofun ?_
  refine SE.exit ?_
  refine SE.seq ?_
  refine SC.region ?_
  first
   | refine SL.val (Val.addI rfl rfl (by simp only [InR, lo, hi]; omega)) rfl rfl ?_
   | refine SL.val (Val.addW rfl rfl) rfl rfl ?_
  refine SL.val (Val.move rfl) rfl rfl ?_
  refine SL.nil ?_
  refine SE.round (y.1 + 1, y.2.1, (y.2.2.1.doF ((h[z.1]'hzl)[y.1]'hyl) n).1, y.2.2.2) (by first | omega | (dsimp only; omega)) (⟨by dsimp only; omega, by rw [hitsE_miss (by rintro ⟨a1, a2, a3⟩; first | exact hc42 a1 | exact hc49 a2 | exact a3 hc52)] at hst; exact hst, ⟨i9, by dsimp only; omega, q4⟩, by dsimp only; omega, by dsimp only; omega, doF_ins hy.2.2.2.2.2 hen⟩) (by exact ⟨rfl, rfl, rfl, rfl, rfl, rfl, rfl, rfl, rfl, rfl, rfl, rfl, trivial⟩) (by repeat first|exact s0 _|exact s1 _|apply s2|apply s3)
 intro hc52
 refine SC.skip ?_
 refine SE.seq ?_
 refine SC.seq (SC.region ?_)
 iterate 2 refine SL.val (Val.move rfl) rfl rfl ?_
 first
  | refine SL.val (Val.addI rfl rfl (by simp only [InR, lo, hi]; omega)) rfl rfl ?_
  | refine SL.val (Val.addW rfl rfl) rfl rfl ?_
 refine SL.val (Val.move rfl) rfl rfl ?_
 refine SL.callv (hE i9 y.2.1 y.2.2.2 ((z.1 : Int) + 1) (y.2.2.1.doF ((h[z.1]'hzl)[y.1]'hyl) n).2 q4 (by omega) (by omega) (by omega) doF_err64) rfl Casts.refl g1 rfl rfl rfl ?_
 refine After.one rfl (by repeat first|assumption|exact m0|apply m1) (fun _ => rfl) ?_
 intro r57
 refine ⟨_, (by repeat first|assumption|exact Upd.here|apply Upd.there), ?_⟩
 refine SL.val (Val.notB rfl) rfl rfl ?_
 refine SL.nil (SE.seq ?_)
 refine SC.cond rfl ?_ ?_
 rotate_left
 ·intro hc58
  refine SC.skip ?_
  refine SE.inBlock ?_
  refine SE.seq ?_
  refine SC.region ?_
  first
   | refine SL.val (Val.addI rfl rfl (by simp only [InR, lo, hi]; omega)) rfl rfl ?_
   | refine SL.val (Val.addW rfl rfl) rfl rfl ?_
  refine SL.val (Val.move rfl) rfl rfl ?_
  refine SL.nil ?_
  refine SE.round (y.1 + 1, (tell y.2.1 ((z.1 : Int) + 1) (y.2.2.1.doF ((h[z.1]'hzl)[y.1]'hyl) n).2).1, (y.2.2.1.doF ((h[z.1]'hzl)[y.1]'hyl) n).1, r57) (by first | omega | (dsimp only; omega)) (⟨by dsimp only; omega, by rw [hitsE_hit (p := ((evOf n z.1 y.2.2.1 ((h[z.1]'hzl)[y.1]'hyl)), ((h[z.1]'hzl)[y.1]'hyl).core.letter)) ⟨Classical.not_not.1 hc42, Classical.not_not.1 hc49, hc52⟩, tellS, if_pos (by have h7 : (tell y.2.1 ((z.1 : Int) + 1) (y.2.2.1.doF ((h[z.1]'hzl)[y.1]'hyl) n).2).2 = true := (by simpa using hc58); exact h7)] at hst; exact hst, ⟨i9 + 1, by dsimp only; omega, hE2 _ _ _ _ q4⟩, by dsimp only; omega, by dsimp only; omega, doF_ins hy.2.2.2.2.2 hen⟩) (by exact ⟨rfl, rfl, rfl, rfl, rfl, rfl, rfl, rfl, rfl, rfl, rfl, rfl, trivial⟩) (by repeat first|exact s0 _|exact s1 _|apply s2|apply s3)
 intro hc58
 refine SC.ret ?_
 refine SE.ret ?_
 refine SE.then_ nofun ?_
 refine SE.then_ nofun ?_
 refine SE.ret ?_
 refine SE.ret ?_
 refine SE.then_ nofun ?_
 refine SE.then_ nofun ?_
 refine SE.ret ?_
 rw [hitsE_hit (p := ((evOf n z.1 y.2.2.1 ((h[z.1]'hzl)[y.1]'hyl)), ((h[z.1]'hzl)[y.1]'hyl).core.letter)) ⟨Classical.not_not.1 hc42, Classical.not_not.1 hc49, hc52⟩, tellS, if_neg (by have h7 : (tell y.2.1 ((z.1 : Int) + 1) (y.2.2.1.doF ((h[z.1]'hzl)[y.1]'hyl) n).2).2 = false := (by simpa using hc58); exact fun h8 => Bool.false_ne_true (h7.symm.trans h8))] at hst
 refine SE.fin (rs := []) rfl RV.nil (r57) (by rw [← hst]; repeat (first | exact List.nil_sublist _ | exact List.Sublist.refl _ | apply List.Sublist.cons_cons | apply List.Sublist.cons)) (by simp [It.rids]) ?_
 exact rfl
end
end Go.Proofs.YtejcohlpjikjpaaGreatDoor.A
/-
  Agree: where, and how often, the program's.
-/
namespace Go.Proofs.YtejcohlpjikjpaaGreatDoor.A
open Go.RowKit

def whereF : List (Int × Int) → Int × Int × Bool
  | [] => (0, 0, false)
  | x :: _ => (x.1, x.2, true)
def whT (_ : Int × Int × Bool) (q e : Int) : (Int × Int × Bool) × Bool := ((q, e, true), false)
def tiT (s : Nat) (_ _ : Int) : Nat × Bool := (s + 1, true)
theorem wh_tell (l : List (Int × Int)) : tellS whT (0, 0, false) l = whereF l := by cases l <;> rfl
theorem ti_tell : ∀ (l : List (Int × Int)) (s : Nat), tellS tiT s l = s + l.length
  | [], s => rfl
  | x :: l, s => by
    show tellS tiT (s + 1) l = _
    rw [ti_tell l, List.length_cons]
    omega
abbrev cWh (p q r : Nat) (s : Int × Int × Bool) : Pc := bigI [.blk r 4 [boo s.2.2], .blk q 35 [int s.2.1], .blk p 2 [int s.1]]
abbrev cTi (p : Nat) (s : Nat) : Pc := bigI [.blk p 3 [int (s : Nat)]]
section
variable {n client stamp : Int} {h : List (List Ent)} {e1 e2 : Value} {q e : Int} {s : Int × Int × Bool} {sn b8 b9 b10 : Nat}
theorem where1_s  : Spec Tryz.prog 31 [int q, int e, ptr b8, ptr b9, ptr b10] [.blk b10 4 [boo s.2.2], .blk b9 35 [int s.2.1], .blk b8 2 [int s.1]] (fun _ : Unit => [.blk b10 4 [boo true], .blk b9 35 [int e], .blk b8 2 [int q]]) (fun _ => boo false) := by
 refine spec_of Tryz.func31 rfl Tryz.ntmps31 rfl fun G w => ?_
 refine SC.seq (SC.region ?_)
 refine SL.val (Val.assign rfl) rfl rfl ?_
 refine SL.nil (SE.seq ?_)
 refine SC.seq (SC.region ?_)
 iterate 2 refine SL.val (Val.move rfl) rfl rfl ?_
 refine SL.eff (Eff.store (L' := [int q]) tabOk rfl rfl rfl (by repeat first|assumption|exact Upd.here|apply Upd.there) rfl (lb_ (by rfl)) rfl (by rfl)) rfl rfl ?_
 rintro _ _ ⟨rfl, rfl⟩
 refine SL.eff (Eff.store (L' := [int e]) tabOk rfl rfl rfl (by repeat first|assumption|exact Upd.here|apply Upd.there) rfl (lb_ (by rfl)) rfl (by rfl)) rfl rfl ?_
 rintro _ _ ⟨rfl, rfl⟩
 refine SL.eff (Eff.store (L' := [boo true]) tabOk rfl rfl rfl (by repeat first|assumption|exact Upd.here|apply Upd.there) rfl (lb_ (by rfl)) rfl (by rfl)) rfl rfl ?_
 rintro _ _ ⟨rfl, rfl⟩
 refine SL.nil (SE.seq ?_)
 refine SC.seq (SC.region ?_)
 refine SL.val (Val.assign rfl) rfl rfl ?_
 refine SL.nil (SE.seq ?_)
 refine SC.ret ?_
 refine SE.fin (rs := [.tmp 7]) rfl (RV.tmp rfl RV.nil) (()) (by repeat first|exact s0 _|exact s1 _|apply s2|apply s3) (by simp [It.rids]) ?_
 exact rfl
theorem times1_s (hs : sn ≤ 100000) : Spec Tryz.prog 33 [int q, int e, ptr b9] [.blk b9 3 [int (sn : Nat)]] (fun _ : Unit => [.blk b9 3 [int ((sn + 1 : Nat) : Int)]]) (fun _ => boo true) := by
 refine spec_of Tryz.func33 rfl Tryz.ntmps33 rfl fun G w => ?_
 refine SC.seq (SC.region ?_)
 refine SL.val (Val.assign rfl) rfl rfl ?_
 refine SL.nil (SE.seq ?_)
 refine SC.seq (SC.region ?_)
 refine SL.val (Val.to (C := int (sn : Nat)) (Val.load1 tabOk rfl rfl (by repeat first|assumption|exact o0_|exact o1_|apply o2_) List.not_mem_nil (by rfl)) rfl) rfl rfl ?_
 refine SL.val (Val.to (C := int ((sn + 1 : Nat) : Int)) (Val.addI rfl rfl (by simp only [InR, lo, hi]; omega)) (by refine congrArg int ?_; omega)) rfl rfl ?_
 refine SL.eff (Eff.store (L' := [int ((sn + 1 : Nat) : Int)]) tabOk rfl rfl rfl (by repeat first|assumption|exact Upd.here|apply Upd.there) rfl (lb_ (by rfl)) rfl (by rfl)) rfl rfl ?_
 rintro _ _ ⟨rfl, rfl⟩
 refine SL.nil (SE.seq ?_)
 refine SC.seq (SC.region ?_)
 refine SL.val (Val.assign rfl) rfl rfl ?_
 refine SL.nil (SE.seq ?_)
 refine SC.ret ?_
 refine SE.fin (rs := [.tmp 5]) rfl (RV.tmp rfl RV.nil) (()) (by repeat first|exact s0 _|exact s1 _|apply s2|apply s3) (by simp [It.rids]) ?_
 exact rfl
set_option maxHeartbeats 1000000 in
theorem where_s (he : isIf e1) (hr : isIf e2) (hh : HisIns h) (hro : ∀ b ∈ h, b.length ≤ 10) (hn : h.length ≤ 40) : Spec Tryz.prog 17 [histA h, int n, int client, int stamp] (globs e1 e2) (fun _ : Unit => []) (fun _ => .tup [int (whereF (hitsE client stamp (evsH n 0 Lg.zero h))).1, int (whereF (hitsE client stamp (evsH n 0 Lg.zero h))).2.1, boo (whereF (hitsE client stamp (evsH n 0 Lg.zero h))).2.2]) := by
 refine spec_of Tryz.func17 rfl Tryz.ntmps17 rfl fun G w => ?_
 refine SC.seq (SC.region ?_)
 refine SL.eff (Eff.alloc tabOk rfl) rfl rfl ?_
 rintro _ _ ⟨b8, rfl, rfl⟩
 refine SL.eff (Eff.alloc tabOk rfl) rfl rfl ?_
 rintro _ _ ⟨b9, rfl, rfl⟩
 refine SL.eff (Eff.alloc tabOk rfl) rfl rfl ?_
 rintro _ _ ⟨b10, rfl, rfl⟩
 refine SL.nil (SE.seq ?_)
 refine SC.seq (SC.region ?_)
 iterate 3 refine SL.val (Val.move rfl) rfl rfl ?_
 refine SL.re [] (Re.bigIn (xs := [_, _, _]) rfl) rfl ?_
 refine SL.val (Val.move rfl) rfl rfl ?_
 refine SL.val (Val.makeFunc rfl rfl) rfl rfl ?_
 refine SL.call (done_s (C := fun s (_ : Unit) => cWh b8 b9 b10 s) (tell := whT) (Inv := fun _ _ => True) (k := 31) (caps := [ptr b8, ptr b9, ptr b10]) (s0 := (0, 0, false)) (v0 := ()) (n := n) (client := client) (stamp := stamp) (h := h) he hr (by kernel_rfl) (fun i s v q e _ _ _ _ _ => Spec.big (where1_s (s := s)) rfl (fun _ => rfl)) (fun _ _ _ _ _ => trivial) trivial hh hro hn) Casts.refl (by kernel_rfl) rfl rfl rfl ?_
 refine After.oneR (ys := (globs e1 e2)) rfl (by repeat first|assumption|exact m0|apply m1) (by intro y hy; simp only [globs, List.mem_cons, List.not_mem_nil, or_false] at hy; rcases hy with rfl | rfl | rfl <;> exact ⟨by repeat first|assumption|exact m0|apply m1, by intro h; cases h⟩) rfl (fun _ => rfl) ?_
 intro _
 refine ⟨_, (by repeat first|assumption|exact Upd.here|apply Upd.there), ?_⟩
 rw [wh_tell]
 refine SL.re [] (Re.bigOut rfl) rfl ?_
 refine SL.nil (SE.seq ?_)
 refine SC.seq ?_
 refine SC.nod fun hnod => ?_
 have hbx : b10 ∉ [b8, b9] := by
  have h9 : (b10 :: b9 :: b8 :: mids (globs e1 e2)).Nodup := hnod
  rw [List.nodup_cons] at h9
  intro hm
  simp only [List.mem_cons, List.not_mem_nil, or_false] at hm
  rcases hm with rfl | rfl <;> simp at h9
 refine SC.drawS 5 [b8, b9] (.q 2 (.two 0 1 (.two 1 3 (.e 3 (.e 4 .nil)) (.e 1 (.e 4 .nil))) (.e 0 (.e 3 (.e 4 .nil))))) (.e 5 .nil) (by kernel_rfl) (by kernel_rfl) ?_
 refine SX.hx (by first|(simp[mids,It.mids,ownPc];done)|(intro k hk;simp[mids,It.mids,ownPc] at hk ⊢;grind)) fun hx9 => ?_
 refine SX.val rfl (Val.to (C := boo (whereF (hitsE client stamp (evsH n 0 Lg.zero h))).2.2) (Val.load1 tabOk rfl rfl (by repeat first|assumption|exact o0_|exact o1_|apply o2_) hbx (by rfl)) rfl) hx9 rfl rfl ?_
 refine SX.two ?_ ?_
 ·skip
  refine SX.valE rfl (Val.to (C := int (whereF (hitsE client stamp (evsH n 0 Lg.zero h))).1) (Val.load1 tabOk rfl rfl (by repeat first|assumption|exact o0_|exact o1_|apply o2_) List.not_mem_nil (by rfl)) rfl) rfl rfl ?_
  refine SX.two ?_ ?_
  ·skip
   refine SX.valE rfl (Val.to (C := int (whereF (hitsE client stamp (evsH n 0 Lg.zero h))).2.1) (Val.load1 tabOk rfl rfl (by repeat first|assumption|exact o0_|exact o1_|apply o2_) List.not_mem_nil (by rfl)) rfl) rfl rfl ?_
   refine SX.eff rfl (Eff.store (L' := [int (whereF (hitsE client stamp (evsH n 0 Lg.zero h))).1]) tabOk rfl rfl rfl (by repeat first|assumption|exact Upd.here|apply Upd.there) rfl (lb_ (by rfl)) rfl (by rfl)) (by simp) rfl rfl ?_
   rintro _ _ ⟨rfl, rfl⟩
   refine SX.eff rfl (Eff.store (L' := [int (whereF (hitsE client stamp (evsH n 0 Lg.zero h))).2.1]) tabOk rfl rfl rfl (by repeat first|assumption|exact Upd.here|apply Upd.there) rfl (lb_ (by rfl)) rfl (by rfl)) (by simp) rfl rfl ?_
   rintro _ _ ⟨rfl, rfl⟩
   refine SX.nil ?_
   refine SE.rest [b10] ?_
   refine SX.eff rfl (Eff.store (L' := [boo (whereF (hitsE client stamp (evsH n 0 Lg.zero h))).2.2]) tabOk rfl rfl rfl (by repeat first|assumption|exact Upd.here|apply Upd.there) rfl (lb_ (by rfl)) rfl (by rfl)) (by simp) rfl rfl ?_
   rintro _ _ ⟨rfl, rfl⟩
   refine SX.nil (SE.seq ?_)
   refine SC.ret ?_
   refine SE.fin (rs := [.cell 8 2, .cell 9 35, .cell 10 4]) rfl (RV.cell rfl (RV.cell1 tabOk rfl (by repeat first|assumption|exact o0_|exact o1_|apply o2_) (by rfl)) (RV.cell rfl (RV.cell1 tabOk rfl (by repeat first|assumption|exact o0_|exact o1_|apply o2_) (by rfl)) (RV.cell rfl (RV.cell1 tabOk rfl (by repeat first|assumption|exact o0_|exact o1_|apply o2_) (by rfl)) RV.nil))) (()) (by repeat first|exact s0 _|exact s1 _|apply s2|apply s3) (by simp [It.rids]) ?_
   exact rfl
  ·skip
   refine SX.eff rfl (Eff.store (L' := [int (whereF (hitsE client stamp (evsH n 0 Lg.zero h))).1]) tabOk rfl rfl rfl (by repeat first|assumption|exact Upd.here|apply Upd.there) rfl (lb_ (by rfl)) rfl (by rfl)) (by simp) rfl rfl ?_
   rintro _ _ ⟨rfl, rfl⟩
   refine SX.valE rfl (Val.to (C := int (whereF (hitsE client stamp (evsH n 0 Lg.zero h))).2.1) (Val.load1 tabOk rfl rfl (by repeat first|assumption|exact o0_|exact o1_|apply o2_) List.not_mem_nil (by rfl)) rfl) rfl rfl ?_
   refine SX.eff rfl (Eff.store (L' := [int (whereF (hitsE client stamp (evsH n 0 Lg.zero h))).2.1]) tabOk rfl rfl rfl (by repeat first|assumption|exact Upd.here|apply Upd.there) rfl (lb_ (by rfl)) rfl (by rfl)) (by simp) rfl rfl ?_
   rintro _ _ ⟨rfl, rfl⟩
   refine SX.nil ?_
   refine SE.rest [b10] ?_
   refine SX.eff rfl (Eff.store (L' := [boo (whereF (hitsE client stamp (evsH n 0 Lg.zero h))).2.2]) tabOk rfl rfl rfl (by repeat first|assumption|exact Upd.here|apply Upd.there) rfl (lb_ (by rfl)) rfl (by rfl)) (by simp) rfl rfl ?_
   rintro _ _ ⟨rfl, rfl⟩
   refine SX.nil (SE.seq ?_)
   refine SC.ret ?_
   refine SE.fin (rs := [.cell 8 2, .cell 9 35, .cell 10 4]) rfl (RV.cell rfl (RV.cell1 tabOk rfl (by repeat first|assumption|exact o0_|exact o1_|apply o2_) (by rfl)) (RV.cell rfl (RV.cell1 tabOk rfl (by repeat first|assumption|exact o0_|exact o1_|apply o2_) (by rfl)) (RV.cell rfl (RV.cell1 tabOk rfl (by repeat first|assumption|exact o0_|exact o1_|apply o2_) (by rfl)) RV.nil))) (()) (by repeat first|exact s0 _|exact s1 _|apply s2|apply s3) (by simp [It.rids]) ?_
   exact rfl
 ·skip
  refine SX.valE rfl (Val.to (C := int (whereF (hitsE client stamp (evsH n 0 Lg.zero h))).2.1) (Val.load1 tabOk rfl rfl (by repeat first|assumption|exact o0_|exact o1_|apply o2_) List.not_mem_nil (by rfl)) rfl) rfl rfl ?_
  refine SX.valE rfl (Val.to (C := int (whereF (hitsE client stamp (evsH n 0 Lg.zero h))).1) (Val.load1 tabOk rfl rfl (by repeat first|assumption|exact o0_|exact o1_|apply o2_) List.not_mem_nil (by rfl)) rfl) rfl rfl ?_
  refine SX.eff rfl (Eff.store (L' := [int (whereF (hitsE client stamp (evsH n 0 Lg.zero h))).1]) tabOk rfl rfl rfl (by repeat first|assumption|exact Upd.here|apply Upd.there) rfl (lb_ (by rfl)) rfl (by rfl)) (by simp) rfl rfl ?_
  rintro _ _ ⟨rfl, rfl⟩
  refine SX.eff rfl (Eff.store (L' := [int (whereF (hitsE client stamp (evsH n 0 Lg.zero h))).2.1]) tabOk rfl rfl rfl (by repeat first|assumption|exact Upd.here|apply Upd.there) rfl (lb_ (by rfl)) rfl (by rfl)) (by simp) rfl rfl ?_
  rintro _ _ ⟨rfl, rfl⟩
  refine SX.nil ?_
  refine SE.rest [b10] ?_
  refine SX.eff rfl (Eff.store (L' := [boo (whereF (hitsE client stamp (evsH n 0 Lg.zero h))).2.2]) tabOk rfl rfl rfl (by repeat first|assumption|exact Upd.here|apply Upd.there) rfl (lb_ (by rfl)) rfl (by rfl)) (by simp) rfl rfl ?_
  rintro _ _ ⟨rfl, rfl⟩
  refine SX.nil (SE.seq ?_)
  refine SC.ret ?_
  refine SE.fin (rs := [.cell 8 2, .cell 9 35, .cell 10 4]) rfl (RV.cell rfl (RV.cell1 tabOk rfl (by repeat first|assumption|exact o0_|exact o1_|apply o2_) (by rfl)) (RV.cell rfl (RV.cell1 tabOk rfl (by repeat first|assumption|exact o0_|exact o1_|apply o2_) (by rfl)) (RV.cell rfl (RV.cell1 tabOk rfl (by repeat first|assumption|exact o0_|exact o1_|apply o2_) (by rfl)) RV.nil))) (()) (by repeat first|exact s0 _|exact s1 _|apply s2|apply s3) (by simp [It.rids]) ?_
  exact rfl
set_option maxHeartbeats 1000000 in
theorem times_s (he : isIf e1) (hr : isIf e2) (hh : HisIns h) (hro : ∀ b ∈ h, b.length ≤ 10) (hn : h.length ≤ 40) : Spec Tryz.prog 19 [histA h, int n, int client, int stamp] (globs e1 e2) (fun _ : Unit => []) (fun _ => int ((hitsE client stamp (evsH n 0 Lg.zero h)).length : Nat)) := by
 refine spec_of Tryz.func19 rfl Tryz.ntmps19 rfl fun G w => ?_
 refine SC.seq (SC.region ?_)
 refine SL.val (Val.assign rfl) rfl rfl ?_
 refine SL.nil (SE.seq ?_)
 refine SC.seq (SC.region ?_)
 refine SL.eff (Eff.alloc tabOk rfl) rfl rfl ?_
 rintro _ _ ⟨b9, rfl, rfl⟩
 refine SL.eff (Eff.store (L' := [int ((0 : Nat) : Int)]) tabOk rfl rfl rfl (by repeat first|assumption|exact Upd.here|apply Upd.there) rfl (lb_ (by rfl)) rfl (by rfl)) rfl rfl ?_
 rintro _ _ ⟨rfl, rfl⟩
 refine SL.nil (SE.seq ?_)
 refine SC.seq (SC.region ?_)
 iterate 3 refine SL.val (Val.move rfl) rfl rfl ?_
 refine SL.re [] (Re.bigIn (xs := [_]) rfl) rfl ?_
 refine SL.val (Val.move rfl) rfl rfl ?_
 refine SL.val (Val.makeFunc rfl rfl) rfl rfl ?_
 refine SL.call (done_s (C := fun s (_ : Unit) => cTi b9 s) (tell := tiT) (Inv := fun i s => s ≤ i) (k := 33) (caps := [ptr b9]) (s0 := 0) (v0 := ()) (n := n) (client := client) (stamp := stamp) (h := h) he hr (by kernel_rfl) (fun i s v q e hs hi9 _ _ _ => Spec.big (times1_s (sn := s) (by have hs : s ≤ i := hs; omega)) rfl (fun _ => rfl)) (fun i s q e hs => Nat.succ_le_succ hs) (Nat.le_refl 0) hh hro hn) Casts.refl (by kernel_rfl) rfl rfl rfl ?_
 refine After.oneR (ys := (globs e1 e2)) rfl (by repeat first|assumption|exact m0|apply m1) (by intro y hy; simp only [globs, List.mem_cons, List.not_mem_nil, or_false] at hy; rcases hy with rfl | rfl | rfl <;> exact ⟨by repeat first|assumption|exact m0|apply m1, by intro h; cases h⟩) rfl (fun _ => rfl) ?_
 intro _
 refine ⟨_, (by repeat first|assumption|exact Upd.here|apply Upd.there), ?_⟩
 rw [ti_tell, Nat.zero_add]
 refine SL.re [] (Re.bigOut rfl) rfl ?_
 refine SL.nil (SE.seq ?_)
 refine SC.seq (SC.region ?_)
 refine SL.val (Val.to (C := int ((hitsE client stamp (evsH n 0 Lg.zero h)).length : Nat)) (Val.load1 tabOk rfl rfl (by repeat first|assumption|exact o0_|exact o1_|apply o2_) List.not_mem_nil (by rfl)) rfl) rfl rfl ?_
 refine SL.val (Val.assign rfl) rfl rfl ?_
 refine SL.nil (SE.seq ?_)
 refine SC.ret ?_
 refine SE.fin (rs := [.tmp 8]) rfl (RV.tmp rfl RV.nil) (()) (by repeat first|exact s0 _|exact s1 _|apply s2|apply s3) (by simp [It.rids]) ?_
 exact rfl
set_option maxHeartbeats 4000000 in
theorem rdone_s (hh : HisIns h) (hro : ∀ b ∈ h, b.length ≤ 10) (hn : h.length ≤ 40) (hss : ∀ b ∈ h, ∀ e ∈ b, e.core.letter.size ≤ lots) : Spec Tryz.prog 32 [histA h, int n, int client, int stamp] [] (fun _ : Unit => []) (fun _ => .tup [.sl 1 ((hitsE client stamp (evsH n 0 Lg.zero h)).map fun p => [int p.1]), .sl 1 ((hitsE client stamp (evsH n 0 Lg.zero h)).map fun p => [int p.2])]) := by
 refine spec_of Tryz.func32 rfl Tryz.ntmps32 rfl fun G w => ?_
 refine SC.seq (SC.region ?_)
 iterate 2 refine SL.val (Val.assign rfl) rfl rfl ?_
 refine SL.nil (SE.seq ?_)
 refine SC.seq (SC.region ?_)
 refine SL.val (Val.assign rfl) rfl rfl ?_
 refine SL.nil (SE.seq ?_)
 refine SC.seq (SC.region ?_)
 refine SL.val (Val.assign rfl) rfl rfl ?_
 refine SL.nil (SE.seq ?_)
 refine SC.seq (SC.region ?_)
 refine SL.val (Val.buildS tabOk rfl rfl rfl rfl) rfl rfl ?_
 refine SL.eff (Eff.alloc tabOk rfl) rfl rfl ?_
 rintro _ _ ⟨b12, rfl, rfl⟩
 refine SL.eff (Eff.store (L' := (zabs [.int .i64 0, .int .i64 0, .slice none 0 0, .slice none 0 0])) tabOk rfl rfl rfl (by repeat first|assumption|exact Upd.here|apply Upd.there) rfl (lb_ (by rfl)) rfl (by exact putL_whole rfl)) rfl rfl ?_
 rintro _ _ ⟨rfl, rfl⟩
 refine SL.re [] (Re.cast (ds := Lg.zero.abs) (Casts.keep (Casts.keep (Casts.nils (s := 6) (Casts.nils (s := 3) Casts.refl))))) rfl ?_
 refine SL.nil (SE.seq ?_)
 refine SC.seq ?_
 refine SC.seq (SC.region ?_)
 refine SL.val (Val.move rfl) rfl rfl ?_
 first
  | refine SL.val (Val.lenSl rfl Tryz.underlying26 (List.length_map _)) rfl rfl ?_
  | refine SL.val (Val.lenOwn rfl (by repeat first|assumption|exact m0|apply m1) Tryz.underlying26 (List.length_map _)) rfl rfl ?_
  | refine SL.val (Val.lenNil rfl Tryz.underlying26) rfl rfl ?_
 refine SL.val (Val.move rfl) rfl rfl ?_
 refine SL.nil (SE.seq ?_)
 refine SC.block ?_
 refine SC.rowLe (i := 20) rfl fun hrow => ?_
 rw [List.length_map] at hrow
 unfold maxLen at hrow
 refine SC.own0 2 1 ?_
 refine SC.own0 35 1 ?_
 refine SC.loop (ι := Nat × List (Int × Int) × Lg × Value × Value) (fun z => (own 35 1 z.2.2.2.2 (z.2.1.map fun p => [int p.2]) :: own 2 1 z.2.2.2.1 (z.2.1.map fun p => [int p.1]) :: .blk b12 66 z.2.2.1.abs :: [])) (fun z => [(1, int n), (2, int client), (3, int stamp), (10, .v z.2.2.2.1), (11, .v z.2.2.2.2), (12, ptr b12), (20, histA h), (21, int (h.length : Nat)), (22, int (z.1 : Nat))]) (fun z => z.1 ≤ h.length ∧ z.2.1 ++ hitsE client stamp (evsH n z.1 z.2.2.1 (h.drop z.1)) = (hitsE client stamp (evsH n 0 Lg.zero h)) ∧ z.2.1.length ≤ 10 * z.1 ∧ z.2.2.1.ls.length ≤ 10 * z.1 ∧ z.2.2.1.os.length ≤ 10 * z.1 ∧ z.2.2.1.Ins) (fun z => h.length - z.1) (0, [], Lg.zero, .slice none 0 0, .slice none 0 0) (⟨Nat.zero_le _, rfl, Nat.le_refl _, Nat.le_refl _, Nat.le_refl _, Lg.zero_ins⟩) (by exact ⟨rfl, rfl, rfl, rfl, rfl, rfl, rfl, rfl, rfl, trivial⟩) (by repeat first|exact s0 _|exact s1 _|apply s2|apply s3) ?_
 intro z hz
 refine SC.seq (SC.region ?_)
 refine SL.val (Val.ltI rfl rfl) rfl rfl ?_
 refine SL.nil (SE.seq ?_)
 refine SC.seq ?_
 refine SC.condP rfl ?_ ?_
 rotate_left
 ·intro hc23
  have hfe := hz.2.1
  rw [show h.drop z.1 = [] from List.drop_eq_nil_of_le (by omega)] at hfe
  have hfe : z.2.1 = (hitsE client stamp (evsH n 0 Lg.zero h)) := (List.append_nil _).symm.trans hfe
  rw [hfe]
  refine SC.exit ?_
  refine SE.then_ nofun ?_
  refine SE.then_ nofun ?_
  refine SE.exit ?_
  refine SE.seq ?_
  refine SC.seq (SC.region ?_)
  iterate 2 refine SL.val (Val.move rfl) rfl rfl ?_
  iterate 2 refine SL.val (Val.assign rfl) rfl rfl ?_
  refine SL.nil (SE.seq ?_)
  refine SC.ret ?_
  refine SE.freeze [] (t := 9) rfl rfl ?_
  refine SE.freeze [] (t := 8) rfl rfl ?_
  refine SE.fin (rs := [.tmp 8, .tmp 9]) rfl (RV.tmp rfl (RV.tmp rfl RV.nil)) (()) (by repeat first|exact s0 _|exact s1 _|apply s2|apply s3) (by simp [It.rids]) ?_
  exact rfl
 intro hc23
 have hzl : z.1 < h.length := by omega
 have hbl := hro _ (List.getElem_mem hzl)
 refine SC.skip ?_
 refine SE.seq ?_
 refine SC.seq ?_
 refine SC.block ?_
 refine SC.seq (SC.region ?_)
 refine SL.val (Val.move rfl) rfl rfl ?_
 refine SL.val (Val.indexSl tabOk Tryz.underlying26 rfl rfl rfl rfl (at_map (by omega)) rfl rfl) rfl rfl ?_
 refine SL.val (Val.load1R tabOk rfl rfl rfl) rfl rfl ?_
 iterate 2 refine SL.val (Val.assign rfl) rfl rfl ?_
 refine SL.nil (SE.seq ?_)
 refine SC.seq (SC.region ?_)
 refine SL.val (Val.move rfl) rfl rfl ?_
 first
  | refine SL.val (Val.lenSl rfl Tryz.underlying33 (List.length_map _)) rfl rfl ?_
  | refine SL.val (Val.lenOwn rfl (by repeat first|assumption|exact m0|apply m1) Tryz.underlying33 (List.length_map _)) rfl rfl ?_
  | refine SL.val (Val.lenNil rfl Tryz.underlying33) rfl rfl ?_
 refine SL.val (Val.move rfl) rfl rfl ?_
 refine SL.nil (SE.seq ?_)
 refine SC.block ?_
 refine SC.rowLe (i := 27) rfl fun hro2 => ?_
 rw [List.length_map] at hro2
 unfold maxLen at hro2
 refine SC.loop (ι := Nat × List (Int × Int) × Lg × Value × Value) (fun y => (own 35 1 y.2.2.2.2 (y.2.1.map fun p => [int p.2]) :: own 2 1 y.2.2.2.1 (y.2.1.map fun p => [int p.1]) :: .blk b12 66 y.2.2.1.abs :: [])) (fun y => [(1, int n), (2, int client), (3, int stamp), (10, .v y.2.2.2.1), (11, .v y.2.2.2.2), (12, ptr b12), (20, histA h), (21, int (h.length : Nat)), (22, int (z.1 : Nat)), (13, int (z.1 : Nat)), (27, entsR (h[z.1]'hzl)), (28, int ((h[z.1]'hzl).length : Nat)), (29, int (y.1 : Nat))]) (fun y => y.1 ≤ (h[z.1]'hzl).length ∧ y.2.1 ++ hitsE client stamp (evsB n z.1 y.2.2.1 ((h[z.1]'hzl).drop y.1) ++ evsH n (z.1 + 1) (lgB n y.2.2.1 ((h[z.1]'hzl).drop y.1)) (h.drop (z.1 + 1))) = (hitsE client stamp (evsH n 0 Lg.zero h)) ∧ y.2.1.length ≤ 10 * z.1 + y.1 ∧ y.2.2.1.ls.length ≤ 10 * z.1 + y.1 ∧ y.2.2.1.os.length ≤ 10 * z.1 + y.1 ∧ y.2.2.1.Ins) (fun y => (h[z.1]'hzl).length - y.1) (0, z.2) (⟨Nat.zero_le _, by have h9 := hz.2.1; rw [evsH_step hzl] at h9; exact h9, hz.2.2.1, hz.2.2.2.1, hz.2.2.2.2.1, hz.2.2.2.2.2⟩) (by exact ⟨rfl, rfl, rfl, rfl, rfl, rfl, rfl, rfl, rfl, rfl, rfl, rfl, rfl, trivial⟩) (by repeat first|exact s0 _|exact s1 _|apply s2|apply s3) ?_
 intro y hy
 refine SC.seq (SC.region ?_)
 refine SL.val (Val.ltI rfl rfl) rfl rfl ?_
 refine SL.nil (SE.seq ?_)
 refine SC.seq ?_
 refine SC.condP rfl ?_ ?_
 rotate_left
 ·intro hc30
  obtain ⟨q0, q1, q3, q5, q6, q7⟩ := hy
  rw [show (h[z.1]'hzl).drop y.1 = [] from List.drop_eq_nil_of_le (by omega)] at q1
  refine SC.exit ?_
  refine SE.then_ nofun ?_
  refine SE.then_ nofun ?_
  refine SE.exit ?_
  refine SE.inBlock ?_
  refine SE.seq ?_
  refine SC.region ?_
  first
   | refine SL.val (Val.addI rfl rfl (by simp only [InR, lo, hi]; omega)) rfl rfl ?_
   | refine SL.val (Val.addW rfl rfl) rfl rfl ?_
  refine SL.val (Val.move rfl) rfl rfl ?_
  refine SL.nil ?_
  refine SE.round (z.1 + 1, y.2) (by first | omega | (dsimp only; omega)) (⟨by dsimp only; omega, q1, by dsimp only; omega, by dsimp only; omega, by dsimp only; omega, q7⟩) (by exact ⟨rfl, rfl, rfl, rfl, rfl, rfl, rfl, rfl, rfl, trivial⟩) (by repeat first|exact s0 _|exact s1 _|apply s2|apply s3)
 intro hc30
 have hyl : y.1 < (h[z.1]'hzl).length := by omega
 have hen := hh _ (List.getElem_mem hzl) _ (List.getElem_mem hyl)
 have hdl := doF_len (l := y.2.2.1) (e := ((h[z.1]'hzl)[y.1]'hyl)) (n := n)
 have hst := hy.2.1
 rw [evsB_step hyl, lgB_step hyl, List.cons_append] at hst
 refine SC.skip ?_
 refine SE.seq ?_
 refine SC.seq ?_
 refine SC.block ?_
 refine SC.seq (SC.region ?_)
 refine SL.val (Val.indexSl tabOk Tryz.underlying33 rfl rfl rfl rfl (at_map (by omega)) rfl rfl) rfl rfl ?_
 refine SL.val (Val.loadAR tabOk rfl rfl rfl (by rfl)) rfl rfl ?_
 refine SL.eff (Eff.alloc tabOk rfl) rfl rfl ?_
 rintro _ _ ⟨b16, rfl, rfl⟩
 refine SL.eff (Eff.store (L' := entA ((h[z.1]'hzl)[y.1]'hyl)) tabOk rfl rfl rfl (by repeat first|assumption|exact Upd.here|apply Upd.there) rfl (lb_ (by rfl)) rfl (by exact putL_whole rfl)) rfl rfl ?_
 rintro _ _ ⟨rfl, rfl⟩
 refine SL.nil (SE.seq ?_)
 refine SC.seq (SC.region ?_)
 refine SL.val (Val.to (C := .agg y.2.2.1.abs) (Val.loadP tabOk rfl rfl rfl (by repeat first|assumption|exact o0_|exact o1_|apply o2_) List.not_mem_nil (lb_ (by rfl))) rfl) rfl rfl ?_
 refine SL.val (Val.to (C := .agg (entA ((h[z.1]'hzl)[y.1]'hyl))) (Val.loadP tabOk rfl rfl rfl (by repeat first|assumption|exact o0_|exact o1_|apply o2_) List.not_mem_nil (lb_ (by rfl))) rfl) rfl rfl ?_
 refine SL.val (Val.move rfl) rfl rfl ?_
 refine SL.call (rdo_s (l := y.2.2.1) (e := ((h[z.1]'hzl)[y.1]'hyl)) (n := n) ⟨by omega, by omega⟩ hy.2.2.2.2.2.wf hen (by have := hss _ (List.getElem_mem hzl) _ (List.getElem_mem hyl); exact this)) Casts.refl (by kernel_rfl) rfl rfl rfl ?_
 refine ap_ ?_
 intro _
 refine SL.val (Val.move rfl) rfl rfl ?_
 refine SL.val (Val.extract rfl rfl) rfl rfl ?_
 refine SL.val (Val.extract rfl rfl) rfl rfl ?_
 refine SL.eff (Eff.alloc tabOk rfl) rfl rfl ?_
 rintro _ _ ⟨b17, rfl, rfl⟩
 refine SL.eff (Eff.store (L' := (y.2.2.1.doF ((h[z.1]'hzl)[y.1]'hyl) n).1.abs) tabOk rfl rfl rfl (by repeat first|assumption|exact Upd.here|apply Upd.there) rfl (lb_ (by rfl)) rfl (by exact putL_whole rfl)) rfl rfl ?_
 rintro _ _ ⟨rfl, rfl⟩
 refine SL.val (Val.assign rfl) rfl rfl ?_
 refine SL.nil (SE.seq ?_)
 refine SC.seq ?_
 refine SC.seq (SC.region ?_)
 refine SL.val (Val.fieldAddr tabOk rfl rfl rfl rfl rfl) rfl rfl ?_
 refine SL.val (Val.fieldAddr tabOk rfl rfl rfl rfl rfl) rfl rfl ?_
 refine SL.val (Val.to (C := int ((h[z.1]'hzl)[y.1]'hyl).core.client) (Val.load1 tabOk rfl rfl (by repeat first|assumption|exact o0_|exact o1_|apply o2_) List.not_mem_nil (by rfl)) rfl) rfl rfl ?_
 refine SL.val (Val.move rfl) rfl rfl ?_
 refine SL.val (Val.eqI rfl rfl) rfl rfl ?_
 refine SL.val (Val.move rfl) rfl rfl ?_
 refine SL.bothP (t := 45) rfl ?_ ?_
 rotate_left
 ·intro hc45
  iterate 5 refine SL.skip rfl rfl ?_
  refine SL.val (Val.pickF rfl rfl) rfl rfl ?_
  refine SL.val (Val.move rfl) rfl rfl ?_
  iterate 2 refine SL.skip rfl rfl ?_
  refine SL.val (Val.pickF rfl rfl) rfl rfl ?_
  refine SL.nil (SE.seq ?_)
  refine SC.condF rfl ?_
  refine SC.skip ?_
  refine SE.seq ?_
  refine SC.region ?_
  refine SL.val (Val.to (C := .agg (y.2.2.1.doF ((h[z.1]'hzl)[y.1]'hyl) n).1.abs) (Val.loadP tabOk rfl rfl rfl (by repeat first|assumption|exact o0_|exact o1_|apply o2_) List.not_mem_nil (lb_ (by rfl))) rfl) rfl rfl ?_
  refine SL.eff (Eff.store (L' := (y.2.2.1.doF ((h[z.1]'hzl)[y.1]'hyl) n).1.abs) tabOk rfl rfl rfl (by repeat first|assumption|exact Upd.here|apply Upd.there) rfl (lb_ (by rfl)) rfl (by exact putL_whole rfl)) rfl rfl ?_
  rintro _ _ ⟨rfl, rfl⟩
  refine SL.nil ?_
  refine SE.inBlock ?_
  refine SE.seq ?_
  refine SC.region ?_
  first
   | refine SL.val (Val.addI rfl rfl (by simp only [InR, lo, hi]; omega)) rfl rfl ?_
   | refine SL.val (Val.addW rfl rfl) rfl rfl ?_
  refine SL.val (Val.move rfl) rfl rfl ?_
  refine SL.nil ?_
  refine SE.round (y.1 + 1, y.2.1, (y.2.2.1.doF ((h[z.1]'hzl)[y.1]'hyl) n).1, y.2.2.2) (by first | omega | (dsimp only; omega)) (⟨by dsimp only; omega, by rw [hitsE_miss (by rintro ⟨a1, a2, a3⟩; first | exact hc45 a1 | exact hc52 a2 | exact hc55 a3 | exact a3 (Classical.not_not.1 hc55))] at hst; exact hst, by dsimp only; omega, by dsimp only; omega, by dsimp only; omega, doF_ins hy.2.2.2.2.2 hen⟩) (by exact ⟨rfl, rfl, rfl, rfl, rfl, rfl, rfl, rfl, rfl, rfl, rfl, rfl, rfl, trivial⟩) (by repeat first|exact s0 _|exact s1 _|apply s2|apply s3)
 intro hc45
 refine SL.val (Val.fieldAddr tabOk rfl rfl rfl rfl rfl) rfl rfl ?_
 refine SL.val (Val.fieldAddr tabOk rfl rfl rfl rfl rfl) rfl rfl ?_
 refine SL.val (Val.to (C := int ((h[z.1]'hzl)[y.1]'hyl).core.stamp) (Val.load1 tabOk rfl rfl (by repeat first|assumption|exact o0_|exact o1_|apply o2_) List.not_mem_nil (by rfl)) rfl) rfl rfl ?_
 refine SL.val (Val.move rfl) rfl rfl ?_
 refine SL.val (Val.eqI rfl rfl) rfl rfl ?_
 refine SL.val (Val.pickT rfl rfl) rfl rfl ?_
 refine SL.val (Val.move rfl) rfl rfl ?_
 refine SL.bothP (t := 52) rfl ?_ ?_
 rotate_left
 ·intro hc52
  iterate 2 refine SL.skip rfl rfl ?_
  refine SL.val (Val.pickF rfl rfl) rfl rfl ?_
  refine SL.nil (SE.seq ?_)
  refine SC.condF rfl ?_
  refine SC.skip ?_
  refine SE.seq ?_
  refine SC.region ?_
  refine SL.val (Val.to (C := .agg (y.2.2.1.doF ((h[z.1]'hzl)[y.1]'hyl) n).1.abs) (Val.loadP tabOk rfl rfl rfl (by repeat first|assumption|exact o0_|exact o1_|apply o2_) List.not_mem_nil (lb_ (by rfl))) rfl) rfl rfl ?_
  refine SL.eff (Eff.store (L' := (y.2.2.1.doF ((h[z.1]'hzl)[y.1]'hyl) n).1.abs) tabOk rfl rfl rfl (by repeat first|assumption|exact Upd.here|apply Upd.there) rfl (lb_ (by rfl)) rfl (by exact putL_whole rfl)) rfl rfl ?_
  rintro _ _ ⟨rfl, rfl⟩
  refine SL.nil ?_
  refine SE.inBlock ?_
  refine SE.seq ?_
  refine SC.region ?_
  first
   | refine SL.val (Val.addI rfl rfl (by simp only [InR, lo, hi]; omega)) rfl rfl ?_
   | refine SL.val (Val.addW rfl rfl) rfl rfl ?_
  refine SL.val (Val.move rfl) rfl rfl ?_
  refine SL.nil ?_
  refine SE.round (y.1 + 1, y.2.1, (y.2.2.1.doF ((h[z.1]'hzl)[y.1]'hyl) n).1, y.2.2.2) (by first | omega | (dsimp only; omega)) (⟨by dsimp only; omega, by rw [hitsE_miss (by rintro ⟨a1, a2, a3⟩; first | exact hc45 a1 | exact hc52 a2 | exact hc55 a3 | exact a3 (Classical.not_not.1 hc55))] at hst; exact hst, by dsimp only; omega, by dsimp only; omega, by dsimp only; omega, doF_ins hy.2.2.2.2.2 hen⟩) (by exact ⟨rfl, rfl, rfl, rfl, rfl, rfl, rfl, rfl, rfl, rfl, rfl, rfl, rfl, trivial⟩) (by repeat first|exact s0 _|exact s1 _|apply s2|apply s3)
 intro hc52
 refine SL.val (Val.move rfl) rfl rfl ?_
 refine SL.val (Val.neI rfl rfl) rfl rfl ?_
 refine SL.val (Val.pickT rfl rfl) rfl rfl ?_
 refine SL.nil (SE.seq ?_)
 refine SC.condP rfl ?_ ?_
 rotate_left
 ·intro hc55
  refine SC.skip ?_
  refine SE.seq ?_
  refine SC.region ?_
  refine SL.val (Val.to (C := .agg (y.2.2.1.doF ((h[z.1]'hzl)[y.1]'hyl) n).1.abs) (Val.loadP tabOk rfl rfl rfl (by repeat first|assumption|exact o0_|exact o1_|apply o2_) List.not_mem_nil (lb_ (by rfl))) rfl) rfl rfl ?_
  refine SL.eff (Eff.store (L' := (y.2.2.1.doF ((h[z.1]'hzl)[y.1]'hyl) n).1.abs) tabOk rfl rfl rfl (by repeat first|assumption|exact Upd.here|apply Upd.there) rfl (lb_ (by rfl)) rfl (by exact putL_whole rfl)) rfl rfl ?_
  rintro _ _ ⟨rfl, rfl⟩
  refine SL.nil ?_
  refine SE.inBlock ?_
  refine SE.seq ?_
  refine SC.region ?_
  first
   | refine SL.val (Val.addI rfl rfl (by simp only [InR, lo, hi]; omega)) rfl rfl ?_
   | refine SL.val (Val.addW rfl rfl) rfl rfl ?_
  refine SL.val (Val.move rfl) rfl rfl ?_
  refine SL.nil ?_
  refine SE.round (y.1 + 1, y.2.1, (y.2.2.1.doF ((h[z.1]'hzl)[y.1]'hyl) n).1, y.2.2.2) (by first | omega | (dsimp only; omega)) (⟨by dsimp only; omega, by rw [hitsE_miss (by rintro ⟨a1, a2, a3⟩; first | exact hc45 a1 | exact hc52 a2 | exact hc55 a3 | exact a3 (Classical.not_not.1 hc55))] at hst; exact hst, by dsimp only; omega, by dsimp only; omega, by dsimp only; omega, doF_ins hy.2.2.2.2.2 hen⟩) (by exact ⟨rfl, rfl, rfl, rfl, rfl, rfl, rfl, rfl, rfl, rfl, rfl, rfl, rfl, trivial⟩) (by repeat first|exact s0 _|exact s1 _|apply s2|apply s3)
 intro hc55
 refine SC.seq (SC.region ?_)
 iterate 2 refine SL.val (Val.move rfl) rfl rfl ?_
 first
  | refine SL.val (Val.addI rfl rfl (by simp only [InR, lo, hi]; omega)) rfl rfl ?_
  | refine SL.val (Val.addW rfl rfl) rfl rfl ?_
 refine SL.eff (Eff.buildSl tabOk Tryz.underlying58 rfl rfl rfl rfl rfl rfl rfl) rfl rfl ?_
 rintro _ _ ⟨rfl, rfl⟩
 refine SL.eff (Eff.appendE (zs := (y.2.1 ++ [((z.1 : Int) + 1, (y.2.2.1.doF ((h[z.1]'hzl)[y.1]'hyl) n).2)]).map fun p => [int p.1]) tabOk [_, _, _] (by simp only [List.map_append]; rfl) Tryz.underlying58 rfl rfl rfl rfl rfl rfl (by intro c hc; rw [List.mem_singleton] at hc; subst hc; rfl) (by unfold maxLen; simp only [List.length_map, List.length_append, List.length_cons, List.length_nil]; omega) (by rw [show Tryz.prog.bytesOf 2 = 8 by kernel_rfl]; simp only [List.length_map, List.length_append, List.length_cons, List.length_nil]; omega)) rfl rfl ?_
 rintro _ _ ⟨r60, rfl, rfl⟩
 refine SL.val (Val.assign rfl) rfl rfl ?_
 refine SL.nil (SE.seq ?_)
 refine SC.region ?_
 iterate 2 refine SL.val (Val.move rfl) rfl rfl ?_
 refine SL.eff (Eff.buildSl tabOk Tryz.underlying59 rfl rfl rfl rfl rfl rfl rfl) rfl rfl ?_
 rintro _ _ ⟨rfl, rfl⟩
 refine SL.eff (Eff.appendE (zs := (y.2.1 ++ [((z.1 : Int) + 1, (y.2.2.1.doF ((h[z.1]'hzl)[y.1]'hyl) n).2)]).map fun p => [int p.2]) tabOk [_, _] (by simp only [List.map_append]; rfl) Tryz.underlying59 rfl rfl rfl rfl rfl rfl (by intro c hc; rw [List.mem_singleton] at hc; subst hc; rfl) (by unfold maxLen; simp only [List.length_map, List.length_append, List.length_cons, List.length_nil]; omega) (by rw [show Tryz.prog.bytesOf 35 = 8 by kernel_rfl]; simp only [List.length_map, List.length_append, List.length_cons, List.length_nil]; omega)) rfl rfl ?_
 rintro _ _ ⟨r64, rfl, rfl⟩
 refine SL.val (Val.assign rfl) rfl rfl ?_
 refine SL.nil (SE.seq ?_)
 refine SC.region ?_
 refine SL.val (Val.to (C := .agg (y.2.2.1.doF ((h[z.1]'hzl)[y.1]'hyl) n).1.abs) (Val.loadP tabOk rfl rfl rfl (by repeat first|assumption|exact o0_|exact o1_|apply o2_) List.not_mem_nil (lb_ (by rfl))) rfl) rfl rfl ?_
 refine SL.eff (Eff.store (L' := (y.2.2.1.doF ((h[z.1]'hzl)[y.1]'hyl) n).1.abs) tabOk rfl rfl rfl (by repeat first|assumption|exact Upd.here|apply Upd.there) rfl (lb_ (by rfl)) rfl (by exact putL_whole rfl)) rfl rfl ?_
 rintro _ _ ⟨rfl, rfl⟩
 refine SL.nil ?_
 refine SE.inBlock ?_
 refine SE.seq ?_
 refine SC.region ?_
 first
  | refine SL.val (Val.addI rfl rfl (by simp only [InR, lo, hi]; omega)) rfl rfl ?_
  | refine SL.val (Val.addW rfl rfl) rfl rfl ?_
 refine SL.val (Val.move rfl) rfl rfl ?_
 refine SL.nil ?_
 refine SE.round (y.1 + 1, y.2.1 ++ [((z.1 : Int) + 1, (y.2.2.1.doF ((h[z.1]'hzl)[y.1]'hyl) n).2)], (y.2.2.1.doF ((h[z.1]'hzl)[y.1]'hyl) n).1, r60, r64) (by first | omega | (dsimp only; omega)) (⟨by dsimp only; omega, by rw [hitsE_hit (p := ((evOf n z.1 y.2.2.1 ((h[z.1]'hzl)[y.1]'hyl)), ((h[z.1]'hzl)[y.1]'hyl).core.letter)) ⟨hc45, hc52, hc55⟩] at hst; exact (List.append_assoc _ [_] _).trans hst, by simp only [List.length_append, List.length_singleton]; omega, by dsimp only; omega, by dsimp only; omega, doF_ins hy.2.2.2.2.2 hen⟩) (by exact ⟨rfl, rfl, rfl, rfl, rfl, rfl, rfl, rfl, rfl, rfl, rfl, rfl, rfl, trivial⟩) (by repeat first|exact s0 _|exact s1 _|apply s2|apply s3)
theorem rwhere_s (hh : HisIns h) (hro : ∀ b ∈ h, b.length ≤ 10) (hn : h.length ≤ 40) (hss : ∀ b ∈ h, ∀ e ∈ b, e.core.letter.size ≤ lots) : Spec Tryz.prog 18 [histA h, int n, int client, int stamp] [] (fun _ : Unit => []) (fun _ => .tup [int (whereF (hitsE client stamp (evsH n 0 Lg.zero h))).1, int (whereF (hitsE client stamp (evsH n 0 Lg.zero h))).2.1, boo (whereF (hitsE client stamp (evsH n 0 Lg.zero h))).2.2]) := by
 refine spec_of Tryz.func18 rfl Tryz.ntmps18 rfl fun G w => ?_
 refine SC.seq (SC.region ?_)
 iterate 3 refine SL.val (Val.assign rfl) rfl rfl ?_
 refine SL.nil (SE.seq ?_)
 refine SC.seq (SC.region ?_)
 iterate 4 refine SL.val (Val.move rfl) rfl rfl ?_
 refine SL.call (rdone_s (n := n) (client := client) (stamp := stamp) hh hro hn hss) Casts.refl (by kernel_rfl) rfl rfl rfl ?_
 refine ap_ ?_
 intro _
 refine SL.val (Val.move rfl) rfl rfl ?_
 refine SL.val (Val.extract rfl rfl) rfl rfl ?_
 refine SL.val (Val.extract rfl rfl) rfl rfl ?_
 iterate 2 refine SL.val (Val.assign rfl) rfl rfl ?_
 refine SL.nil (SE.seq ?_)
 refine SC.seq ?_
 refine SC.seq (SC.region ?_)
 refine SL.val (Val.move rfl) rfl rfl ?_
 refine SL.val (Val.to (C := int ((hitsE client stamp (evsH n 0 Lg.zero h)).length : Nat)) (Val.lenSl (m := (hitsE client stamp (evsH n 0 Lg.zero h)).length) rfl Tryz.underlying58 (List.length_map _)) rfl) rfl rfl ?_
 refine SL.val (Val.eqI rfl rfl) rfl rfl ?_
 refine SL.nil (SE.seq ?_)
 refine SC.condP rfl ?_ ?_
 ·intro hc23
  refine SC.seq (SC.region ?_)
  iterate 3 refine SL.val (Val.assign rfl) rfl rfl ?_
  refine SL.nil (SE.seq ?_)
  refine SC.ret ?_
  refine SE.then_ nofun ?_
  refine SE.fin (rs := [.tmp 8, .tmp 9, .tmp 10]) rfl (RV.tmp rfl (RV.tmp rfl (RV.tmp rfl RV.nil))) (()) (by repeat first|exact s0 _|exact s1 _|apply s2|apply s3) (by simp [It.rids]) ?_
  rw [show (hitsE client stamp (evsH n 0 Lg.zero h)) = [] from List.length_eq_zero_iff.1 (by omega)]
  rfl
 intro hc23
 obtain ⟨x9, l9, hxq⟩ : ∃ x l, (hitsE client stamp (evsH n 0 Lg.zero h)) = x :: l := List.exists_cons_of_ne_nil (fun h9 => hc23 (by rw [h9]; rfl))
 refine SC.skip ?_
 refine SE.seq ?_
 refine SC.seq ?_
 refine SC.draw [] (.q 0 (.q 1 (.q 2 (.q 3 (.q 4 (.q 5 (.q 6 (.q 7 (.q 8 .nil))))))))) (by kernel_rfl) (by kernel_rfl) ?_
 refine SX.val rfl (Val.move rfl) (by simp) rfl rfl ?_
 refine SX.hx (by first|(simp[mids,It.mids,ownPc];done)|(intro k hk;simp[mids,It.mids,ownPc] at hk ⊢;grind)) fun hx9 => ?_
 refine SX.val rfl (Val.indexSl (q := 0) (cs := [int x9.1]) tabOk Tryz.underlying58 rfl rfl rfl rfl (by rw [hxq]; rfl) rfl rfl) hx9 rfl rfl ?_
 refine SX.val rfl (Val.to (C := int x9.1) (Val.load1R tabOk rfl rfl rfl) rfl) hx9 rfl rfl ?_
 refine SX.val rfl (Val.move rfl) (by simp) rfl rfl ?_
 refine SX.val rfl (Val.indexSl (q := 0) (cs := [int x9.2]) tabOk Tryz.underlying59 rfl rfl rfl rfl (by rw [hxq]; rfl) rfl rfl) hx9 rfl rfl ?_
 refine SX.val rfl (Val.to (C := int x9.2) (Val.load1R tabOk rfl rfl rfl) rfl) hx9 rfl rfl ?_
 refine SX.val rfl (Val.assign rfl) (by simp) rfl rfl ?_
 refine SX.val rfl (Val.assign rfl) (by simp) rfl rfl ?_
 refine SX.val rfl (Val.assign rfl) (by simp) rfl rfl ?_
 refine SX.nil (SE.seq ?_)
 refine SC.ret ?_
 refine SE.fin (rs := [.tmp 8, .tmp 9, .tmp 10]) rfl (RV.tmp rfl (RV.tmp rfl (RV.tmp rfl RV.nil))) (()) (by repeat first|exact s0 _|exact s1 _|apply s2|apply s3) (by simp [It.rids]) ?_
 rw [hxq]
 rfl
theorem rtimes_s (hh : HisIns h) (hro : ∀ b ∈ h, b.length ≤ 10) (hn : h.length ≤ 40) (hss : ∀ b ∈ h, ∀ e ∈ b, e.core.letter.size ≤ lots) : Spec Tryz.prog 20 [histA h, int n, int client, int stamp] [] (fun _ : Unit => []) (fun _ => int ((hitsE client stamp (evsH n 0 Lg.zero h)).length : Nat)) := by
 refine spec_of Tryz.func20 rfl Tryz.ntmps20 rfl fun G w => ?_
 refine SC.seq (SC.region ?_)
 refine SL.val (Val.assign rfl) rfl rfl ?_
 refine SL.nil (SE.seq ?_)
 refine SC.seq (SC.region ?_)
 iterate 4 refine SL.val (Val.move rfl) rfl rfl ?_
 refine SL.call (rdone_s (n := n) (client := client) (stamp := stamp) hh hro hn hss) Casts.refl (by kernel_rfl) rfl rfl rfl ?_
 refine ap_ ?_
 intro _
 refine SL.val (Val.move rfl) rfl rfl ?_
 refine SL.val (Val.extract rfl rfl) rfl rfl ?_
 refine SL.val (Val.extract rfl rfl) rfl rfl ?_
 iterate 2 refine SL.val (Val.assign rfl) rfl rfl ?_
 refine SL.nil (SE.seq ?_)
 refine SC.seq (SC.region ?_)
 refine SL.val (Val.move rfl) rfl rfl ?_
 refine SL.val (Val.to (C := int ((hitsE client stamp (evsH n 0 Lg.zero h)).length : Nat)) (Val.lenSl (m := (hitsE client stamp (evsH n 0 Lg.zero h)).length) rfl Tryz.underlying58 (List.length_map _)) rfl) rfl rfl ?_
 refine SL.val (Val.assign rfl) rfl rfl ?_
 refine SL.nil (SE.seq ?_)
 refine SC.ret ?_
 refine SE.fin (rs := [.tmp 8]) rfl (RV.tmp rfl RV.nil) (()) (by repeat first|exact s0 _|exact s1 _|apply s2|apply s3) (by simp [It.rids]) ?_
 exact rfl
end
end Go.Proofs.YtejcohlpjikjpaaGreatDoor.A
/-
  Agree: beginnings.
-/
namespace Go.Proofs.YtejcohlpjikjpaaGreatDoor.A
open Go.RowKit

section
variable {a b : List Dd}
end
end Go.Proofs.YtejcohlpjikjpaaGreatDoor.A
/-
  The second engine: 'make([]T, 1, n)' as a row of one's own.
-/
namespace Go.Proofs.YtejcohlpjikjpaaGreatDoor.A
open Go.RowKit

section
variable {P : Program} {n : Nat} {W : Wd} {σ τ : Blks} {l : Slots} {X : List Nat} {x y : Operand} {d : Option Nat} {ty t e : TypeId} {pos : String} {aft : Array Edge} {g : Option (Nat × Bool)} {tab : List (Nat × TI)} {k k' : IntKind} {r : Int} {c s : Nat} {z : Value}
theorem made_take {zs : List Value} {c : Nat} (hs : zs.length = s) (h0 : 0 < s) (hc : 1 ≤ c) : ((madeCells zs.toArray (c * s)).toList.take (1 * s)) = zs := by
  have hle : s ≤ c * s := Nat.le_mul_of_pos_left s hc
  apply List.ext_getElem
  · simp [size_madeCells, hs]
    omega
  · intro i h3 h4
    have hi9 : i < s := by omega
    simp [madeCells, hs, Nat.mod_eq_of_lt hi9, List.getElem?_eq_getElem h4]
theorem Eff.makeCap (hT : TabOk P tab) {j : TI} (hu : P.underlying t = some (.slice e)) (hj : ti tab e = some j) (hsz : Nat.beq j.size s = true) (h0 : Nat.blt 0 s = true) (hzl : Nat.beq j.zero.length s = true) (hx : look l x = some (.v (.int k 1))) (hy : look l y = some (.v (.int k' r))) (hr : r = (c : Nat)) (h1 : 1 ≤ c) (hm : c ≤ maxLen) (hby : P.bytesOf e * c ≤ 281474976710656) :
    Eff P n W σ l [] ⟨d, .makeSlice t x y, ty, pos, aft, g⟩ fun u τ => ∃ v, u = .v v ∧ τ = own e s v [zabs j.zero] :: σ := fun a w hs => by
  subst hr
  have hsz := Nat.eq_of_beq_eq_true hsz
  have h0 : 0 < s := Nat.le_of_ble_eq_true h0
  have hzl := Nat.eq_of_beq_eq_true hzl
  obtain ⟨I, hI, hIs, zv, hzv, hzc⟩ := (hT e j hj).info
  have hbi := bytes_of hI
  have h63' : (c : Int) ≤ 9223372036854775807 := by
    have h := hm
    simp [maxLen] at h
    omega
  have hb' : (I.bytes : Int) * (c : Int) ≤ 281474976710656 := by
    have h : ((I.bytes * c : Nat) : Int) ≤ 281474976710656 := by rw [hbi] at hby; omega
    rwa [Int.natCast_mul] at h
  have hrun := run_make (P := P) w t e I zv hu hI hzv k k' 1 c (by decide) (by omega) hb' h63'
  simp only [Int.toNat_natCast, Int.toNat_one] at hrun
  have hcells : zv.cells = j.zero.toArray := by rw [hzc]
  have hrow : (w.alloc (.cells (madeCells zv.cells (c * I.size)) e)).ownsRow 0 e s (.slice (some ⟨w.heap.size, 0, none⟩) 1 c) 1 j.zero := by
    refine ⟨by rw [hzl, Nat.one_mul], .inr ⟨w.heap.size, c, _, rfl, Nat.zero_le _, heap_alloc_new w _, h1, hm, ?_, ?_⟩⟩
    · rw [size_madeCells, hIs, hsz]
    · rw [hcells, hIs, hsz]
      exact made_take hzl h0 h1
  have hxx : Ext [] w (w.alloc (.cells (madeCells zv.cells (c * I.size)) e)) := Ext.new w _
  have hnew := hs.mem.new (y := own e s (.slice (some ⟨w.heap.size, 0, none⟩) 1 c) [zabs j.zero]) hxx own_nodup (by simp [It.mids, ownPc, Value.ownBlock]) rfl fun hc => ⟨j.zero, hrow, ⟨j.zero, [], by simp, hzl, reps_zabs _, rfl⟩⟩
  refine ⟨_, _, _, _, ⟨_, rfl, rfl⟩, hxx, rfl, hnew.1, hnew.2, .inl ?_⟩
  simp [execOp, hs.plain hx, hs.plain hy, hrun, Result.andThen]
/-- A row of one element, said another way. -/
theorem Re.ownOne {v : Value} {ds es : List Abs} (h : ∀ K w us, reps K w ds us → reps K w es us) : Re [own e s v [ds]] [own e s v [es]] := ⟨⟨[], by rw [List.append_nil]; exact List.Perm.refl _⟩, by simp [It.rids], fun K w hx y hy => by
  rw [List.mem_singleton.1 hy]
  obtain ⟨us, h1, u1, u2, h2, h3, h4, h5⟩ : (ownPc e s v [ds]).p K w := hx _ List.mem_cons_self
  exact ⟨us, h1, u1, u2, h2, h3, h _ _ _ h4, h5⟩⟩
end
end Go.Proofs.YtejcohlpjikjpaaGreatDoor.A
/-
  Agree: ledgers.
-/
namespace Go.Proofs.YtejcohlpjikjpaaGreatDoor.A
open Go.RowKit

section
variable {n : Int} {h : List (List Ent)} {e1 e2 : Value}
theorem ldgs_end {n : Int} : ∀ {l : Lg} {h : List (List Ent)}, (ldgs n l h)[h.length]? = some (ldgAt n l h)
  | l, [] => rfl
  | l, b :: h => by
    rw [ldgs, List.length_cons, List.getElem?_cons_succ]
    exact ldgs_end (l := (l.foldF b n).1) (h := h)
set_option maxHeartbeats 2000000 in
theorem ledgers_s (he : isIf e1) (hr : isIf e2) (hh : HisIns h) (hro : ∀ b ∈ h, b.length ≤ 10) (hn : h.length ≤ 40) : Spec Tryz.prog 22 [histA h, int n] (globs e1 e2) (fun _ : Unit => []) (fun _ => .sl 4 ((ldgs n Lg.zero h).map Lg.abs)) := by
 refine spec_of Tryz.func22 rfl Tryz.ntmps22 rfl fun G w => ?_
 refine SC.seq (SC.region ?_)
 refine SL.val (Val.assign rfl) rfl rfl ?_
 refine SL.nil (SE.seq ?_)
 refine SC.seq (SC.region ?_)
 refine SL.val (Val.move rfl) rfl rfl ?_
 first
  | refine SL.val (Val.lenSl rfl Tryz.underlying26 (List.length_map _)) rfl rfl ?_
  | refine SL.val (Val.lenOwn rfl (by repeat first|assumption|exact m0|apply m1) Tryz.underlying26 (List.length_map _)) rfl rfl ?_
  | refine SL.val (Val.lenNil rfl Tryz.underlying26) rfl rfl ?_
 first
  | refine SL.val (Val.addI rfl rfl (by simp only [InR, lo, hi]; omega)) rfl rfl ?_
  | refine SL.val (Val.addW rfl rfl) rfl rfl ?_
 refine SL.eff (Eff.makeCap (c := h.length + 1) (s := 4) tabOk Tryz.underlying40 rfl rfl rfl rfl rfl rfl (by omega) (by omega) (by unfold maxLen; omega) (by rw [show Tryz.prog.bytesOf 66 = 64 by kernel_rfl]; omega)) rfl rfl ?_
 rintro _ _ ⟨r13, rfl, rfl⟩
 refine SL.re [] (Re.ownOne (es := Lg.zero.abs) (Casts.keep (Casts.keep (Casts.nils (s := 6) (Casts.nils (s := 3) Casts.refl))))) rfl ?_
 refine SL.val (Val.assign rfl) rfl rfl ?_
 refine SL.nil (SE.seq ?_)
 refine SC.seq ?_
 refine SC.seq (SC.region ?_)
 refine SL.val (Val.move rfl) rfl rfl ?_
 first
  | refine SL.val (Val.lenSl rfl Tryz.underlying26 (List.length_map _)) rfl rfl ?_
  | refine SL.val (Val.lenOwn rfl (by repeat first|assumption|exact m0|apply m1) Tryz.underlying26 (List.length_map _)) rfl rfl ?_
  | refine SL.val (Val.lenNil rfl Tryz.underlying26) rfl rfl ?_
 refine SL.val (Val.move rfl) rfl rfl ?_
 refine SL.nil (SE.seq ?_)
 refine SC.block ?_
 refine SC.loop (ι := Nat × Value) (fun z => (own 66 4 z.2 ((ldgs n Lg.zero (h.take (z.1))).map Lg.abs) :: (globs e1 e2))) (fun z => [(1, int n), (5, .v z.2), (14, histA h), (15, int (h.length : Nat)), (16, int (z.1 : Nat))]) (fun z => z.1 ≤ h.length) (fun z => h.length - z.1) (0, r13) (Nat.zero_le _) (by exact ⟨rfl, rfl, rfl, rfl, rfl, trivial⟩) (by repeat first|exact s0 _|exact s1 _|apply s2|apply s3) ?_
 intro z hz
 refine SC.seq (SC.region ?_)
 refine SL.val (Val.ltI rfl rfl) rfl rfl ?_
 refine SL.nil (SE.seq ?_)
 refine SC.seq ?_
 refine SC.condP rfl ?_ ?_
 rotate_left
 ·intro hc17
  have htk : h.take z.1 = h := List.take_of_length_le (by omega)
  rw [htk]
  refine SC.exit ?_
  refine SE.then_ nofun ?_
  refine SE.then_ nofun ?_
  refine SE.exit ?_
  refine SE.seq ?_
  refine SC.seq (SC.region ?_)
  refine SL.val (Val.move rfl) rfl rfl ?_
  refine SL.val (Val.assign rfl) rfl rfl ?_
  refine SL.nil (SE.seq ?_)
  refine SC.ret ?_
  refine SE.freeze [] (t := 4) rfl rfl ?_
  refine SE.fin (rs := [.tmp 4]) rfl (RV.tmp rfl RV.nil) (()) (by repeat first|exact s0 _|exact s1 _|apply s2|apply s3) (by simp [It.rids]) ?_
  exact rfl
 intro hc17
 have hzl : z.1 < h.length := by omega
 have hbz := hro _ (List.getElem_mem hzl)
 have hfz := ldgAt_few (n := n) (l := Lg.zero) hro z.1 (by omega)
 have hz0 : Lg.zero.ls.length = 0 := rfl
 have hz1 : Lg.zero.os.length = 0 := rfl
 have hge : (ldgs n Lg.zero (h.take z.1))[z.1]? = some (ldgAt n Lg.zero (h.take (z.1))) := by
  have h9 := ldgs_end (n := n) (l := Lg.zero) (h := h.take z.1)
  rw [List.length_take, Nat.min_eq_left (by omega)] at h9
  exact h9
 refine SC.skip ?_
 refine SE.seq ?_
 refine SC.seq ?_
 refine SC.block ?_
 refine SC.seq (SC.region ?_)
 refine SL.val (Val.move rfl) rfl rfl ?_
 refine SL.val (Val.indexSl tabOk Tryz.underlying26 rfl rfl rfl rfl (at_map (by omega)) rfl rfl) rfl rfl ?_
 refine SL.val (Val.load1R tabOk rfl rfl rfl) rfl rfl ?_
 iterate 2 refine SL.val (Val.assign rfl) rfl rfl ?_
 refine SL.nil (SE.seq ?_)
 refine SC.seq (SC.region ?_)
 iterate 2 refine SL.val (Val.move rfl) rfl rfl ?_
 refine SL.val (Val.indexOwn (q := z.1) tabOk Tryz.underlying40 rfl rfl (.inl (by repeat first|assumption|exact m0|apply m1)) rfl rfl (by rw [List.length_map, ldgs_len, List.length_take]; omega) rfl rfl) rfl rfl ?_
 refine SL.val (Val.to (C := .agg (ldgAt n Lg.zero (h.take (z.1))).abs) (Val.loadOwnA (q := z.1) (s := 4) tabOk rfl rfl rfl (.inl (by repeat first|assumption|exact m0|apply m1)) rfl (by rw [List.getElem?_map, hge]; rfl) rfl) rfl) rfl rfl ?_
 iterate 2 refine SL.val (Val.move rfl) rfl rfl ?_
 refine SL.call (lfold_s (l := (ldgAt n Lg.zero (h.take (z.1)))) (es := (h[z.1]'hzl)) (n := n) he hr (hh _ (List.getElem_mem hzl)) (ldgAt_ins Lg.zero_ins rfl hh (by omega) z.1 (by omega)).wf (by omega) (by omega) (by omega) (by rw [ldgAt_seq z.1 (by omega)]; show (0 : Int) + _ ≤ _; omega)) Casts.refl (by kernel_rfl) rfl rfl rfl ?_
 refine ap_ ?_
 intro _
 refine SL.val (Val.move rfl) rfl rfl ?_
 refine SL.val (Val.extract rfl rfl) rfl rfl ?_
 refine SL.val (Val.extract rfl rfl) rfl rfl ?_
 refine SL.eff (Eff.alloc tabOk rfl) rfl rfl ?_
 rintro _ _ ⟨b8, rfl, rfl⟩
 refine SL.eff (Eff.store (L' := ((ldgAt n Lg.zero (h.take (z.1))).foldF (h[z.1]'hzl) n).1.abs) tabOk rfl rfl rfl (by repeat first|assumption|exact Upd.here|apply Upd.there) rfl (lb_ (by rfl)) rfl (by exact putL_whole rfl)) rfl rfl ?_
 rintro _ _ ⟨rfl, rfl⟩
 refine SL.val (Val.assign rfl) rfl rfl ?_
 refine SL.nil (SE.seq ?_)
 refine SC.region ?_
 refine SL.val (Val.move rfl) rfl rfl ?_
 refine SL.val (Val.to (C := .agg ((ldgAt n Lg.zero (h.take (z.1))).foldF (h[z.1]'hzl) n).1.abs) (Val.loadP tabOk rfl rfl rfl (by repeat first|assumption|exact o0_|exact o1_|apply o2_) List.not_mem_nil (lb_ (by rfl))) rfl) rfl rfl ?_
 refine SL.eff (Eff.buildSl tabOk Tryz.underlying40 rfl rfl rfl rfl rfl rfl rfl) rfl rfl ?_
 rintro _ _ ⟨rfl, rfl⟩
 refine SL.eff (Eff.appendE (zs := (ldgs n Lg.zero (h.take z.1) ++ [((ldgAt n Lg.zero (h.take (z.1))).foldF (h[z.1]'hzl) n).1]).map Lg.abs) tabOk [_] (by simp only [List.map_append]; rfl) Tryz.underlying40 rfl rfl rfl rfl rfl rfl (by intro c hc; rw [List.mem_singleton] at hc; subst hc; rfl) (by unfold maxLen; simp only [List.length_map, List.length_append, List.length_cons, List.length_nil, ldgs_len, List.length_take]; omega) (by rw [show Tryz.prog.bytesOf 66 = 64 by kernel_rfl]; simp only [List.length_map, List.length_append, List.length_cons, List.length_nil, ldgs_len, List.length_take]; omega)) rfl rfl ?_
 rintro _ _ ⟨r34, rfl, rfl⟩
 refine SL.val (Val.assign rfl) rfl rfl ?_
 refine SL.nil ?_
 refine SE.inBlock ?_
 refine SE.seq ?_
 refine SC.region ?_
 first
  | refine SL.val (Val.addI rfl rfl (by simp only [InR, lo, hi]; omega)) rfl rfl ?_
  | refine SL.val (Val.addW rfl rfl) rfl rfl ?_
 refine SL.val (Val.move rfl) rfl rfl ?_
 refine SL.nil ?_
 refine SE.round (z.1 + 1, r34) (by first | omega | (dsimp only; omega)) (by dsimp only; omega) (by exact ⟨rfl, rfl, rfl, rfl, rfl, trivial⟩) (by rw [ldgs_take hzl, ldgAt_take hzl]; repeat (first | exact List.nil_sublist _ | exact List.Sublist.refl _ | apply List.Sublist.cons_cons | apply List.Sublist.cons))
set_option maxHeartbeats 1000000 in
theorem sameLs_s {L : List Lg} (hL : ∀ l ∈ L, l.Ins) : Spec Tryz.prog 21 [.sl 4 (L.map Lg.abs), .sl 4 (L.map Lg.abs)] [] (fun _ : Unit => []) (fun _ => boo true) := by
 refine spec_of Tryz.func21 rfl Tryz.ntmps21 rfl fun G w => ?_
 refine SC.seq (SC.region ?_)
 refine SL.val (Val.assign rfl) rfl rfl ?_
 refine SL.nil (SE.seq ?_)
 refine SC.seq ?_
 refine SC.seq (SC.region ?_)
 refine SL.val (Val.move rfl) rfl rfl ?_
 first
  | refine SL.val (Val.lenSl rfl Tryz.underlying40 (List.length_map _)) rfl rfl ?_
  | refine SL.val (Val.lenOwn rfl (by repeat first|assumption|exact m0|apply m1) Tryz.underlying40 (List.length_map _)) rfl rfl ?_
  | refine SL.val (Val.lenNil rfl Tryz.underlying40) rfl rfl ?_
 refine SL.val (Val.move rfl) rfl rfl ?_
 first
  | refine SL.val (Val.lenSl rfl Tryz.underlying40 (List.length_map _)) rfl rfl ?_
  | refine SL.val (Val.lenOwn rfl (by repeat first|assumption|exact m0|apply m1) Tryz.underlying40 (List.length_map _)) rfl rfl ?_
  | refine SL.val (Val.lenNil rfl Tryz.underlying40) rfl rfl ?_
 refine SL.val (Val.to (C := boo false) (Val.neI rfl rfl) (congrArg (fun b => Abs.v (Value.bool b)) (decide_eq_false (by simp)))) rfl rfl ?_
 refine SL.nil (SE.seq ?_)
 refine SC.condF rfl ?_
 refine SC.skip ?_
 refine SE.seq ?_
 refine SC.seq ?_
 refine SC.seq (SC.region ?_)
 refine SL.val (Val.move rfl) rfl rfl ?_
 first
  | refine SL.val (Val.lenSl rfl Tryz.underlying40 (List.length_map _)) rfl rfl ?_
  | refine SL.val (Val.lenOwn rfl (by repeat first|assumption|exact m0|apply m1) Tryz.underlying40 (List.length_map _)) rfl rfl ?_
  | refine SL.val (Val.lenNil rfl Tryz.underlying40) rfl rfl ?_
 refine SL.val (Val.move rfl) rfl rfl ?_
 refine SL.nil (SE.seq ?_)
 refine SC.block ?_
 refine SC.rowLe (i := 11) rfl fun hrow => ?_
 rw [List.length_map] at hrow
 unfold maxLen at hrow
 refine SC.loop (ι := Nat) (fun z => []) (fun z => [(0, .sl 4 (L.map Lg.abs)), (1, .sl 4 (L.map Lg.abs)), (11, .sl 4 (L.map Lg.abs)), (12, int (L.length : Nat)), (13, int (z : Nat))]) (fun z => z ≤ L.length) (fun z => L.length - z) (0) (Nat.zero_le _) (by exact ⟨rfl, rfl, rfl, rfl, rfl, trivial⟩) (by repeat first|exact s0 _|exact s1 _|apply s2|apply s3) ?_
 intro z hz
 refine SC.seq (SC.region ?_)
 refine SL.val (Val.ltI rfl rfl) rfl rfl ?_
 refine SL.nil (SE.seq ?_)
 refine SC.seq ?_
 refine SC.condP rfl ?_ ?_
 rotate_left
 ·intro hc14
  refine SC.exit ?_
  refine SE.then_ nofun ?_
  refine SE.then_ nofun ?_
  refine SE.exit ?_
  refine SE.seq ?_
  refine SC.seq (SC.region ?_)
  refine SL.val (Val.assign rfl) rfl rfl ?_
  refine SL.nil (SE.seq ?_)
  refine SC.ret ?_
  refine SE.fin (rs := [.tmp 4]) rfl (RV.tmp rfl RV.nil) (()) (by repeat first|exact s0 _|exact s1 _|apply s2|apply s3) (by simp [It.rids]) ?_
  exact rfl
 intro hc14
 have hlt : z < L.length := by omega
 refine SC.skip ?_
 refine SE.seq ?_
 refine SC.seq ?_
 refine SC.block ?_
 refine SC.seq (SC.region ?_)
 refine SL.val (Val.move rfl) rfl rfl ?_
 refine SL.val (Val.assign rfl) rfl rfl ?_
 refine SL.nil (SE.seq ?_)
 refine SC.seq ?_
 refine SC.draw [] (.q 0 (.q 1 (.q 2 (.q 3 (.q 4 (.q 5 (.q 6 (.q 7 (.e 8 (.q 9 .nil)))))))))) (by kernel_rfl) (by kernel_rfl) ?_
 refine SX.val rfl (Val.move rfl) (by simp) rfl rfl ?_
 refine SX.val rfl (Val.move rfl) (by simp) rfl rfl ?_
 refine SX.val rfl (Val.indexSl tabOk Tryz.underlying40 rfl rfl rfl rfl (at_map (by omega)) rfl rfl) (by simp) rfl rfl ?_
 refine SX.hx (by first|(simp[mids,It.mids,ownPc];done)|(intro k hk;simp[mids,It.mids,ownPc] at hk ⊢;grind)) fun hx9 => ?_
 refine SX.val rfl (Val.loadAR tabOk rfl rfl rfl (by rfl)) hx9 rfl rfl ?_
 refine SX.val rfl (Val.move rfl) (by simp) rfl rfl ?_
 refine SX.val rfl (Val.move rfl) (by simp) rfl rfl ?_
 refine SX.val rfl (Val.indexSl tabOk Tryz.underlying40 rfl rfl rfl rfl (at_map (by omega)) rfl rfl) (by simp) rfl rfl ?_
 refine SX.val rfl (Val.loadAR tabOk rfl rfl rfl (by rfl)) hx9 rfl rfl ?_
 refine SX.call rfl (lsame_s (a := (L[z]'hlt)) (b := (L[z]'hlt)) (hL _ (List.getElem_mem hlt)) (hL _ (List.getElem_mem hlt))) (by simp [mids, It.mids]) Casts.refl (by kernel_rfl) rfl rfl rfl ?_
 refine ap_ ?_
 intro _
 rw [decide_eq_true rfl]
 refine SX.val rfl (Val.notT rfl) (by simp) rfl rfl ?_
 refine SX.nil (SE.seq ?_)
 refine SC.condF rfl ?_
 refine SC.skip ?_
 refine SE.inBlock ?_
 refine SE.seq ?_
 refine SC.region ?_
 first
  | refine SL.val (Val.addI rfl rfl (by simp only [InR, lo, hi]; omega)) rfl rfl ?_
  | refine SL.val (Val.addW rfl rfl) rfl rfl ?_
 refine SL.val (Val.move rfl) rfl rfl ?_
 refine SL.nil ?_
 refine SE.round (z + 1) (by first | omega | (dsimp only; omega)) (by first | omega | (dsimp only; omega)) (by exact ⟨rfl, rfl, rfl, rfl, rfl, trivial⟩) (by repeat first|exact s0 _|exact s1 _|apply s2|apply s3)
end
end Go.Proofs.YtejcohlpjikjpaaGreatDoor.A
/-
  Agree: what may be asked about.
-/
namespace Go.Proofs.YtejcohlpjikjpaaGreatDoor.A
open Go.RowKit

section
variable {n : Int} {h : List (List Ent)} {l : List Dd} {e1 e2 : Value}
set_option maxHeartbeats 2000000 in
theorem few34_s  : Spec Tryz.prog 8 [histA h] [] (fun _ : Unit => []) (fun _ => boo (decide (FewH h))) := by
 refine spec_of Tryz.func8 rfl Tryz.ntmps8 rfl fun G w => ?_
 refine SC.seq (SC.region ?_)
 refine SL.val (Val.assign rfl) rfl rfl ?_
 refine SL.nil (SE.seq ?_)
 refine SC.seq ?_
 refine SC.seq (SC.region ?_)
 refine SL.val (Val.move rfl) rfl rfl ?_
 first
  | refine SL.val (Val.lenSl rfl Tryz.underlying26 (List.length_map _)) rfl rfl ?_
  | refine SL.val (Val.lenOwn rfl (by repeat first|assumption|exact m0|apply m1) Tryz.underlying26 (List.length_map _)) rfl rfl ?_
  | refine SL.val (Val.lenNil rfl Tryz.underlying26) rfl rfl ?_
 refine SL.val (Val.move rfl) rfl rfl ?_
 refine SL.nil (SE.seq ?_)
 refine SC.block ?_
 refine SC.rowLe (i := 7) rfl fun hrow => ?_
 rw [List.length_map] at hrow
 unfold maxLen at hrow
 refine SC.loop (ι := Nat) (fun z => []) (fun z => [(0, histA h), (7, histA h), (8, int (h.length : Nat)), (9, int (z : Nat))]) (fun z => z ≤ h.length ∧ ∀ j (hj : j < h.length), j < z → (∀ i (hi : i < h[j].length), h[j][i].core.letter.size ≤ 30 ∧ h[j][i].core.text.size ≤ 210) ∧ h[j].length ≤ 10) (fun z => h.length - z) (0) (⟨Nat.zero_le _, fun j h h2 => by omega⟩) (by exact ⟨rfl, rfl, rfl, rfl, trivial⟩) (by repeat first|exact s0 _|exact s1 _|apply s2|apply s3) ?_
 intro z hz
 refine SC.seq (SC.region ?_)
 refine SL.val (Val.ltI rfl rfl) rfl rfl ?_
 refine SL.nil (SE.seq ?_)
 refine SC.seq ?_
 refine SC.condP rfl ?_ ?_
 rotate_left
 ·intro hc10
  refine SC.exit ?_
  refine SE.then_ nofun ?_
  refine SE.then_ nofun ?_
  refine SE.exit ?_
  refine SE.seq ?_
  refine SC.seq (SC.region ?_)
  refine SL.val (Val.move rfl) rfl rfl ?_
  first
   | refine SL.val (Val.lenSl rfl Tryz.underlying26 (List.length_map _)) rfl rfl ?_
   | refine SL.val (Val.lenOwn rfl (by repeat first|assumption|exact m0|apply m1) Tryz.underlying26 (List.length_map _)) rfl rfl ?_
   | refine SL.val (Val.lenNil rfl Tryz.underlying26) rfl rfl ?_
  refine SL.val (Val.leI rfl rfl) rfl rfl ?_
  refine SL.val (Val.assign rfl) rfl rfl ?_
  refine SL.nil (SE.seq ?_)
  refine SC.ret ?_
  refine SE.fin (rs := [.tmp 2]) rfl (RV.tmp rfl RV.nil) (()) (by repeat first|exact s0 _|exact s1 _|apply s2|apply s3) (by simp [It.rids]) ?_
  refine congrArg (fun b => Abs.v (Value.bool b)) ?_
  rw [decide_eq_decide]
  exact ⟨fun h9 => ⟨fun j h1 => hz.2 j h1 (by omega), by omega⟩, fun h9 => by have := h9.len; omega⟩
 intro hc10
 have hzl : z < h.length := by omega
 refine SC.skip ?_
 refine SE.seq ?_
 refine SC.seq ?_
 refine SC.block ?_
 refine SC.seq (SC.region ?_)
 refine SL.val (Val.indexSl tabOk Tryz.underlying26 rfl rfl rfl rfl (at_map (by omega)) rfl rfl) rfl rfl ?_
 refine SL.val (Val.load1R tabOk rfl rfl rfl) rfl rfl ?_
 refine SL.val (Val.assign rfl) rfl rfl ?_
 refine SL.nil (SE.seq ?_)
 refine SC.seq ?_
 refine SC.seq (SC.region ?_)
 refine SL.val (Val.move rfl) rfl rfl ?_
 first
  | refine SL.val (Val.lenSl rfl Tryz.underlying33 (List.length_map _)) rfl rfl ?_
  | refine SL.val (Val.lenOwn rfl (by repeat first|assumption|exact m0|apply m1) Tryz.underlying33 (List.length_map _)) rfl rfl ?_
  | refine SL.val (Val.lenNil rfl Tryz.underlying33) rfl rfl ?_
 refine SL.val (Val.move rfl) rfl rfl ?_
 refine SL.nil (SE.seq ?_)
 refine SC.block ?_
 refine SC.rowLe (i := 13) rfl fun hro2 => ?_
 rw [List.length_map] at hro2
 unfold maxLen at hro2
 refine SC.loop (ι := Nat) (fun y => []) (fun y => [(0, histA h), (7, histA h), (8, int (h.length : Nat)), (9, int (z : Nat)), (4, entsR (h[z]'hzl)), (13, entsR (h[z]'hzl)), (14, int ((h[z]'hzl).length : Nat)), (15, int (y : Nat))]) (fun y => y ≤ (h[z]'hzl).length ∧ ∀ i (hi : i < (h[z]'hzl).length), i < y → (h[z]'hzl)[i].core.letter.size ≤ 30 ∧ (h[z]'hzl)[i].core.text.size ≤ 210) (fun y => (h[z]'hzl).length - y) (0) (⟨Nat.zero_le _, fun j h h2 => by omega⟩) (by exact ⟨rfl, rfl, rfl, rfl, rfl, rfl, rfl, rfl, trivial⟩) (by repeat first|exact s0 _|exact s1 _|apply s2|apply s3) ?_
 intro y hy
 refine SC.seq (SC.region ?_)
 refine SL.val (Val.ltI rfl rfl) rfl rfl ?_
 refine SL.nil (SE.seq ?_)
 refine SC.seq ?_
 refine SC.condP rfl ?_ ?_
 rotate_left
 ·intro hc16
  refine SC.exit ?_
  refine SE.then_ nofun ?_
  refine SE.then_ nofun ?_
  refine SE.exit ?_
  refine SE.seq ?_
  refine SC.seq (SC.region ?_)
  refine SL.val (Val.move rfl) rfl rfl ?_
  first
   | refine SL.val (Val.lenSl rfl Tryz.underlying33 (List.length_map _)) rfl rfl ?_
   | refine SL.val (Val.lenOwn rfl (by repeat first|assumption|exact m0|apply m1) Tryz.underlying33 (List.length_map _)) rfl rfl ?_
   | refine SL.val (Val.lenNil rfl Tryz.underlying33) rfl rfl ?_
  refine SL.val (Val.gtI rfl rfl) rfl rfl ?_
  refine SL.nil (SE.seq ?_)
  refine SC.condP rfl ?_ ?_
  rotate_left
  ·intro hc34
   refine SC.skip ?_
   refine SE.inBlock ?_
   refine SE.seq ?_
   refine SC.region ?_
   first
    | refine SL.val (Val.addI rfl rfl (by simp only [InR, lo, hi]; omega)) rfl rfl ?_
    | refine SL.val (Val.addW rfl rfl) rfl rfl ?_
   refine SL.val (Val.move rfl) rfl rfl ?_
   refine SL.nil ?_
   refine SE.round (z + 1) (by first | omega | (dsimp only; omega)) (⟨by omega, fun j h1 h2 => by rcases Nat.lt_or_ge j z with h3 | h3; exact hz.2 j h1 h3; obtain rfl : j = z := (by omega); exact ⟨fun i h4 => hy.2 i h4 (by omega), by omega⟩⟩) (by exact ⟨rfl, rfl, rfl, rfl, trivial⟩) (by repeat first|exact s0 _|exact s1 _|apply s2|apply s3)
  intro hc34
  refine SC.seq (SC.region ?_)
  refine SL.val (Val.assign rfl) rfl rfl ?_
  refine SL.nil (SE.seq ?_)
  refine SC.ret ?_
  refine SE.ret ?_
  refine SE.then_ nofun ?_
  refine SE.then_ nofun ?_
  refine SE.ret ?_
  refine SE.then_ nofun ?_
  refine SE.fin (rs := [.tmp 2]) rfl (RV.tmp rfl RV.nil) (()) (by repeat first|exact s0 _|exact s1 _|apply s2|apply s3) (by simp [It.rids]) ?_
  refine boo_dec0 fun he => ?_
  have := (he.en z hzl).2
  omega
 intro hc16
 have hyl : y < (h[z]'hzl).length := by omega
 refine SC.skip ?_
 refine SE.seq ?_
 refine SC.seq ?_
 refine SC.block ?_
 refine SC.seq (SC.region ?_)
 refine SL.val (Val.indexSl tabOk Tryz.underlying33 rfl rfl rfl rfl (at_map (by omega)) rfl rfl) rfl rfl ?_
 refine SL.val (Val.loadAR tabOk rfl rfl rfl (by rfl)) rfl rfl ?_
 refine SL.eff (Eff.alloc tabOk rfl) rfl rfl ?_
 rintro _ _ ⟨b6, rfl, rfl⟩
 refine SL.eff (Eff.store (L' := entA ((h[z]'hzl)[y]'hyl)) tabOk rfl rfl rfl (by repeat first|assumption|exact Upd.here|apply Upd.there) rfl (lb_ (by rfl)) rfl (by exact putL_whole rfl)) rfl rfl ?_
 rintro _ _ ⟨rfl, rfl⟩
 refine SL.nil (SE.seq ?_)
 refine SC.seq (SC.region ?_)
 refine SL.val (Val.fieldAddr tabOk rfl rfl rfl rfl rfl) rfl rfl ?_
 refine SL.val (Val.fieldAddr tabOk rfl rfl rfl rfl rfl) rfl rfl ?_
 refine SL.val (Val.to (C := st ((h[z]'hzl)[y]'hyl).core.letter) (Val.load1 tabOk rfl rfl (by repeat first|assumption|exact o0_|exact o1_|apply o2_) List.not_mem_nil (by rfl)) rfl) rfl rfl ?_
 refine SL.val (Val.lenSt rfl Tryz.underlying9) rfl rfl ?_
 refine SL.val (Val.gtI rfl rfl) rfl rfl ?_
 refine SL.val (Val.move rfl) rfl rfl ?_
 refine SL.bothP (t := 24) rfl ?_ ?_
 ·intro hc24
  iterate 5 refine SL.skip rfl rfl ?_
  refine SL.val (Val.pickT rfl rfl) rfl rfl ?_
  refine SL.nil (SE.seq ?_)
  refine SC.condT rfl ?_
  refine SC.seq (SC.region ?_)
  refine SL.val (Val.assign rfl) rfl rfl ?_
  refine SL.nil (SE.seq ?_)
  refine SC.ret ?_
  refine SE.ret ?_
  refine SE.then_ nofun ?_
  refine SE.then_ nofun ?_
  refine SE.ret ?_
  refine SE.then_ nofun ?_
  refine SE.ret ?_
  refine SE.then_ nofun ?_
  refine SE.then_ nofun ?_
  refine SE.ret ?_
  refine SE.then_ nofun ?_
  refine SE.fin (rs := [.tmp 2]) rfl (RV.tmp rfl RV.nil) (()) (by repeat first|exact s0 _|exact s1 _|apply s2|apply s3) (by simp [It.rids]) ?_
  refine boo_dec0 fun he => ?_
  have := (he.en z hzl).1 y hyl
  omega
 intro hc24
 refine SL.val (Val.fieldAddr tabOk rfl rfl rfl rfl rfl) rfl rfl ?_
 refine SL.val (Val.fieldAddr tabOk rfl rfl rfl rfl rfl) rfl rfl ?_
 refine SL.val (Val.to (C := st ((h[z]'hzl)[y]'hyl).core.text) (Val.load1 tabOk rfl rfl (by repeat first|assumption|exact o0_|exact o1_|apply o2_) List.not_mem_nil (by rfl)) rfl) rfl rfl ?_
 refine SL.val (Val.lenSt rfl Tryz.underlying9) rfl rfl ?_
 refine SL.val (Val.gtI rfl rfl) rfl rfl ?_
 refine SL.val (Val.pickF rfl rfl) rfl rfl ?_
 refine SL.nil (SE.seq ?_)
 refine SC.condP rfl ?_ ?_
 rotate_left
 ·intro hc30
  refine SC.skip ?_
  refine SE.inBlock ?_
  refine SE.seq ?_
  refine SC.region ?_
  first
   | refine SL.val (Val.addI rfl rfl (by simp only [InR, lo, hi]; omega)) rfl rfl ?_
   | refine SL.val (Val.addW rfl rfl) rfl rfl ?_
  refine SL.val (Val.move rfl) rfl rfl ?_
  refine SL.nil ?_
  refine SE.round (y + 1) (by first | omega | (dsimp only; omega)) (⟨by omega, fun j h1 h2 => by rcases Nat.lt_or_ge j y with h3 | h3; exact hy.2 j h1 h3; obtain rfl : j = y := (by omega); omega⟩) (by exact ⟨rfl, rfl, rfl, rfl, rfl, rfl, rfl, rfl, trivial⟩) (by repeat first|exact s0 _|exact s1 _|apply s2|apply s3)
 intro hc30
 refine SC.seq (SC.region ?_)
 refine SL.val (Val.assign rfl) rfl rfl ?_
 refine SL.nil (SE.seq ?_)
 refine SC.ret ?_
 refine SE.ret ?_
 refine SE.then_ nofun ?_
 refine SE.then_ nofun ?_
 refine SE.ret ?_
 refine SE.then_ nofun ?_
 refine SE.ret ?_
 refine SE.then_ nofun ?_
 refine SE.then_ nofun ?_
 refine SE.ret ?_
 refine SE.then_ nofun ?_
 refine SE.fin (rs := [.tmp 2]) rfl (RV.tmp rfl RV.nil) (()) (by repeat first|exact s0 _|exact s1 _|apply s2|apply s3) (by simp [It.rids]) ?_
 refine boo_dec0 fun he => ?_
 have := (he.en z hzl).1 y hyl
 omega
end
end Go.Proofs.YtejcohlpjikjpaaGreatDoor.A
/-
  Agree: fixed answers.
-/
namespace Go.Proofs.YtejcohlpjikjpaaGreatDoor.A
open Go.RowKit

def nmF : ByteArray := ⟨#[97]⟩
def eG (s : Int) : List Ent := [⟨⟨4, s, 1, nmF, 0, 0, ⟨#[]⟩⟩, 0⟩]
def dA : List Dd := [⟨1, eG 1, false⟩, ⟨2, eG 2, false⟩]
def dB : List Dd := [⟨2, eG 2, false⟩, ⟨3, eG 3, false⟩]
def dC : List Dd := [⟨2, [], false⟩]
def hM : List (List Ent) := [eG 1, eG 2, eG 3]
theorem eG_ins {s : Int} (h : i64ok s) : ∀ e ∈ eG s, EnIns e := by
  intro e he
  rw [List.mem_singleton.1 he]
  exact ⟨by show i64ok 4; unfold i64ok; omega, h, by show i64ok 1; unfold i64ok; omega, by show i64ok 0; unfold i64ok; omega, by show i64ok 0; unfold i64ok; omega, by show (1 : Nat) ≤ _; unfold maxLen; omega, by show (0 : Nat) ≤ _; omega, by show (0 : Nat) < _; decide⟩
theorem dA_ins : ∀ d ∈ dA, DdIns d := by
  intro d hd
  rcases List.mem_cons.1 hd with rfl | hd
  · exact ⟨by show i64ok 1; unfold i64ok; omega, eG_ins (by unfold i64ok; omega)⟩
  · rw [List.mem_singleton.1 hd]
    exact ⟨by show i64ok 2; unfold i64ok; omega, eG_ins (by unfold i64ok; omega)⟩
theorem dB_ins : ∀ d ∈ dB, DdIns d := by
  intro d hd
  rcases List.mem_cons.1 hd with rfl | hd
  · exact ⟨by show i64ok 2; unfold i64ok; omega, eG_ins (by unfold i64ok; omega)⟩
  · rw [List.mem_singleton.1 hd]
    exact ⟨by show i64ok 3; unfold i64ok; omega, eG_ins (by unfold i64ok; omega)⟩
theorem dC_ins : ∀ d ∈ dC, DdIns d := by
  intro d hd
  rw [List.mem_singleton.1 hd]
  exact ⟨by show i64ok 2; unfold i64ok; omega, fun e he => by cases he⟩
theorem same_of {a b : List Dd} (h : ∀ x ∈ a, ∀ y ∈ b, x.seq = y.seq → x.batch = y.batch) : sameD a b := fun x hx y hy _ _ h3 => h x hx y hy h3
theorem sameAA : sameD dA dA := same_of (by simp [dA])
theorem sameBB : sameD dB dB := same_of (by simp [dB])
theorem sameAB : sameD dA dB := same_of (by simp [dA, dB])
theorem allAB : allSame [dA, dB] := by
  intro a ha b hb
  simp only [List.mem_cons, List.not_mem_nil, or_false] at ha hb
  rcases ha with rfl | rfl <;> rcases hb with rfl | rfl
  · exact sameAA
  · exact sameAB
  · exact sameAB.symm
  · exact sameBB
theorem fixM1 : mergeF [dA, dB] = (hM, true) := by
  unfold mergeF
  rw [if_pos allAB]
  refine Prod.ext ?_ rfl
  refine (IsHist.eq ⟨fun i hi9 => ?_, by kernel_rfl⟩).symm
  match i, hi9 with
  | 0, _ => exact ⟨⟨1, eG 1, false⟩, by kernel_rfl, rfl⟩
  | 1, _ => exact ⟨⟨2, eG 2, false⟩, by kernel_rfl, rfl⟩
  | 2, _ => exact ⟨⟨3, eG 3, false⟩, by kernel_rfl, rfl⟩
theorem fixM2 : mergeF [dA, dC] = ([], false) := if_neg fun h => by
  have h1 := h dA List.mem_cons_self dC (by simp) ⟨2, eG 2, false⟩ (by simp [dA]) ⟨2, [], false⟩ (by simp [dC]) rfl rfl rfl
  cases h1
def wR : Int := (whereF (hitsE 4 3 (evsH 4 0 Lg.zero hM))).2.1
theorem fixW : whereF (hitsE 4 3 (evsH 4 0 Lg.zero hM)) = (3, wR, true) := by kernel_rfl
theorem fixT : (hitsE 4 1 (evsH 4 0 Lg.zero hM)).length = 1 := by kernel_rfl
theorem fixG1 : gapB 0 dA = true := by kernel_rfl
theorem fixG2 : gapB 0 dB = false := by kernel_rfl
end Go.Proofs.YtejcohlpjikjpaaGreatDoor.A
/-
  Agree: the calls whose answers are fixed.
-/
namespace Go.Proofs.YtejcohlpjikjpaaGreatDoor.A
open Go.RowKit

theorem hM_rows : ∀ b ∈ hM, b.length ≤ 10 := by
  intro b hb
  simp only [hM, List.mem_cons, List.not_mem_nil, or_false] at hb
  rcases hb with rfl | rfl | rfl <;> exact (show (1 : Nat) ≤ 10 by decide)
theorem hM_ins : HisIns hM := by
  intro b hb
  simp only [hM, List.mem_cons, List.not_mem_nil, or_false] at hb
  rcases hb with rfl | rfl | rfl <;> exact eG_ins (by unfold i64ok; omega)
theorem dA_few : ∀ d ∈ dA, d.batch.length ≤ 1000 := by
  intro d hd
  simp only [dA, List.mem_cons, List.not_mem_nil, or_false] at hd
  rcases hd with rfl | rfl <;> exact (show (1 : Nat) ≤ 1000 by decide)
theorem dB_few : ∀ d ∈ dB, d.batch.length ≤ 1000 := by
  intro d hd
  simp only [dB, List.mem_cons, List.not_mem_nil, or_false] at hd
  rcases hd with rfl | rfl <;> exact (show (1 : Nat) ≤ 1000 by decide)
theorem two_flat {P : Dd → Prop} {a b : List Dd} (ha : ∀ d ∈ a, P d) (hb : ∀ d ∈ b, P d) : ∀ d ∈ [a, b].flatten, P d := by
  intro d hd
  simp only [List.flatten_cons, List.flatten_nil, List.append_nil, List.mem_append] at hd
  rcases hd with hd | hd
  · exact ha d hd
  · exact hb d hd
theorem dAB_ins : ∀ d ∈ [dA, dB].flatten, DdIns d := two_flat dA_ins dB_ins
theorem dAC_ins : ∀ d ∈ [dA, dC].flatten, DdIns d := two_flat dA_ins dC_ins
theorem dAB_few : ∀ d ∈ [dA, dB].flatten, d.batch.length ≤ 1000 := two_flat dA_few dB_few
theorem dAC_few : ∀ d ∈ [dA, dC].flatten, d.batch.length ≤ 1000 := two_flat dA_few fun d hd => by
  rw [List.mem_singleton.1 hd]
  exact Nat.zero_le _
section
variable {n : Int} {h : List (List Ent)} {l : List Dd} {e1 e2 : Value} {s : Int}
theorem fixed1_s  : Spec Tryz.prog 26 [int s] [] (fun _ : Unit => []) (fun _ => entsR (eG s)) := by
 refine spec_of Tryz.func26 rfl Tryz.ntmps26 rfl fun G w => ?_
 refine SC.seq (SC.region ?_)
 refine SL.val (Val.assign rfl) rfl rfl ?_
 refine SL.nil (SE.seq ?_)
 refine SC.seq (SC.region ?_)
 refine SL.val (Val.move rfl) rfl rfl ?_
 refine SL.val (Val.buildS (L := (Core.cells ⟨4, s, 1, nmF, 0, 0, ⟨#[]⟩⟩).map .v) tabOk rfl rfl rfl (by rfl)) rfl rfl ?_
 refine SL.val (Val.buildS (L := entA ⟨⟨4, s, 1, nmF, 0, 0, ⟨#[]⟩⟩, 0⟩) tabOk rfl rfl rfl (by rfl)) rfl rfl ?_
 refine SL.eff (Eff.buildSl tabOk Tryz.underlying33 rfl rfl rfl rfl rfl rfl rfl) rfl rfl ?_
 rintro _ _ ⟨rfl, rfl⟩
 refine SL.val (Val.assign rfl) rfl rfl ?_
 refine SL.nil (SE.seq ?_)
 refine SC.ret ?_
 refine SE.fin (rs := [.tmp 2]) rfl (RV.tmp rfl RV.nil) (()) (by repeat first|exact s0 _|exact s1 _|apply s2|apply s3) (by simp [It.rids]) ?_
 exact rfl
set_option maxHeartbeats 2000000 in
theorem fixed34_s (he : isIf e1) (hr : isIf e2) : Spec Tryz.prog 7 [] (globs e1 e2) (fun _ : Unit => []) (fun _ => boo true) := by
 refine spec_of Tryz.func7 rfl Tryz.ntmps7 rfl fun G w => ?_
 refine SC.seq (SC.region ?_)
 refine SL.val (Val.assign rfl) rfl rfl ?_
 refine SL.nil (SE.seq ?_)
 refine SC.seq (SC.region ?_)
 refine SL.val (Val.assign rfl) rfl rfl ?_
 refine SL.nil (SE.seq ?_)
 refine SC.seq (SC.region ?_)
 refine SL.val (Val.move rfl) rfl rfl ?_
 refine SL.callv (fixed1_s (s := 1)) rfl Casts.refl (show goesIn Tryz.prog 26 = true by kernel_rfl) rfl rfl rfl ?_
 refine ap_ ?_
 intro _
 refine SL.val (Val.buildS (L := Dd.abs ⟨1, eG 1, false⟩) tabOk rfl rfl rfl (by rfl)) rfl rfl ?_
 refine SL.val (Val.move rfl) rfl rfl ?_
 refine SL.callv (fixed1_s (s := 2)) rfl Casts.refl (show goesIn Tryz.prog 26 = true by kernel_rfl) rfl rfl rfl ?_
 refine ap_ ?_
 intro _
 refine SL.val (Val.buildS (L := Dd.abs ⟨2, eG 2, false⟩) tabOk rfl rfl rfl (by rfl)) rfl rfl ?_
 refine SL.eff (Eff.buildSl tabOk Tryz.underlying24 rfl rfl rfl rfl rfl rfl rfl) rfl rfl ?_
 rintro _ _ ⟨rfl, rfl⟩
 refine SL.val (Val.assign rfl) rfl rfl ?_
 refine SL.nil (SE.seq ?_)
 refine SC.seq (SC.region ?_)
 refine SL.val (Val.move rfl) rfl rfl ?_
 refine SL.callv (fixed1_s (s := 2)) rfl Casts.refl (show goesIn Tryz.prog 26 = true by kernel_rfl) rfl rfl rfl ?_
 refine ap_ ?_
 intro _
 refine SL.val (Val.buildS (L := Dd.abs ⟨2, eG 2, false⟩) tabOk rfl rfl rfl (by rfl)) rfl rfl ?_
 refine SL.val (Val.move rfl) rfl rfl ?_
 refine SL.callv (fixed1_s (s := 3)) rfl Casts.refl (show goesIn Tryz.prog 26 = true by kernel_rfl) rfl rfl rfl ?_
 refine ap_ ?_
 intro _
 refine SL.val (Val.buildS (L := Dd.abs ⟨3, eG 3, false⟩) tabOk rfl rfl rfl (by rfl)) rfl rfl ?_
 refine SL.eff (Eff.buildSl tabOk Tryz.underlying24 rfl rfl rfl rfl rfl rfl rfl) rfl rfl ?_
 rintro _ _ ⟨rfl, rfl⟩
 refine SL.val (Val.assign rfl) rfl rfl ?_
 refine SL.nil (SE.seq ?_)
 refine SC.seq (SC.region ?_)
 iterate 2 refine SL.val (Val.move rfl) rfl rfl ?_
 refine SL.eff (Eff.buildSl tabOk Tryz.underlying22 rfl rfl rfl rfl rfl rfl rfl) rfl rfl ?_
 rintro _ _ ⟨rfl, rfl⟩
 refine SL.call (merge_s (l := [dA, dB]) dAB_ins dAB_few (by decide)) Casts.refl (by kernel_rfl) rfl rfl rfl ?_
 refine ap_ ?_
 intro _
 rw [fixM1]
 refine SL.val (Val.move rfl) rfl rfl ?_
 refine SL.val (Val.to (C := histA hM) (Val.extract rfl rfl) rfl) rfl rfl ?_
 refine SL.val (Val.to (C := boo true) (Val.extract rfl rfl) rfl) rfl rfl ?_
 iterate 2 refine SL.val (Val.assign rfl) rfl rfl ?_
 refine SL.nil (SE.seq ?_)
 refine SC.seq (SC.region ?_)
 refine SL.val (Val.move rfl) rfl rfl ?_
 refine SL.val (Val.buildS (L := [int 2, .v (.slice none 0 0), boo false]) tabOk rfl rfl rfl (by rfl)) rfl rfl ?_
 refine SL.cast (t := 34) (.agg (Dd.abs ⟨2, [], false⟩)) rfl (cast_agg (Casts.keep (Casts.nils (s := 8) Casts.refl))) ?_
 refine SL.eff (Eff.buildSl tabOk Tryz.underlying24 rfl rfl rfl rfl rfl rfl rfl) rfl rfl ?_
 rintro _ _ ⟨rfl, rfl⟩
 refine SL.eff (Eff.buildSl tabOk Tryz.underlying22 rfl rfl rfl rfl rfl rfl rfl) rfl rfl ?_
 rintro _ _ ⟨rfl, rfl⟩
 refine SL.call (merge_s (l := [dA, dC]) dAC_ins dAC_few (by decide)) Casts.refl (by kernel_rfl) rfl rfl rfl ?_
 refine ap_ ?_
 intro _
 rw [fixM2]
 refine SL.val (Val.move rfl) rfl rfl ?_
 refine SL.val (Val.extract rfl rfl) rfl rfl ?_
 refine SL.val (Val.to (C := boo false) (Val.extract rfl rfl) rfl) rfl rfl ?_
 iterate 2 refine SL.val (Val.assign rfl) rfl rfl ?_
 refine SL.nil (SE.seq ?_)
 refine SC.seq (SC.region ?_)
 refine SL.val (Val.move rfl) rfl rfl ?_
 refine SL.call (where_s (n := 4) (client := 4) (stamp := 3) (h := hM) he hr hM_ins hM_rows (by decide)) Casts.refl (by kernel_rfl) rfl rfl rfl ?_
 refine ap_ ?_
 intro _
 rw [fixW]
 refine SL.val (Val.move rfl) rfl rfl ?_
 refine SL.val (Val.to (C := int 3) (Val.extract rfl rfl) rfl) rfl rfl ?_
 refine SL.val (Val.extract rfl rfl) rfl rfl ?_
 refine SL.val (Val.to (C := boo true) (Val.extract rfl rfl) rfl) rfl rfl ?_
 iterate 3 refine SL.val (Val.assign rfl) rfl rfl ?_
 refine SL.nil (SE.seq ?_)
 refine SC.seq (SC.region ?_)
 iterate 3 refine SL.val (Val.move rfl) rfl rfl ?_
 refine SL.val (Val.notF rfl) rfl rfl ?_
 refine SL.val (Val.pickT rfl rfl) rfl rfl ?_
 iterate 2 refine SL.val (Val.move rfl) rfl rfl ?_
 refine SL.val (Val.to (C := int 3) (Val.lenSl (m := 3) rfl Tryz.underlying26 rfl) rfl) rfl rfl ?_
 refine SL.val (Val.to (C := boo true) (Val.eqI rfl rfl) (congrArg (fun b => Abs.v (Value.bool b)) (decide_eq_true (rfl)))) rfl rfl ?_
 refine SL.val (Val.pickT rfl rfl) rfl rfl ?_
 iterate 2 refine SL.val (Val.move rfl) rfl rfl ?_
 refine SL.call (gap_s (l := dA) dA_ins) Casts.refl (by kernel_rfl) rfl rfl rfl ?_
 refine ap_ ?_
 intro _
 rw [fixG1]
 refine SL.val (Val.pickT rfl rfl) rfl rfl ?_
 iterate 2 refine SL.val (Val.move rfl) rfl rfl ?_
 refine SL.call (gap_s (l := dB) dB_ins) Casts.refl (by kernel_rfl) rfl rfl rfl ?_
 refine ap_ ?_
 intro _
 rw [fixG2]
 refine SL.val (Val.notF rfl) rfl rfl ?_
 refine SL.val (Val.pickT rfl rfl) rfl rfl ?_
 iterate 3 refine SL.val (Val.move rfl) rfl rfl ?_
 refine SL.call (agree_s (a := dA) (b := dB) dA_ins dB_ins dA_few dB_few (by decide) (by decide)) Casts.refl (by kernel_rfl) rfl rfl rfl ?_
 refine ap_ ?_
 intro _
 rw [decide_eq_true sameAB]
 refine SL.val (Val.pickT rfl rfl) rfl rfl ?_
 iterate 2 refine SL.val (Val.move rfl) rfl rfl ?_
 refine SL.val (Val.pickT rfl rfl) rfl rfl ?_
 iterate 2 refine SL.val (Val.move rfl) rfl rfl ?_
 refine SL.val (Val.to (C := boo true) (Val.eqI rfl rfl) (congrArg (fun b => Abs.v (Value.bool b)) (decide_eq_true (rfl)))) rfl rfl ?_
 refine SL.val (Val.pickT rfl rfl) rfl rfl ?_
 iterate 2 refine SL.val (Val.move rfl) rfl rfl ?_
 refine SL.call (times_s (n := 4) (client := 4) (stamp := 1) (h := hM) he hr hM_ins hM_rows (by decide)) Casts.refl (by kernel_rfl) rfl rfl rfl ?_
 refine ap_ ?_
 intro _
 rw [fixT]
 refine SL.val (Val.to (C := boo true) (Val.eqI rfl rfl) (congrArg (fun b => Abs.v (Value.bool b)) (decide_eq_true (rfl)))) rfl rfl ?_
 refine SL.val (Val.pickT rfl rfl) rfl rfl ?_
 iterate 2 refine SL.val (Val.move rfl) rfl rfl ?_
 refine SL.call (ledgers_s (n := 4) (h := hM) he hr hM_ins hM_rows (by decide)) Casts.refl (by kernel_rfl) rfl rfl rfl ?_
 refine ap_ ?_
 intro _
 refine SL.val (Val.to (C := int 4) (Val.lenSl (m := 4) rfl Tryz.underlying40 (by rw [List.length_map, ldgs_len]; rfl)) rfl) rfl rfl ?_
 refine SL.val (Val.to (C := boo true) (Val.eqI rfl rfl) (congrArg (fun b => Abs.v (Value.bool b)) (decide_eq_true (rfl)))) rfl rfl ?_
 refine SL.val (Val.pickT rfl rfl) rfl rfl ?_
 refine SL.val (Val.assign rfl) rfl rfl ?_
 refine SL.nil (SE.seq ?_)
 refine SC.ret ?_
 refine SE.fin (rs := [.tmp 0]) rfl (RV.tmp rfl RV.nil) (()) (by repeat first|exact s0 _|exact s1 _|apply s2|apply s3) (by simp [It.rids]) ?_
 exact rfl
end
end Go.Proofs.YtejcohlpjikjpaaGreatDoor.A
/-
  Agree: the four laws.
-/
namespace Go.Proofs.YtejcohlpjikjpaaGreatDoor.A
open Go.RowKit

section
variable {n client stamp : Int} {h : List (List Ent)} {a b : List Dd} {l : List (List Dd)} {e1 e2 : Value}
theorem fewH_szs (hf : FewH h) : ∀ b ∈ h, ∀ e ∈ b, e.core.letter.size ≤ lots := by
  intro b hb e he
  obtain ⟨j, hj, rfl⟩ := List.getElem_of_mem hb
  obtain ⟨i, hi2, rfl⟩ := List.getElem_of_mem he
  have := ((hf.en j hj).1 i hi2).1
  unfold lots
  omega
theorem ldgs_ins : ∀ {h : List (List Ent)} {l : Lg}, l.Ins → 0 ≤ l.seq → l.seq + (h.length : Nat) ≤ 1000000 → HisIns h → ∀ x ∈ ldgs n l h, x.Ins
  | [], l, hl, _, _, _, x, hx => by rw [List.mem_singleton.1 hx]; exact hl
  | b :: h, l, hl, h0, h1, hh, x, hx => by
    rcases List.mem_cons.1 hx with rfl | hx
    · exact hl
    · have hs : (l.foldF b n).1.seq = l.seq + 1 := by
        have h9 := ldgAt_seq (n := n) (l := l) (h := [b]) 1 (by simp)
        exact h9
      rw [List.length_cons] at h1
      exact ldgs_ins (foldF_ins hl (by unfold i64ok; omega) (hh b List.mem_cons_self)) (by omega) (by omega) (fun c hc => hh c (List.mem_cons_of_mem _ hc)) x hx
set_option maxHeartbeats 2000000 in
theorem ahist_s (he : isIf e1) (hr : isIf e2) (hh : HisIns h) : Spec Tryz.prog 4 [histA h, int n, int client, int stamp] (globs e1 e2) (fun _ : Unit => []) (fun _ => boo true) := by
 refine spec_of Tryz.func4 rfl Tryz.ntmps4 rfl fun G w => ?_
 refine SC.seq (SC.region ?_)
 refine SL.val (Val.assign rfl) rfl rfl ?_
 refine SL.nil (SE.seq ?_)
 refine SC.seq ?_
 refine SC.seq (SC.region ?_)
 refine SL.call (fixed34_s he hr) Casts.refl (by kernel_rfl) rfl rfl rfl ?_
 refine ap_ ?_
 intro _
 refine SL.val (Val.notT rfl) rfl rfl ?_
 refine SL.nil (SE.seq ?_)
 refine SC.condF rfl ?_
 refine SC.skip ?_
 refine SE.seq ?_
 refine SC.seq ?_
 refine SC.seq (SC.region ?_)
 refine SL.val (Val.move rfl) rfl rfl ?_
 refine SL.call (few34_s (h := h)) Casts.refl (by kernel_rfl) rfl rfl rfl ?_
 refine ap_ ?_
 intro _
 refine SL.val (Val.notP rfl) rfl rfl ?_
 refine SL.nil (SE.seq ?_)
 refine SC.condP rfl ?_ ?_
 ·intro hc19
  refine SC.seq (SC.region ?_)
  refine SL.val (Val.assign rfl) rfl rfl ?_
  refine SL.nil (SE.seq ?_)
  refine SC.ret ?_
  refine SE.then_ nofun ?_
  refine SE.fin (rs := [.tmp 8]) rfl (RV.tmp rfl RV.nil) (()) (by repeat first|exact s0 _|exact s1 _|apply s2|apply s3) (by simp [It.rids]) ?_
  exact rfl
 intro hc19
 have hfw : FewH h := Classical.byContradiction hc19
 have hro : ∀ b ∈ h, b.length ≤ 10 := fun b hb => hfw.row hb
 have hn40 : h.length ≤ 40 := hfw.len
 have hss := fewH_szs hfw
 refine SC.skip ?_
 refine SE.seq ?_
 refine SC.seq (SC.region ?_)
 iterate 4 refine SL.val (Val.move rfl) rfl rfl ?_
 refine SL.call (where_s (n := n) (client := client) (stamp := stamp) he hr hh hro hn40) Casts.refl (by kernel_rfl) rfl rfl rfl ?_
 refine ap_ ?_
 intro _
 refine SL.val (Val.move rfl) rfl rfl ?_
 refine SL.val (Val.extract rfl rfl) rfl rfl ?_
 refine SL.val (Val.extract rfl rfl) rfl rfl ?_
 refine SL.val (Val.extract rfl rfl) rfl rfl ?_
 iterate 3 refine SL.val (Val.assign rfl) rfl rfl ?_
 refine SL.nil (SE.seq ?_)
 refine SC.seq (SC.region ?_)
 iterate 4 refine SL.val (Val.move rfl) rfl rfl ?_
 refine SL.call (rwhere_s (n := n) (client := client) (stamp := stamp) hh hro hn40 hss) Casts.refl (by kernel_rfl) rfl rfl rfl ?_
 refine ap_ ?_
 intro _
 refine SL.val (Val.move rfl) rfl rfl ?_
 refine SL.val (Val.extract rfl rfl) rfl rfl ?_
 refine SL.val (Val.extract rfl rfl) rfl rfl ?_
 refine SL.val (Val.extract rfl rfl) rfl rfl ?_
 iterate 3 refine SL.val (Val.assign rfl) rfl rfl ?_
 refine SL.nil (SE.seq ?_)
 refine SC.seq (SC.region ?_)
 iterate 2 refine SL.val (Val.move rfl) rfl rfl ?_
 refine SL.val (Val.to (C := boo true) (Val.eqI rfl rfl) (congrArg (fun b => Abs.v (Value.bool b)) (decide_eq_true (rfl)))) rfl rfl ?_
 iterate 3 refine SL.val (Val.move rfl) rfl rfl ?_
 refine SL.val (Val.to (C := boo true) (Val.eqI rfl rfl) (congrArg (fun b => Abs.v (Value.bool b)) (decide_eq_true (rfl)))) rfl rfl ?_
 refine SL.val (Val.pickT rfl rfl) rfl rfl ?_
 iterate 3 refine SL.val (Val.move rfl) rfl rfl ?_
 refine SL.val (Val.to (C := boo true) (Val.eqB rfl rfl (by kernel_rfl)) (congrArg (fun b => Abs.v (Value.bool b)) (by simp))) rfl rfl ?_
 refine SL.val (Val.pickT rfl rfl) rfl rfl ?_
 iterate 5 refine SL.val (Val.move rfl) rfl rfl ?_
 refine SL.call (times_s (n := n) (client := client) (stamp := stamp) he hr hh hro hn40) Casts.refl (by kernel_rfl) rfl rfl rfl ?_
 refine ap_ ?_
 intro _
 iterate 4 refine SL.val (Val.move rfl) rfl rfl ?_
 refine SL.call (rtimes_s (n := n) (client := client) (stamp := stamp) hh hro hn40 hss) Casts.refl (by kernel_rfl) rfl rfl rfl ?_
 refine ap_ ?_
 intro _
 refine SL.val (Val.to (C := boo true) (Val.eqI rfl rfl) (congrArg (fun b => Abs.v (Value.bool b)) (decide_eq_true (rfl)))) rfl rfl ?_
 refine SL.val (Val.pickT rfl rfl) rfl rfl ?_
 iterate 3 refine SL.val (Val.move rfl) rfl rfl ?_
 refine SL.call (ledgers_s (n := n) he hr hh hro hn40) Casts.refl (by kernel_rfl) rfl rfl rfl ?_
 refine ap_ ?_
 intro _
 iterate 2 refine SL.val (Val.move rfl) rfl rfl ?_
 refine SL.call (rledgers_s (n := n) hh hro hss hn40) Casts.refl (by kernel_rfl) rfl rfl rfl ?_
 refine ap_ ?_
 intro _
 refine SL.call (sameLs_s (L := ldgs n Lg.zero h) (ldgs_ins Lg.zero_ins (Int.le_refl _) (by show (0 : Int) + _ ≤ _; omega) hh)) Casts.refl (by kernel_rfl) rfl rfl rfl ?_
 refine ap_ ?_
 intro _
 refine SL.val (Val.pickT rfl rfl) rfl rfl ?_
 refine SL.val (Val.assign rfl) rfl rfl ?_
 refine SL.nil (SE.seq ?_)
 refine SC.ret ?_
 refine SE.fin (rs := [.tmp 8]) rfl (RV.tmp rfl RV.nil) (()) (by repeat first|exact s0 _|exact s1 _|apply s2|apply s3) (by simp [It.rids]) ?_
 exact rfl
end
end Go.Proofs.YtejcohlpjikjpaaGreatDoor.A
