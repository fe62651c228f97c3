/-
  Packed out of the texts: WA3, WA4, A30, WA5, WA6.
-/
import Derived.Test.YtiaeochlepkleaaW05
/-
  Watch: what is odd; a twin.
-/
set_option maxRecDepth 100000
set_option linter.unusedSimpArgs false
set_option linter.unusedVariables false
namespace Go.Proofs.Ytiaeochlepkleaa.A
open Go.RowKit

theorem zero_b (w : World) : (zeroValue 4).run Try.prog w = .ok (.bool false) w := by kernel_rfl
section
variable {g : Gl} {l L : List Gl} {A : Abs} {bw bm : Nat} {tm : List (Int × (Value × Gl))} {f : Int → Option Gl}
theorem boolV_get (m : List (Int × Bool)) (k : Int) : (boo ((aget m k).getD false)).is (((aget m k).map Value.bool).getD (.bool false)) := by
  rw [show ((aget m k).map Value.bool).getD (.bool false) = .bool ((aget m k).getD false) by cases aget m k <;> rfl]
  exact is_v
structure Whos (m : List (Int × Bool)) (l : List Gl) : Prop where
  get : ∀ k, (aget m k).getD false = decide (k ∈ l.map (·.who))
  nd : (l.map (·.who)).Nodup
theorem Whos.nil : Whos [] [] := ⟨fun _ => rfl, List.nodup_nil⟩
theorem Whos.step {m : List (Int × Bool)} {z : Nat} (h : Whos m (l.take z)) (hz : z < l.length) (hk : (aget m l[z].who).getD false = false) : Whos (aput m l[z].who true) (l.take (z + 1)) := by
  have h2 := h.get l[z].who
  rw [hk] at h2
  have h3 := of_decide_eq_false h2.symm
  refine ⟨fun k => ?_, ?_⟩
  · rw [aget_aput, List.take_succ_eq_append_getElem hz, List.map_append]
    by_cases he : k = l[z].who
    · rw [if_pos he]; subst he; exact (decide_eq_true (List.mem_append_right _ List.mem_cons_self)).symm
    · rw [if_neg he, h.get]
      refine decide_eq_decide.2 ⟨List.mem_append_left _, fun h4 => ?_⟩
      rcases List.mem_append.1 h4 with h4 | h4
      · exact h4
      · exact absurd (List.mem_singleton.1 h4) he
  · rw [List.take_succ_eq_append_getElem hz, List.map_append]
    refine List.nodup_append.2 ⟨h.nd, by simp, fun a ha b hb hab => ?_⟩
    obtain rfl := List.mem_singleton.1 hb
    rw [hab] at ha
    exact h3 ha
theorem twice_hit {m : List (Int × Bool)} {z : Nat} (h : Whos m (l.take z)) (hz : z < l.length) (hk : (aget m l[z].who).getD false = true) : twiceF l = true := by
  rw [h.get] at hk
  have h2 := of_decide_eq_true hk
  unfold twiceF
  refine decide_eq_true fun hn => ?_
  rw [← List.take_append_drop z l, List.map_append] at hn
  exact (List.nodup_append.1 hn).2.2 _ h2 l[z].who (by rw [List.drop_eq_getElem_cons hz]; exact List.mem_cons_self) rfl
theorem twice_no (h : (l.map (·.who)).Nodup) : twiceF l = false := by unfold twiceF; simp [h]
theorem odd_zero (h : oddF f l = 0) : (l.map (·.who)).Nodup := by
  refine Classical.byContradiction fun hn => ?_
  unfold oddF at h
  rw [if_pos (by unfold twiceF; exact decide_eq_true hn)] at h
  exact absurd h (by decide)
theorem odd_rules (h0 : (l.map (·.who)).Nodup) : oddF f l = if l.any (ruleB f 0) = true then 14 else if l.any (ruleB f 1) = true then 5 else if l.any (ruleB f 2) = true then 10 else if l.any (ruleB f 3) = true then 2 else if allSame (l.map (·.deeds)) then 0 else 16 := by
  unfold oddF
  rw [if_neg (by rw [twice_no h0]; decide)]
  rfl
theorem odd_rule (h0 : (l.map (·.who)).Nodup) {q : Nat} (hq : q < 4) (h1 : ∀ j, j < q → l.any (ruleB f j) = false) (h2 : l.any (ruleB f q) = true) : oddF f l = ruleE q := by
  rw [odd_rules h0]
  obtain rfl | rfl | rfl | rfl : q = 0 ∨ q = 1 ∨ q = 2 ∨ q = 3 := by omega
  · rw [if_pos h2]; rfl
  · rw [h1 0 (by omega), if_neg (by decide), if_pos h2]; rfl
  · rw [h1 0 (by omega), h1 1 (by omega), if_neg (by decide), if_neg (by decide), if_pos h2]; rfl
  · rw [h1 0 (by omega), h1 1 (by omega), h1 2 (by omega), if_neg (by decide), if_neg (by decide), if_neg (by decide), if_pos h2]; rfl
theorem odd_last (h0 : (l.map (·.who)).Nodup) (h1 : ∀ j, j < 4 → l.any (ruleB f j) = false) : oddF f l = if allSame (l.map (·.deeds)) then 0 else 16 := by
  rw [odd_rules h0, h1 0 (by omega), h1 1 (by omega), h1 2 (by omega), h1 3 (by omega), if_neg (by decide), if_neg (by decide), if_neg (by decide), if_neg (by decide)]
theorem dds_keep {ds : List Dd} {z : Nat} (h : z < ds.length) : (ds.map Dd.abs).set z ((Dd.abs ds[z]).set 1 (entsR ds[z].batch)) = ds.map Dd.abs := by
  refine List.ext_getElem (by rw [List.length_set]) fun i h1 h2 => ?_
  rw [List.getElem_set]
  split
  · next he => subst he; rw [List.getElem_map]; rfl
  · rfl
set_option maxHeartbeats 1000000 in
theorem odd_s (hl : ∀ x ∈ l, GlOk x) (hn : l.length ≤ 8) (hw : ∀ k : Int, ∀ d ∈ (((aget tm k).map (·.2)).getD Gl.zero).deeds, DdIns d ∧ d.batch.length ≤ 1000) : Spec Try.prog 11 [ptr bw, glsA l] [.rd bw 44 [mapV bm], .rdpc (factsPc (facM glA tm)), .rdpc (mapPc bm intK id intOk (rawM tm))] (fun _ : Unit => []) (fun _ => int (oddF (fun k => (aget tm k).map (·.2)) l)) := by
 refine spec_of Try.func11 rfl Try.ntmps11 rfl fun G w => ?_
 refine SC.seq (SC.region ?_)
 refine SL.eff (Eff.box1 rfl rfl) rfl rfl ?_
 rintro _ _ ⟨b2, rfl, rfl⟩
 refine SL.val (Val.assign rfl) rfl rfl ?_
 refine SL.nil (SE.seq ?_)
 refine SC.seq (SC.region ?_)
 refine SL.eff (Eff.makeMap intK Value.bool intOk (fun ac w => by simp [execOp, Instr.makeMap, newObj, Sem.run, Sem.run_bind, Result.andThen])) rfl rfl ?_
 rintro _ _ ⟨m10, rfl, rfl⟩
 refine SL.val (Val.assign rfl) rfl rfl ?_
 refine SL.nil (SE.seq ?_)
 refine SC.seq ?_
 refine SC.seq (SC.region ?_)
 refine SL.val (Val.move rfl) rfl rfl ?_
 first
  | refine SL.val (Val.lenSl rfl Try.underlying27 (List.length_map _)) rfl rfl ?_
  | refine SL.val (Val.lenOwn rfl (by repeat first|assumption|exact m0_|apply m1_) Try.underlying27 (List.length_map _)) rfl rfl ?_
  | refine SL.val (Val.lenNil rfl Try.underlying27) rfl rfl ?_
 refine SL.val (Val.move rfl) rfl rfl ?_
 refine SL.nil (SE.seq ?_)
 refine SC.block ?_
 refine SC.rowLe (i := 11) rfl fun hrow => ?_
 rw [List.length_map] at hrow
 unfold maxLen at hrow
 refine SC.loop (ι := Nat × List (Int × Bool)) (fun z => [.pc (mapPc m10 intK Value.bool intOk z.2), .blk b2 24 [ptr bw], .rd bw 44 [mapV bm], .rdpc (factsPc (facM glA tm)), .rdpc (mapPc bm intK id intOk (rawM tm))]) (fun z => [(1, glsA l), (2, ptr b2), (5, mapV m10), (11, glsA l), (12, int (l.length : Nat)), (13, int (z.1 : Nat))]) (fun z => z.1 ≤ l.length ∧ Whos z.2 (l.take z.1)) (fun z => l.length - z.1) (0, []) (⟨Nat.zero_le _, Whos.nil⟩) (by exact ⟨rfl, rfl, rfl, rfl, rfl, rfl, trivial⟩) (by repeat first|exact s0_ _|exact s1_ _|apply s2_|apply s3_) ?_
 intro z hz
 refine SC.seq (SC.region ?_)
 refine SL.val (Val.ltI rfl rfl) rfl rfl ?_
 refine SL.nil (SE.seq ?_)
 refine SC.seq ?_
 refine SC.condP rfl ?_ ?_
 ·intro hc14
  have hlt : z.1 < l.length := by omega
  have hzi := (hl _ (List.getElem_mem hlt)).ins
  refine SC.skip ?_
  refine SE.seq ?_
  refine SC.seq ?_
  refine SC.block ?_
  refine SC.seq (SC.region ?_)
  refine SL.val (Val.indexSl tabOk Try.underlying27 rfl rfl rfl rfl (at_map (by omega)) rfl rfl) rfl rfl ?_
  refine SL.val (Val.loadAR tabOk rfl rfl rfl (by rfl)) rfl rfl ?_
  refine SL.eff (Eff.alloc tabOk rfl) rfl rfl ?_
  rintro _ _ ⟨b7, rfl, rfl⟩
  refine SL.eff (Eff.store (L' := (l[z.1]'hlt).abs) tabOk rfl rfl rfl (by repeat first|assumption|exact Upd.here|apply Upd.there) rfl (lb_ (by rfl)) rfl (by exact putL_whole rfl)) rfl rfl ?_
  rintro _ _ ⟨rfl, rfl⟩
  refine SL.nil (SE.seq ?_)
  refine SC.seq ?_
  refine SC.seq (SC.region ?_)
  refine SL.val (Val.move rfl) rfl rfl ?_
  refine SL.val (Val.fieldAddr tabOk rfl rfl rfl rfl rfl) rfl rfl ?_
  refine SL.val (Val.to (C := int (l[z.1]'hlt).who) (Val.load1 tabOk rfl rfl (by repeat first|assumption|exact o0_|exact o1_|apply o2_) List.not_mem_nil (by rfl)) rfl) rfl rfl ?_
  refine SL.val (Val.mapGet (a := (l[z.1]'hlt).who) (m := z.2) (V := Value.bool) (zv := .bool false) (C := boo ((aget z.2 (l[z.1]'hlt).who).getD false)) (int_fit Try.underlying3) Try.underlying51 zero_b rfl (by repeat first|assumption|exact o0_|exact o1_|apply o2_) List.not_mem_nil rfl is_v (int_in hzi.who) (boolV_get _ _)) rfl rfl ?_
  refine SL.nil (SE.seq ?_)
  refine SC.cond rfl ?_ ?_
  ·intro hc20
   refine SC.seq (SC.region ?_)
   refine SL.val (Val.assign rfl) rfl rfl ?_
   refine SL.nil (SE.seq ?_)
   refine SC.ret ?_
   refine SE.then_ nofun ?_
   refine SE.ret ?_
   refine SE.then_ nofun ?_
   refine SE.then_ nofun ?_
   refine SE.ret ?_
   refine SE.then_ nofun ?_
   refine SE.fin (rs := [.tmp 4]) rfl (RV.tmp rfl RV.nil) (()) (by repeat first|exact s0_ _|exact s1_ _|apply s2_|apply s3_) (by simp [It.rids]) ?_
   rw [show oddF _ l = 15 from if_pos (twice_hit hz.2 hlt hc20)]
   rfl
  intro hc20
  refine SC.skip ?_
  refine SE.seq ?_
  refine SC.region ?_
  refine SL.val (Val.move rfl) rfl rfl ?_
  refine SL.val (Val.fieldAddr tabOk rfl rfl rfl rfl rfl) rfl rfl ?_
  refine SL.val (Val.to (C := int (l[z.1]'hlt).who) (Val.load1 tabOk rfl rfl (by repeat first|assumption|exact o0_|exact o1_|apply o2_) List.not_mem_nil (by rfl)) rfl) rfl rfl ?_
  refine SL.eff (Eff.mapPut (a := (l[z.1]'hlt).who) (v := true) (m' := aput z.2 (l[z.1]'hlt).who true) (int_fit Try.underlying3) Try.underlying51 rfl (by repeat first|assumption|exact Upd.here|apply Upd.there) rfl is_v (int_in hzi.who) rfl is_v rfl) rfl rfl ?_
  rintro _ _ ⟨rfl, rfl⟩
  refine SL.nil ?_
  refine SE.inBlock ?_
  refine SE.seq ?_
  refine SC.region ?_
  first
   | refine SL.val (Val.addI rfl rfl (by simp only [InR, lo, hi]; omega)) rfl rfl ?_
   | refine SL.val (Val.addW rfl rfl) rfl rfl ?_
  refine SL.val (Val.move rfl) rfl rfl ?_
  refine SL.nil ?_
  refine SE.round (z.1 + 1, aput z.2 (l[z.1]'hlt).who true) (by first | omega | (dsimp only; omega)) (⟨by dsimp only; omega, hz.2.step hlt hc20⟩) (by exact ⟨rfl, rfl, rfl, rfl, rfl, rfl, trivial⟩) (by repeat first|exact s0_ _|exact s1_ _|apply s2_|apply s3_)
 intro hc14
 have hta : l.take z.1 = l := List.take_of_length_le (by omega)
 have hnd := hz.2.nd
 rw [hta] at hnd
 refine SC.exit ?_
 refine SE.then_ nofun ?_
 refine SE.then_ nofun ?_
 refine SE.exit ?_
 refine SE.seq ?_
 refine SC.seq ?_
 refine SC.seq (SC.region ?_)
 refine SL.call (rules_s) Casts.refl (by kernel_rfl) rfl rfl rfl ?_
 refine ap_ ?_
 intro _
 refine SL.val (Val.lenSl (m := 4) rfl Try.underlying52 rfl) rfl rfl ?_
 refine SL.val (Val.move rfl) rfl rfl ?_
 refine SL.nil (SE.seq ?_)
 refine SC.block ?_
 refine SC.loop (ι := Nat) (fun q => [.pc (mapPc m10 intK Value.bool intOk z.2), .blk b2 24 [ptr bw], .rd bw 44 [mapV bm], .rdpc (factsPc (facM glA tm)), .rdpc (mapPc bm intK id intOk (rawM tm))]) (fun q => [(1, glsA l), (2, ptr b2), (25, .sl 2 rulesL), (26, int (4 : Nat)), (27, int (q : Nat))]) (fun q => q ≤ 4 ∧ ∀ j, j < q → l.any (ruleB (fun k => (aget tm k).map (·.2)) j) = false) (fun q => 4 - q) (0) (⟨Nat.zero_le _, fun j h => by omega⟩) (by exact ⟨rfl, rfl, rfl, rfl, rfl, trivial⟩) (by repeat first|exact s0_ _|exact s1_ _|apply s2_|apply s3_) ?_
 intro q hq
 refine SC.seq (SC.region ?_)
 refine SL.val (Val.ltI rfl rfl) rfl rfl ?_
 refine SL.nil (SE.seq ?_)
 refine SC.seq ?_
 refine SC.condP rfl ?_ ?_
 rotate_left
 ·intro hc28
  refine SC.exit ?_
  refine SE.then_ nofun ?_
  refine SE.then_ nofun ?_
  refine SE.exit ?_
  refine SE.seq ?_
  refine SC.seq ?_
  refine SC.seq (SC.region ?_)
  refine SL.val (Val.move rfl) rfl rfl ?_
  refine SL.call (apart_s hl hn) Casts.refl (by kernel_rfl) rfl rfl rfl ?_
  refine ap_ ?_
  intro _
  refine SL.nil (SE.seq ?_)
  refine SC.condP rfl ?_ ?_
  ·intro hc38
   refine SC.seq (SC.region ?_)
   refine SL.val (Val.assign rfl) rfl rfl ?_
   refine SL.nil (SE.seq ?_)
   refine SC.ret ?_
   refine SE.then_ nofun ?_
   refine SE.fin (rs := [.tmp 4]) rfl (RV.tmp rfl RV.nil) (()) (by repeat first|exact s0_ _|exact s1_ _|apply s2_|apply s3_) (by simp [It.rids]) ?_
   rw [odd_last hnd fun j hj => hq.2 j (by omega), if_neg hc38]
   rfl
  intro hc38
  refine SC.skip ?_
  refine SE.seq ?_
  refine SC.seq (SC.region ?_)
  refine SL.val (Val.assign rfl) rfl rfl ?_
  refine SL.nil (SE.seq ?_)
  refine SC.ret ?_
  refine SE.fin (rs := [.tmp 4]) rfl (RV.tmp rfl RV.nil) (()) (by repeat first|exact s0_ _|exact s1_ _|apply s2_|apply s3_) (by simp [It.rids]) ?_
  rw [odd_last hnd fun j hj => hq.2 j (by omega), if_pos (Classical.not_not.1 hc38)]
  rfl
 intro hc28
 have hq4 : q < 4 := by omega
 refine SC.skip ?_
 refine SE.seq ?_
 refine SC.seq ?_
 refine SC.block ?_
 refine SC.seq (SC.region ?_)
 refine SL.val (Val.indexSl (q := q) (cs := ruleA q) tabOk Try.underlying52 rfl rfl rfl rfl (rulesL_get hq4) rfl rfl) rfl rfl ?_
 refine SL.val (Val.loadAR tabOk rfl rfl rfl (by rfl)) rfl rfl ?_
 refine SL.eff (Eff.alloc tabOk rfl) rfl rfl ?_
 rintro _ _ ⟨b9, rfl, rfl⟩
 refine SL.eff (Eff.store (L' := ruleA q) tabOk rfl rfl rfl (by repeat first|assumption|exact Upd.here|apply Upd.there) rfl (lb_ (by rfl)) rfl (by exact putL_whole rfl)) rfl rfl ?_
 rintro _ _ ⟨rfl, rfl⟩
 refine SL.nil (SE.seq ?_)
 refine SC.seq (SC.region ?_)
 refine SL.val (Val.move rfl) rfl rfl ?_
 refine SL.val (Val.makeFunc rfl rfl) rfl rfl ?_
 refine SL.call (gcontains_s (p := ruleB (fun k => (aget tm k).map (·.2)) q) (k := 16) (caps := [ptr b9, ptr b2]) (σ := [.rd b9 56 (ruleA q), .rd b2 24 [ptr bw], .rd bw 44 [mapV bm], .rdpc (factsPc (facM glA tm)), .rdpc (mapPc bm intK id intOk (rawM tm))]) (by kernel_rfl) (by intro x hx; simp only [List.mem_cons, List.not_mem_nil, or_false] at hx; rcases hx with rfl | rfl | rfl | rfl | rfl <;> first | exact .inl ⟨_, _, _, rfl⟩ | exact .inr ⟨_, rfl⟩) (fun x hx => odd1_s (ruleK_goes q) (rule_h (hl x hx) (hw x.who) q))) Casts.refl (by kernel_rfl) rfl rfl rfl ?_
 refine ap_ ?_
 intro _
 refine SL.nil (SE.seq ?_)
 refine SC.cond rfl ?_ ?_
 rotate_left
 ·intro hc33
  refine SC.skip ?_
  refine SE.inBlock ?_
  refine SE.seq ?_
  refine SC.region ?_
  first
   | refine SL.val (Val.addI rfl rfl (by simp only [InR, lo, hi]; omega)) rfl rfl ?_
   | refine SL.val (Val.addW rfl rfl) rfl rfl ?_
  refine SL.val (Val.move rfl) rfl rfl ?_
  refine SL.nil ?_
  refine SE.round (q + 1) (by first | omega | (dsimp only; omega)) (⟨by omega, fun j h1 => by rcases Nat.lt_or_ge j q with h4 | h4; exact hq.2 j h4; obtain rfl : j = q := (by omega); exact hc33⟩) (by exact ⟨rfl, rfl, rfl, rfl, rfl, trivial⟩) (by repeat first|exact s0_ _|exact s1_ _|apply s2_|apply s3_)
 intro hc33
 refine SC.seq (SC.region ?_)
 refine SL.val (Val.fieldAddr tabOk rfl rfl rfl rfl rfl) rfl rfl ?_
 refine SL.val (Val.to (C := int (ruleE q)) (Val.load1 tabOk rfl rfl (by repeat first|assumption|exact o0_|exact o1_|apply o2_) List.not_mem_nil (by rfl)) rfl) rfl rfl ?_
 refine SL.val (Val.assign rfl) rfl rfl ?_
 refine SL.nil (SE.seq ?_)
 refine SC.ret ?_
 refine SE.ret ?_
 refine SE.then_ nofun ?_
 refine SE.then_ nofun ?_
 refine SE.ret ?_
 refine SE.then_ nofun ?_
 refine SE.fin (rs := [.tmp 4]) rfl (RV.tmp rfl RV.nil) (()) (by repeat first|exact s0_ _|exact s1_ _|apply s2_|apply s3_) (by simp [It.rids]) ?_
 rw [odd_rule hnd hq4 hq.2 hc33]
 rfl
theorem clone_dd_s {xs : List (List Abs)} (h1 : ∀ c ∈ xs, ones c = true) (hn : xs.length ≤ 1000000) : Spec Try.prog 18 [.sl 3 xs] [] (fun r : Value => [own 37 3 r xs]) (fun r => .v r) := by
 refine spec_of Try.func18 rfl Try.ntmps18 rfl fun G w => ?_
 refine SC.seq (SC.region ?_)
 refine SL.val (Val.assign rfl) rfl rfl ?_
 refine SL.nil (SE.seq ?_)
 refine SC.seq ?_
 refine SC.seq (SC.region ?_)
 refine SL.val (Val.move rfl) rfl rfl ?_
 refine SL.eqNil Try.underlying39 rfl rfl rfl ?_
 intro b hb
 refine SL.nil (SE.seq ?_)
 refine SC.cond rfl ?_ ?_
 ·intro hc4
  have hnil : xs = [] := hb hc4
  subst hnil
  refine SC.seq ?_
  refine SC.own0 37 3 ?_
  refine SC.region ?_
  refine SL.val (Val.assign rfl) rfl rfl ?_
  refine SL.nil (SE.seq ?_)
  refine SC.ret ?_
  refine SE.then_ nofun ?_
  refine SE.fin (rs := [.tmp 2]) rfl (RV.tmp rfl RV.nil) (.slice none 0 0) (by repeat first|exact s0_ _|exact s1_ _|apply s2_|apply s3_) (by simp [It.rids]) ?_
  exact rfl
 intro hc4
 refine SC.skip ?_
 refine SE.seq ?_
 refine SC.seq (SC.region ?_)
 refine SL.eff (Eff.buildOwn tabOk Try.underlying39 rfl rfl rfl rfl rfl rfl rfl) rfl rfl ?_
 rintro _ _ ⟨r5, rfl, rfl⟩
 refine SL.val (Val.move rfl) rfl rfl ?_
 refine SL.eff (Eff.appendE (zs := xs) tabOk [] rfl Try.underlying39 rfl rfl rfl rfl rfl rfl h1 (by unfold maxLen; simp only [List.length_nil]; omega) (by rw [show Try.prog.bytesOf 37 = 40 by kernel_rfl]; simp only [List.length_nil]; omega)) rfl rfl ?_
 rintro _ _ ⟨r7, rfl, rfl⟩
 refine SL.val (Val.assign rfl) rfl rfl ?_
 refine SL.nil (SE.seq ?_)
 refine SC.ret ?_
 refine SE.fin (rs := [.tmp 2]) rfl (RV.tmp rfl RV.nil) (r7) (by repeat first|exact s0_ _|exact s1_ _|apply s2_|apply s3_) (by simp [It.rids]) ?_
 exact rfl
set_option maxHeartbeats 1000000 in
theorem twin_s (hgo : GlOk g) : Spec Try.prog 12 [glA g] [] (fun _ : Unit => []) (fun _ => glA g) := by
 refine spec_of Try.func12 rfl Try.ntmps12 rfl fun G w => ?_
 refine SC.seq (SC.region ?_)
 refine SL.eff (Eff.boxA (cs := g.abs) rfl) rfl rfl ?_
 rintro _ _ ⟨b1, rfl, rfl⟩
 refine SL.eff (Eff.alloc tabOk rfl) rfl rfl ?_
 rintro _ _ ⟨b2, rfl, rfl⟩
 refine SL.nil (SE.seq ?_)
 refine SC.seq (SC.region ?_)
 refine SL.val (Val.fieldAddr tabOk rfl rfl rfl rfl rfl) rfl rfl ?_
 refine SL.val (Val.to (C := ddsA g.deeds) (Val.load1 tabOk rfl rfl (by repeat first|assumption|exact o0_|exact o1_|apply o2_) List.not_mem_nil (by rfl)) rfl) rfl rfl ?_
 refine SL.call (clone_dd_s (xs := g.deeds.map Dd.abs) (dds_ones g.deeds) (by rw [List.length_map]; have := hgo.dn; omega)) Casts.refl (by kernel_rfl) rfl rfl rfl ?_
 refine After.make (by repeat (first | exact Reads.nil | (refine Reads.blk ?_ ?_; focus ((repeat first|assumption|exact m0_|apply m1_); done)) | (refine Reads.rd ?_ ?_; focus ((repeat first|assumption|exact m0_|apply m1_); done)) | (refine Reads.pc ?_ ?_; focus ((repeat first|assumption|exact m0_|apply m1_); done)) | (refine Reads.rdpc ?_ ?_; focus ((repeat first|assumption|exact m0_|apply m1_); done)))) (fun _ => rfl) ?_
 intro v6
 refine SL.val (Val.fieldAddr tabOk rfl rfl rfl rfl rfl) rfl rfl ?_
 refine SL.eff (Eff.storeOwn (L' := [int g.who, int g.view, int g.low, int g.cur, int g.drops, int g.slots, .v v6]) tabOk rfl rfl rfl rfl (by repeat first|assumption|exact m0_|apply m1_) (by repeat first|assumption|exact Upd.here|apply Upd.there) rfl (by rfl)) rfl rfl ?_
 rintro _ _ ⟨rfl, rfl⟩
 refine SL.nil (SE.seq ?_)
 refine SC.seq ?_
 refine SC.seq (SC.region ?_)
 refine SL.val (Val.fieldAddr tabOk rfl rfl rfl rfl rfl) rfl rfl ?_
 refine SL.val (Val.to (C := .v v6) (Val.load1 tabOk rfl rfl (by repeat first|assumption|exact o0_|exact o1_|apply o2_) List.not_mem_nil (by rfl)) rfl) rfl rfl ?_
 refine SL.val (Val.lenOwnR (m := g.deeds.length) rfl (.inl (by repeat first|assumption|exact m0_|apply m1_)) Try.underlying39 (List.length_map _)) rfl rfl ?_
 refine SL.val (Val.move rfl) rfl rfl ?_
 refine SL.nil (SE.seq ?_)
 refine SC.block ?_
 have hdn := hgo.dn
 refine SC.loop (ι := Nat) (fun z => [own 37 3 v6 (g.deeds.map Dd.abs), .blk b2 41 [int 0, int 0, int 0, int 0, int 0, int 0, .v (.slice none 0 0)], .blk b1 41 [int g.who, int g.view, int g.low, int g.cur, int g.drops, int g.slots, .v v6]]) (fun z => [(1, ptr b1), (2, ptr b2), (10, int (g.deeds.length : Nat)), (11, int (z : Nat))]) (fun z => z ≤ g.deeds.length) (fun z => g.deeds.length - z) (0) (Nat.zero_le _) (by exact ⟨rfl, rfl, rfl, rfl, trivial⟩) (by repeat first|exact s0_ _|exact s1_ _|apply s2_|apply s3_) ?_
 intro z hz
 refine SC.seq (SC.region ?_)
 refine SL.val (Val.ltI rfl rfl) rfl rfl ?_
 refine SL.nil (SE.seq ?_)
 refine SC.seq ?_
 refine SC.condP rfl ?_ ?_
 rotate_left
 ·intro hc12
  refine SC.exit ?_
  refine SE.then_ nofun ?_
  refine SE.then_ nofun ?_
  refine SE.exit ?_
  refine SE.seq ?_
  refine SC.seq ?_
  refine SC.freezeC (b := b1) [] 6 rfl (by repeat first|assumption|exact Upd.here|apply Upd.there) rfl ?_
  refine SC.region ?_
  refine SL.val (Val.to (C := glA g) (Val.loadP tabOk rfl rfl rfl (by repeat first|assumption|exact o0_|exact o1_|apply o2_) List.not_mem_nil (lb_ (by rfl))) rfl) rfl rfl ?_
  refine SL.eff (Eff.store (L' := g.abs) tabOk rfl rfl rfl (by repeat first|assumption|exact Upd.here|apply Upd.there) rfl (lb_ (by rfl)) rfl (by exact putL_whole rfl)) rfl rfl ?_
  rintro _ _ ⟨rfl, rfl⟩
  refine SL.nil (SE.seq ?_)
  refine SC.ret ?_
  refine SE.fin (rs := [.cell 2 41]) rfl (RV.cell rfl (RV.cellA tabOk rfl rfl (by repeat first|assumption|exact o0_|exact o1_|apply o2_) (by rfl)) RV.nil) (()) (by repeat first|exact s0_ _|exact s1_ _|apply s2_|apply s3_) (by simp [It.rids]) ?_
  exact rfl
 intro hc12
 have hlt : z < g.deeds.length := by omega
 refine SC.skip ?_
 refine SE.seq ?_
 refine SC.seq ?_
 refine SC.block ?_
 refine SC.seq (SC.region ?_)
 refine SL.val (Val.move rfl) rfl rfl ?_
 refine SL.val (Val.assign rfl) rfl rfl ?_
 refine SL.nil (SE.seq ?_)
 refine SC.drawZ [] (.q 0 (.q 1 (.q 2 (.q 3 (.q 4 (.q 5 (.q 6 (.q 7 (.q 8 (.e 9 (.q 10 (.q 11 .nil)))))))))))) (by kernel_rfl) (by kernel_rfl) ?_
 refine SX.val rfl (Val.fieldAddr tabOk rfl rfl rfl rfl rfl) (by simp) rfl rfl ?_
 refine SX.hx (by first|(simp[mids,It.mids,ownPc];done)|(intro k hk;simp[mids,It.mids,ownPc] at hk ⊢;grind)) fun hx9 => ?_
 refine SX.val rfl (Val.to (C := .v v6) (Val.load1 tabOk rfl rfl (by repeat first|assumption|exact o0_|exact o1_|apply o2_) List.not_mem_nil (by rfl)) rfl) hx9 rfl rfl ?_
 refine SX.val rfl (Val.move rfl) (by simp) rfl rfl ?_
 refine SX.val rfl (Val.fieldAddr tabOk rfl rfl rfl rfl rfl) (by simp) rfl rfl ?_
 refine SX.val rfl (Val.to (C := .v v6) (Val.load1 tabOk rfl rfl (by repeat first|assumption|exact o0_|exact o1_|apply o2_) List.not_mem_nil (by rfl)) rfl) hx9 rfl rfl ?_
 refine SX.val rfl (Val.move rfl) (by simp) rfl rfl ?_
 refine SX.val rfl (Val.indexOwn (q := z) tabOk Try.underlying39 rfl rfl (.inl (by repeat first|assumption|exact m0_|apply m1_)) rfl rfl (by rw [List.length_map]; exact hlt) rfl rfl) hx9 rfl rfl ?_
 refine SX.val rfl (Val.fieldOwn (q := z) (s := 3) (cs := Dd.abs (g.deeds[z]'hlt)) tabOk rfl rfl (.inl (by repeat first|assumption|exact m0_|apply m1_)) rfl (by rw [List.getElem?_map, List.getElem?_eq_getElem hlt]; rfl) rfl rfl rfl) hx9 rfl rfl ?_
 refine SX.val rfl (Val.to (C := entsR (g.deeds[z]'hlt).batch) (Val.loadOwnJ (q := z) (s := 3) (jj := 1) (cs := Dd.abs (g.deeds[z]'hlt)) tabOk rfl rfl (.inl (by repeat first|assumption|exact m0_|apply m1_)) rfl (by rw [List.getElem?_map, List.getElem?_eq_getElem hlt]; rfl) rfl) rfl) hx9 rfl rfl ?_
 refine SX.call rfl (clone_ents_s (ents_ones (g.deeds[z]'hlt).batch) (by rw [List.length_map]; have := hgo.bn _ (List.getElem_mem hlt); omega)) (by simp [mids, It.mids]) Casts.refl (by kernel_rfl) rfl rfl rfl ?_
 refine ap_ ?_
 intro _
 refine SX.hx (by first|(simp[mids,It.mids,ownPc];done)|(intro k hk;simp[mids,It.mids,ownPc] at hk ⊢;grind)) fun hx9 => ?_
 refine SX.val rfl (Val.indexOwn (q := z) tabOk Try.underlying39 rfl rfl (.inl (by repeat first|assumption|exact m0_|apply m1_)) rfl rfl (by rw [List.length_map]; exact hlt) rfl rfl) hx9 rfl rfl ?_
 refine SX.val rfl (Val.fieldOwn (q := z) (s := 3) (cs := Dd.abs (g.deeds[z]'hlt)) tabOk rfl rfl (.inl (by repeat first|assumption|exact m0_|apply m1_)) rfl (by rw [List.getElem?_map, List.getElem?_eq_getElem hlt]; rfl) rfl rfl rfl) hx9 rfl rfl ?_
 refine SX.nil ?_
 refine SE.effZ rfl (Eff.setOwnJ (q := z) (s := 3) (jj := 1) (cs := Dd.abs (g.deeds[z]'hlt)) tabOk rfl rfl rfl rfl rfl (by rw [List.getElem?_map, List.getElem?_eq_getElem hlt]; rfl) rfl (by repeat first|assumption|exact Upd.here|apply Upd.there)) rfl rfl ?_
 rintro _ _ ⟨rfl, rfl⟩
 rw [dds_keep hlt]
 refine SE.inBlock ?_
 refine SE.seq ?_
 refine SC.region ?_
 first
  | refine SL.val (Val.addI rfl rfl (by simp only [InR, lo, hi]; omega)) rfl rfl ?_
  | refine SL.val (Val.addW rfl rfl) rfl rfl ?_
 refine SL.val (Val.move rfl) rfl rfl ?_
 refine SL.nil ?_
 refine SE.round (z + 1) (by first | omega | (dsimp only; omega)) ((by omega)) (by exact ⟨rfl, rfl, rfl, rfl, trivial⟩) (by repeat first|exact s0_ _|exact s1_ _|apply s2_|apply s3_)
theorem wnew_s  : Spec Try.prog 5 [] [] (fun z : Nat × Nat => [.blk z.1 44 [mapV z.2], facts (facM glA ([] : List (Int × (Value × Gl)))), .pc (mapPc z.2 intK id intOk (rawM ([] : List (Int × (Value × Gl)))))]) (fun z => ptr z.1) := by
 refine spec_of Try.func5 rfl Try.ntmps5 rfl fun G w => ?_
 refine SC.seq (SC.region ?_)
 refine SL.val (Val.assign rfl) rfl rfl ?_
 refine SL.nil (SE.seq ?_)
 refine SC.seq (SC.region ?_)
 refine SL.eff (Eff.makeMap intK id intOk (fun ac w => by simp [execOp, Instr.makeMap, newObj, Sem.run, Sem.run_bind, Result.andThen])) rfl rfl ?_
 rintro _ _ ⟨m1, rfl, rfl⟩
 refine SL.val (Val.buildS tabOk rfl rfl rfl rfl) rfl rfl ?_
 refine SL.eff (Eff.boxA (cs := [mapV m1]) rfl) rfl rfl ?_
 rintro _ _ ⟨b3, rfl, rfl⟩
 refine SL.val (Val.assign rfl) rfl rfl ?_
 refine SL.nil (SE.seq ?_)
 refine SC.ret ?_
 refine SE.re [_] Re.facts0 rfl ?_
 refine SE.fin (rs := [.tmp 0]) rfl (RV.tmp rfl RV.nil) ((b3, m1)) (by repeat first|exact s0_ _|exact s1_ _|apply s2_|apply s3_) (by simp [It.rids]) ?_
 exact rfl
end
end Go.Proofs.Ytiaeochlepkleaa.A
/-
  Watch: Look.
-/
namespace Go.Proofs.Ytiaeochlepkleaa.A
open Go.RowKit

section
variable {g : Gl} {l L : List Gl} {A : Abs} {bw bm br : Nat} {r : Value} {tm : List (Int × (Value × Gl))} {x y : Dd} {a b : List Dd} {k : Int}
theorem zero_deeds {d : Dd} (h : d ∈ Gl.zero.deeds) : False := by cases h
theorem Mems.hw (h : Mems tm L) : ∀ k : Int, ∀ d ∈ (((aget tm k).map (·.2)).getD Gl.zero).deeds, DdIns d ∧ d.batch.length ≤ 1000 := fun k d hd => by
  rw [h.get] at hd
  cases hk : lastF L k with
  | none => rw [hk] at hd; exact (zero_deeds hd).elim
  | some g =>
    rw [hk] at hd
    have h2 := h.gl g (lastF_some hk).1
    exact ⟨h2.ins.deeds d hd, Nat.le_trans (h2.bn d hd) (by decide)⟩
theorem Mems.fn (h : Mems tm L) : (fun k => (aget tm k).map (·.2)) = lastF L := funext h.get
set_option maxHeartbeats 1000000 in
theorem wlook_s (hm : Mems tm L) (hl : ∀ x ∈ l, GlOk x) (hn : l.length ≤ 8) : Spec Try.prog 7 [ptr bw, glsA l] [.blk bw 44 [mapV bm], facts (facM glA tm), .pc (mapPc bm intK id intOk (rawM tm))] (fun z : {t : List (Int × (Value × Gl)) // Mems t (lookL L l)} => [.blk bw 44 [mapV bm], facts (facM glA z.1), .pc (mapPc bm intK id intOk (rawM z.1))]) (fun _ => int (oddF (lastF L) l)) := by
 refine spec_of Try.func7 rfl Try.ntmps7 rfl fun G w => ?_
 refine SC.seq (SC.region ?_)
 refine SL.val (Val.assign rfl) rfl rfl ?_
 refine SL.nil (SE.seq ?_)
 refine SC.seq ?_
 refine SC.seq (SC.region ?_)
 refine SL.val (Val.move rfl) rfl rfl ?_
 refine SL.val (Val.eqP rfl rfl (by kernel_rfl)) rfl rfl ?_
 refine SL.nil (SE.seq ?_)
 refine SC.condF rfl ?_
 refine SC.skip ?_
 refine SE.seq ?_
 refine SC.seq ?_
 refine SC.seq (SC.region ?_)
 iterate 2 refine SL.val (Val.move rfl) rfl rfl ?_
 refine SL.call (odd_s (tm := tm) (bw := bw) (bm := bm) hl hn hm.hw) Casts.refl (by kernel_rfl) rfl rfl rfl ?_
 refine ap_ ?_
 intro _
 rw [hm.fn]
 refine SL.val (Val.assign rfl) rfl rfl ?_
 refine SL.nil (SE.seq ?_)
 refine SC.seq (SC.region ?_)
 refine SL.val (Val.move rfl) rfl rfl ?_
 refine SL.val (Val.neI rfl rfl) rfl rfl ?_
 refine SL.nil (SE.seq ?_)
 refine SC.condP rfl ?_ ?_
 ·intro hc14
  refine SC.seq (SC.region ?_)
  refine SL.val (Val.move rfl) rfl rfl ?_
  refine SL.val (Val.assign rfl) rfl rfl ?_
  refine SL.nil (SE.seq ?_)
  refine SC.ret ?_
  refine SE.then_ nofun ?_
  refine SE.fin (rs := [.tmp 4]) rfl (RV.tmp rfl RV.nil) (⟨tm, by rw [lookL, if_neg hc14]; exact hm⟩) (by repeat first|exact s0_ _|exact s1_ _|apply s2_|apply s3_) (by simp [It.rids]) ?_
  exact rfl
 intro hc14
 have ho : oddF (lastF L) l = 0 := Classical.not_not.1 hc14
 have hnd := odd_zero ho
 refine SC.skip ?_
 refine SE.seq ?_
 refine SC.seq ?_
 refine SC.seq (SC.region ?_)
 refine SL.val (Val.move rfl) rfl rfl ?_
 first
  | refine SL.val (Val.lenSl rfl Try.underlying27 (List.length_map _)) rfl rfl ?_
  | refine SL.val (Val.lenOwn rfl (by repeat first|assumption|exact m0_|apply m1_) Try.underlying27 (List.length_map _)) rfl rfl ?_
  | refine SL.val (Val.lenNil rfl Try.underlying27) rfl rfl ?_
 refine SL.val (Val.move rfl) rfl rfl ?_
 refine SL.nil (SE.seq ?_)
 refine SC.block ?_
 refine SC.rowLe (i := 16) rfl fun hrow => ?_
 rw [List.length_map] at hrow
 unfold maxLen at hrow
 refine SC.loop (ι := Nat × List (Int × (Value × Gl))) (fun z => [.blk bw 44 [mapV bm], facts (facM glA z.2), .pc (mapPc bm intK id intOk (rawM z.2))]) (fun z => [(0, ptr bw), (16, glsA l), (17, int (l.length : Nat)), (18, int (z.1 : Nat))]) (fun z => z.1 ≤ l.length ∧ Puts z.2 L l z.1) (fun z => l.length - z.1) (0, tm) (⟨Nat.zero_le _, hm.puts⟩) (by exact ⟨rfl, rfl, rfl, rfl, trivial⟩) (by repeat first|exact s0_ _|exact s1_ _|apply s2_|apply s3_) ?_
 intro z hz
 refine SC.seq (SC.region ?_)
 refine SL.val (Val.ltI rfl rfl) rfl rfl ?_
 refine SL.nil (SE.seq ?_)
 refine SC.seq ?_
 refine SC.condP rfl ?_ ?_
 rotate_left
 ·intro hc19
  have hze : z.1 = l.length := by omega
  have hpz := hz.2
  rw [hze] at hpz
  refine SC.exit ?_
  refine SE.then_ nofun ?_
  refine SE.then_ nofun ?_
  refine SE.exit ?_
  refine SE.seq ?_
  refine SC.seq (SC.region ?_)
  refine SL.val (Val.assign rfl) rfl rfl ?_
  refine SL.nil (SE.seq ?_)
  refine SC.ret ?_
  refine SE.fin (rs := [.tmp 4]) rfl (RV.tmp rfl RV.nil) (⟨z.2, by rw [lookL, if_pos ho]; exact hpz.mems hm.ndL hm.gl hnd hl⟩) (by repeat first|exact s0_ _|exact s1_ _|apply s2_|apply s3_) (by simp [It.rids]) ?_
  rw [ho]
  rfl
 intro hc19
 have hlt : z.1 < l.length := by omega
 have hzi := (hl _ (List.getElem_mem hlt)).ins
 refine SC.skip ?_
 refine SE.seq ?_
 refine SC.seq ?_
 refine SC.block ?_
 refine SC.seq (SC.region ?_)
 refine SL.val (Val.indexSl tabOk Try.underlying27 rfl rfl rfl rfl (at_map (by omega)) rfl rfl) rfl rfl ?_
 refine SL.val (Val.loadAR tabOk rfl rfl rfl (by rfl)) rfl rfl ?_
 refine SL.eff (Eff.alloc tabOk rfl) rfl rfl ?_
 rintro _ _ ⟨b7, rfl, rfl⟩
 refine SL.eff (Eff.store (L' := (l[z.1]'hlt).abs) tabOk rfl rfl rfl (by repeat first|assumption|exact Upd.here|apply Upd.there) rfl (lb_ (by rfl)) rfl (by exact putL_whole rfl)) rfl rfl ?_
 rintro _ _ ⟨rfl, rfl⟩
 refine SL.nil (SE.seq ?_)
 refine SC.drawZ [] (.q 0 (.q 1 (.q 2 (.q 3 (.q 4 (.q 5 (.q 6 (.e 7 .nil)))))))) (by kernel_rfl) (by kernel_rfl) ?_
 refine SX.val rfl (Val.move rfl) (by simp) rfl rfl ?_
 refine SX.val rfl (Val.nilCheck rfl) (by simp) rfl rfl ?_
 refine SX.val rfl (Val.fieldAddr tabOk rfl rfl rfl rfl rfl) (by simp) rfl rfl ?_
 refine SX.hx (by first|(simp[mids,It.mids,ownPc];done)|(intro k hk;simp[mids,It.mids,ownPc] at hk ⊢;grind)) fun hx9 => ?_
 refine SX.val rfl (Val.to (C := mapV bm) (Val.load1 tabOk rfl rfl (by repeat first|assumption|exact o0_|exact o1_|apply o2_) List.not_mem_nil (by rfl)) rfl) hx9 rfl rfl ?_
 refine SX.val rfl (Val.fieldAddr tabOk rfl rfl rfl rfl rfl) (by simp) rfl rfl ?_
 refine SX.val rfl (Val.to (C := int (l[z.1]'hlt).who) (Val.load1 tabOk rfl rfl (by repeat first|assumption|exact o0_|exact o1_|apply o2_) List.not_mem_nil (by rfl)) rfl) hx9 rfl rfl ?_
 refine SX.val rfl (Val.to (C := glA (l[z.1]'hlt)) (Val.loadP tabOk rfl rfl rfl (by repeat first|assumption|exact o0_|exact o1_|apply o2_) List.not_mem_nil (lb_ (by rfl))) rfl) hx9 rfl rfl ?_
 refine SX.call rfl (twin_s (hl _ (List.getElem_mem hlt))) (by simp [mids, It.mids]) Casts.refl (by kernel_rfl) rfl rfl rfl ?_
 refine ap_ ?_
 intro _
 refine SX.learn (t := 29) rfl (fun u => (by repeat first|assumption|exact Upd.here|apply Upd.there)) ?_
 intro u29
 refine SX.nil ?_
 refine SE.effZ rfl (Eff.mapPut (a := (l[z.1]'hlt).who) (v := u29) (m' := rawM (aput z.2 (l[z.1]'hlt).who (u29, (l[z.1]'hlt)))) (int_fit Try.underlying3) Try.underlying42 rfl (by repeat first|assumption|exact Upd.here|apply Upd.there) rfl is_v (int_in hzi.who) rfl is_v (rawM_put _ _ _ _).symm) rfl rfl ?_
 rintro _ _ ⟨rfl, rfl⟩
 refine SE.inBlock ?_
 refine SE.seq ?_
 refine SC.region ?_
 first
  | refine SL.val (Val.addI rfl rfl (by simp only [InR, lo, hi]; omega)) rfl rfl ?_
  | refine SL.val (Val.addW rfl rfl) rfl rfl ?_
 refine SL.val (Val.move rfl) rfl rfl ?_
 refine SL.nil ?_
 refine SE.re [_, _] (Re.factsLess (facM_put (enc := glA) z.2 (l[z.1]'hlt).who u29 (l[z.1]'hlt))) rfl ?_
 refine SE.round (z.1 + 1, aput z.2 (l[z.1]'hlt).who (u29, (l[z.1]'hlt))) (by first | omega | (dsimp only; omega)) (⟨by dsimp only; omega, hz.2.step hlt hnd hzi.who u29⟩) (by exact ⟨rfl, rfl, rfl, rfl, trivial⟩) (by repeat first|exact s0_ _|exact s1_ _|apply s2_|apply s3_)
theorem wlook_no  : Spec Try.prog 7 [.v (.pointer none), A] [] (fun _ : Unit => []) (fun _ => int 1) := by
 refine spec_of Try.func7 rfl Try.ntmps7 rfl fun G w => ?_
 refine SC.seq (SC.region ?_)
 refine SL.val (Val.assign rfl) rfl rfl ?_
 refine SL.nil (SE.seq ?_)
 refine SC.seq ?_
 refine SC.seq (SC.region ?_)
 refine SL.val (Val.move rfl) rfl rfl ?_
 refine SL.val (Val.eqP rfl rfl (by kernel_rfl)) rfl rfl ?_
 refine SL.nil (SE.seq ?_)
 refine SC.condT rfl ?_
 refine SC.seq (SC.region ?_)
 refine SL.val (Val.assign rfl) rfl rfl ?_
 refine SL.nil (SE.seq ?_)
 refine SC.ret ?_
 refine SE.then_ nofun ?_
 refine SE.fin (rs := [.tmp 4]) rfl (RV.tmp rfl RV.nil) (()) (by repeat first|exact s0_ _|exact s1_ _|apply s2_|apply s3_) (by simp [It.rids]) ?_
 exact rfl
theorem wseen_s  : Spec Try.prog 9 [ptr bw] [.rd bw 44 [mapV bm], .rdpc (factsPc (facM glA tm)), .rdpc (mapPc bm intK id intOk (rawM tm))] (fun _ : Unit => []) (fun _ => int (tm.length : Nat)) := by
 refine spec_of Try.func9 rfl Try.ntmps9 rfl fun G w => ?_
 refine SC.seq (SC.region ?_)
 refine SL.val (Val.assign rfl) rfl rfl ?_
 refine SL.nil (SE.seq ?_)
 refine SC.seq ?_
 refine SC.seq (SC.region ?_)
 refine SL.val (Val.move rfl) rfl rfl ?_
 refine SL.val (Val.eqP rfl rfl (by kernel_rfl)) rfl rfl ?_
 refine SL.nil (SE.seq ?_)
 refine SC.condF rfl ?_
 refine SC.skip ?_
 refine SE.seq ?_
 refine SC.seq (SC.region ?_)
 refine SL.val (Val.move rfl) rfl rfl ?_
 refine SL.val (Val.nilCheck rfl) rfl rfl ?_
 refine SL.val (Val.fieldAddr tabOk rfl rfl rfl rfl rfl) rfl rfl ?_
 refine SL.val (Val.to (C := mapV bm) (Val.load1 tabOk rfl rfl (by repeat first|assumption|exact o0_|exact o1_|apply o2_) List.not_mem_nil (by rfl)) rfl) rfl rfl ?_
 refine SL.val (Val.to (C := int (tm.length : Nat)) (Val.lenMap (m := rawM tm) Try.underlying42 rfl (by repeat first|assumption|exact o0_|exact o1_|apply o2_) List.not_mem_nil) (congrArg (fun n : Nat => int (n : Int)) (by rw [rawM, List.length_map]))) rfl rfl ?_
 refine SL.val (Val.assign rfl) rfl rfl ?_
 refine SL.nil (SE.seq ?_)
 refine SC.ret ?_
 refine SE.fin (rs := [.tmp 2]) rfl (RV.tmp rfl RV.nil) (()) (by repeat first|exact s0_ _|exact s1_ _|apply s2_|apply s3_) (by simp [It.rids]) ?_
 exact rfl
theorem wseen_no  : Spec Try.prog 9 [.v (.pointer none)] [] (fun _ : Unit => []) (fun _ => int 0) := by
 refine spec_of Try.func9 rfl Try.ntmps9 rfl fun G w => ?_
 refine SC.seq (SC.region ?_)
 refine SL.val (Val.assign rfl) rfl rfl ?_
 refine SL.nil (SE.seq ?_)
 refine SC.seq ?_
 refine SC.seq (SC.region ?_)
 refine SL.val (Val.move rfl) rfl rfl ?_
 refine SL.val (Val.eqP rfl rfl (by kernel_rfl)) rfl rfl ?_
 refine SL.nil (SE.seq ?_)
 refine SC.condT rfl ?_
 refine SC.seq (SC.region ?_)
 refine SL.val (Val.assign rfl) rfl rfl ?_
 refine SL.nil (SE.seq ?_)
 refine SC.ret ?_
 refine SE.then_ nofun ?_
 refine SE.fin (rs := [.tmp 2]) rfl (RV.tmp rfl RV.nil) (()) (by repeat first|exact s0_ _|exact s1_ _|apply s2_|apply s3_) (by simp [It.rids]) ?_
 exact rfl
set_option maxHeartbeats 2000000 in
theorem rsame29_s (ha : ∀ d ∈ a, DdIns d) (hb : ∀ d ∈ b, DdIns d) (hal : ∀ d ∈ a, d.batch.length ≤ 1000) : Spec Try.prog 32 [ddsA a, ddsA b] [] (fun _ : Unit => []) (fun _ => boo (decide (a = b))) := by
 refine spec_of Try.func32 rfl Try.ntmps32 rfl fun G w => ?_
 refine SC.seq (SC.region ?_)
 refine SL.val (Val.assign rfl) rfl rfl ?_
 refine SL.nil (SE.seq ?_)
 refine SC.seq ?_
 refine SC.seq (SC.region ?_)
 refine SL.val (Val.move rfl) rfl rfl ?_
 first
  | refine SL.val (Val.lenSl rfl Try.underlying39 (List.length_map _)) rfl rfl ?_
  | refine SL.val (Val.lenOwn rfl (by repeat first|assumption|exact m0_|apply m1_) Try.underlying39 (List.length_map _)) rfl rfl ?_
  | refine SL.val (Val.lenNil rfl Try.underlying39) rfl rfl ?_
 refine SL.val (Val.move rfl) rfl rfl ?_
 first
  | refine SL.val (Val.lenSl rfl Try.underlying39 (List.length_map _)) rfl rfl ?_
  | refine SL.val (Val.lenOwn rfl (by repeat first|assumption|exact m0_|apply m1_) Try.underlying39 (List.length_map _)) rfl rfl ?_
  | refine SL.val (Val.lenNil rfl Try.underlying39) rfl rfl ?_
 refine SL.val (Val.neI rfl rfl) rfl rfl ?_
 refine SL.nil (SE.seq ?_)
 refine SC.condP rfl ?_ ?_
 ·intro hc10
  refine SC.seq (SC.region ?_)
  refine SL.val (Val.assign rfl) rfl rfl ?_
  refine SL.nil (SE.seq ?_)
  refine SC.ret ?_
  refine SE.then_ nofun ?_
  refine SE.fin (rs := [.tmp 4]) rfl (RV.tmp rfl RV.nil) (()) (by repeat first|exact s0_ _|exact s1_ _|apply s2_|apply s3_) (by simp [It.rids]) ?_
  refine boo_dec0 fun h => ?_
  subst h
  omega
 intro hc10
 have hlen : a.length = b.length := by omega
 refine SC.skip ?_
 refine SE.seq ?_
 refine SC.seq ?_
 refine SC.seq (SC.region ?_)
 refine SL.val (Val.move rfl) rfl rfl ?_
 first
  | refine SL.val (Val.lenSl rfl Try.underlying39 (List.length_map _)) rfl rfl ?_
  | refine SL.val (Val.lenOwn rfl (by repeat first|assumption|exact m0_|apply m1_) Try.underlying39 (List.length_map _)) rfl rfl ?_
  | refine SL.val (Val.lenNil rfl Try.underlying39) rfl rfl ?_
 refine SL.val (Val.move rfl) rfl rfl ?_
 refine SL.nil (SE.seq ?_)
 refine SC.block ?_
 refine SC.rowLe (i := 11) rfl fun hrow => ?_
 rw [List.length_map] at hrow
 unfold maxLen at hrow
 refine SC.loop (ι := Nat) (fun z => []) (fun z => [(0, ddsA a), (1, ddsA b), (12, int (a.length : Nat)), (13, int (z : Nat))]) (fun z => z ≤ a.length ∧ ∀ j (h1 : j < a.length) (h2 : j < b.length), j < z → a[j] = b[j]) (fun z => a.length - z) (0) (⟨Nat.zero_le _, fun j h1 h2 h => by omega⟩) (by exact ⟨rfl, rfl, rfl, rfl, trivial⟩) (by repeat first|exact s0_ _|exact s1_ _|apply s2_|apply s3_) ?_
 intro z hz
 refine SC.seq (SC.region ?_)
 refine SL.val (Val.ltI rfl rfl) rfl rfl ?_
 refine SL.nil (SE.seq ?_)
 refine SC.seq ?_
 refine SC.condP rfl ?_ ?_
 rotate_left
 ·intro hc14
  refine SC.exit ?_
  refine SE.then_ nofun ?_
  refine SE.then_ nofun ?_
  refine SE.exit ?_
  refine SE.seq ?_
  refine SC.seq (SC.region ?_)
  refine SL.val (Val.assign rfl) rfl rfl ?_
  refine SL.nil (SE.seq ?_)
  refine SC.ret ?_
  refine SE.fin (rs := [.tmp 4]) rfl (RV.tmp rfl RV.nil) (()) (by repeat first|exact s0_ _|exact s1_ _|apply s2_|apply s3_) (by simp [It.rids]) ?_
  refine congrArg (fun b => Abs.v (Value.bool b)) (Eq.symm (decide_eq_true ?_))
  exact List.ext_getElem hlen fun j h1 h2 => hz.2 j h1 h2 (by omega)
 intro hc14
 have hza : z < a.length := by omega
 have hzb : z < b.length := by omega
 refine SC.skip ?_
 refine SE.seq ?_
 refine SC.seq ?_
 refine SC.block ?_
 refine SC.seq (SC.region ?_)
 refine SL.val (Val.move rfl) rfl rfl ?_
 refine SL.val (Val.assign rfl) rfl rfl ?_
 refine SL.nil (SE.seq ?_)
 refine SC.seq ?_
 refine SC.draw [] (.q 0 (.q 1 (.q 2 (.q 3 (.q 4 (.q 5 (.q 6 (.q 7 (.q 8 (.q 9 (.q 10 (.q 11 (.q 12 (.q 13 (.q 14 (.q 15 (.q 16 (.q 17 (.q 18 (.q 19 (.q 20 (.q 21 (.q 22 (.q 23 (.q 24 (.q 25 (.q 26 (.q 27 (.q 28 (.q 29 (.q 30 (.q 31 (.q 32 (.q 33 (.q 34 (.e 35 (.q 36 (.q 37 .nil)))))))))))))))))))))))))))))))))))))) (by kernel_rfl) (by kernel_rfl) ?_
 refine SX.val rfl (Val.move rfl) (by simp) rfl rfl ?_
 refine SX.val rfl (Val.move rfl) (by simp) rfl rfl ?_
 refine SX.hx (by first|(simp[mids,It.mids,ownPc];done)|(intro k hk;simp[mids,It.mids,ownPc] at hk ⊢;grind)) fun hx9 => ?_
 refine SX.val rfl (Val.indexSl (q := z) (cs := Dd.abs (a[z]'hza)) tabOk Try.underlying39 rfl rfl rfl rfl (by rw [List.getElem?_map, List.getElem?_eq_getElem hza]; rfl) rfl rfl) hx9 rfl rfl ?_
 first
  | refine SX.val rfl (Val.fieldAddr tabOk rfl rfl rfl rfl rfl) (by simp) rfl rfl ?_
  | refine SX.val rfl (Val.fieldAddrR tabOk rfl rfl rfl rfl rfl) (by simp) rfl rfl ?_
 refine SX.val rfl (Val.to (C := int (a[z]'hza).seq) (Val.load1R tabOk rfl rfl rfl) rfl) hx9 rfl rfl ?_
 refine SX.val rfl (Val.move rfl) (by simp) rfl rfl ?_
 refine SX.val rfl (Val.move rfl) (by simp) rfl rfl ?_
 refine SX.val rfl (Val.indexSl (q := z) (cs := Dd.abs (b[z]'hzb)) tabOk Try.underlying39 rfl rfl rfl rfl (by rw [List.getElem?_map, List.getElem?_eq_getElem hzb]; rfl) rfl rfl) hx9 rfl rfl ?_
 first
  | refine SX.val rfl (Val.fieldAddr tabOk rfl rfl rfl rfl rfl) (by simp) rfl rfl ?_
  | refine SX.val rfl (Val.fieldAddrR tabOk rfl rfl rfl rfl rfl) (by simp) rfl rfl ?_
 refine SX.val rfl (Val.to (C := int (b[z]'hzb).seq) (Val.load1R tabOk rfl rfl rfl) rfl) hx9 rfl rfl ?_
 refine SX.val rfl (Val.neI rfl rfl) (by simp) rfl rfl ?_
 refine SX.val rfl (Val.move rfl) (by simp) rfl rfl ?_
 refine SX.bothP (t := 27) rfl ?_ ?_
 ·intro hc27
  iterate 11 refine SX.skip rfl rfl rfl ?_
  refine SX.val rfl (Val.pickT rfl rfl) (by simp) rfl rfl ?_
  refine SX.val rfl (Val.move rfl) (by simp) rfl rfl ?_
  iterate 10 refine SX.skip rfl rfl rfl ?_
  refine SX.skip' rfl rfl rfl ?_
  refine SX.skip rfl rfl rfl ?_
  refine SX.val rfl (Val.pickT rfl rfl) (by simp) rfl rfl ?_
  refine SX.nil (SE.seq ?_)
  refine SC.condT rfl ?_
  refine SC.seq (SC.region ?_)
  refine SL.val (Val.assign rfl) rfl rfl ?_
  refine SL.nil (SE.seq ?_)
  refine SC.ret ?_
  refine SE.ret ?_
  refine SE.then_ nofun ?_
  refine SE.then_ nofun ?_
  refine SE.ret ?_
  refine SE.then_ nofun ?_
  refine SE.fin (rs := [.tmp 4]) rfl (RV.tmp rfl RV.nil) (()) (by repeat first|exact s0_ _|exact s1_ _|apply s2_|apply s3_) (by simp [It.rids]) ?_
  refine boo_dec0 fun h => ?_
  subst h
  simp_all
 intro hc27
 refine SX.val rfl (Val.move rfl) (by simp) rfl rfl ?_
 refine SX.val rfl (Val.move rfl) (by simp) rfl rfl ?_
 refine SX.val rfl (Val.indexSl (q := z) (cs := Dd.abs (a[z]'hza)) tabOk Try.underlying39 rfl rfl rfl rfl (by rw [List.getElem?_map, List.getElem?_eq_getElem hza]; rfl) rfl rfl) hx9 rfl rfl ?_
 first
  | refine SX.val rfl (Val.fieldAddr tabOk rfl rfl rfl rfl rfl) (by simp) rfl rfl ?_
  | refine SX.val rfl (Val.fieldAddrR tabOk rfl rfl rfl rfl rfl) (by simp) rfl rfl ?_
 refine SX.val rfl (Val.to (C := boo (a[z]'hza).adopted) (Val.load1R tabOk rfl rfl rfl) rfl) hx9 rfl rfl ?_
 refine SX.val rfl (Val.move rfl) (by simp) rfl rfl ?_
 refine SX.val rfl (Val.move rfl) (by simp) rfl rfl ?_
 refine SX.val rfl (Val.indexSl (q := z) (cs := Dd.abs (b[z]'hzb)) tabOk Try.underlying39 rfl rfl rfl rfl (by rw [List.getElem?_map, List.getElem?_eq_getElem hzb]; rfl) rfl rfl) hx9 rfl rfl ?_
 first
  | refine SX.val rfl (Val.fieldAddr tabOk rfl rfl rfl rfl rfl) (by simp) rfl rfl ?_
  | refine SX.val rfl (Val.fieldAddrR tabOk rfl rfl rfl rfl rfl) (by simp) rfl rfl ?_
 refine SX.val rfl (Val.to (C := boo (b[z]'hzb).adopted) (Val.load1R tabOk rfl rfl rfl) rfl) hx9 rfl rfl ?_
 refine SX.val rfl (Val.neB rfl rfl (by kernel_rfl)) (by simp) rfl rfl ?_
 refine SX.val rfl (Val.pickF rfl rfl) (by simp) rfl rfl ?_
 refine SX.val rfl (Val.move rfl) (by simp) rfl rfl ?_
 refine SX.both (t := 40) rfl ?_ ?_
 ·intro hc40
  iterate 10 refine SX.skip rfl rfl rfl ?_
  refine SX.skip' rfl rfl rfl ?_
  refine SX.skip rfl rfl rfl ?_
  refine SX.val rfl (Val.pickT rfl rfl) (by simp) rfl rfl ?_
  refine SX.nil (SE.seq ?_)
  refine SC.condT rfl ?_
  refine SC.seq (SC.region ?_)
  refine SL.val (Val.assign rfl) rfl rfl ?_
  refine SL.nil (SE.seq ?_)
  refine SC.ret ?_
  refine SE.ret ?_
  refine SE.then_ nofun ?_
  refine SE.then_ nofun ?_
  refine SE.ret ?_
  refine SE.then_ nofun ?_
  refine SE.fin (rs := [.tmp 4]) rfl (RV.tmp rfl RV.nil) (()) (by repeat first|exact s0_ _|exact s1_ _|apply s2_|apply s3_) (by simp [It.rids]) ?_
  refine boo_dec0 fun h => ?_
  subst h
  simp_all
 intro hc40
 refine SX.val rfl (Val.move rfl) (by simp) rfl rfl ?_
 refine SX.val rfl (Val.move rfl) (by simp) rfl rfl ?_
 refine SX.val rfl (Val.indexSl (q := z) (cs := Dd.abs (a[z]'hza)) tabOk Try.underlying39 rfl rfl rfl rfl (by rw [List.getElem?_map, List.getElem?_eq_getElem hza]; rfl) rfl rfl) hx9 rfl rfl ?_
 first
  | refine SX.val rfl (Val.fieldAddr tabOk rfl rfl rfl rfl rfl) (by simp) rfl rfl ?_
  | refine SX.val rfl (Val.fieldAddrR tabOk rfl rfl rfl rfl rfl) (by simp) rfl rfl ?_
 refine SX.val rfl (Val.to (C := entsR (a[z]'hza).batch) (Val.load1R tabOk rfl rfl rfl) rfl) hx9 rfl rfl ?_
 refine SX.val rfl (Val.move rfl) (by simp) rfl rfl ?_
 refine SX.val rfl (Val.move rfl) (by simp) rfl rfl ?_
 refine SX.val rfl (Val.indexSl (q := z) (cs := Dd.abs (b[z]'hzb)) tabOk Try.underlying39 rfl rfl rfl rfl (by rw [List.getElem?_map, List.getElem?_eq_getElem hzb]; rfl) rfl rfl) hx9 rfl rfl ?_
 first
  | refine SX.val rfl (Val.fieldAddr tabOk rfl rfl rfl rfl rfl) (by simp) rfl rfl ?_
  | refine SX.val rfl (Val.fieldAddrR tabOk rfl rfl rfl rfl rfl) (by simp) rfl rfl ?_
 refine SX.val rfl (Val.to (C := entsR (b[z]'hzb).batch) (Val.load1R tabOk rfl rfl rfl) rfl) hx9 rfl rfl ?_
 refine SX.call rfl (rbsame_s (es := (a[z]'hza).batch) (fs := (b[z]'hzb).batch) (by have := hal _ (List.getElem_mem hza); omega) (fun e he => ((ha _ (List.getElem_mem hza)).batch e he).lits) (fun e he => ((hb _ (List.getElem_mem hzb)).batch e he).lits)) (by simp [mids, It.mids]) Casts.refl (by kernel_rfl) rfl rfl rfl ?_
 refine ap_ ?_
 intro _
 refine SX.val rfl (Val.notB rfl) (by simp) rfl rfl ?_
 refine SX.val rfl (Val.pickF rfl rfl) (by simp) rfl rfl ?_
 refine SX.nil (SE.seq ?_)
 refine SC.cond rfl ?_ ?_
 rotate_left
 ·intro hc53
  refine SC.skip ?_
  refine SE.inBlock ?_
  refine SE.seq ?_
  refine SC.region ?_
  first
   | refine SL.val (Val.addI rfl rfl (by simp only [InR, lo, hi]; omega)) rfl rfl ?_
   | refine SL.val (Val.addW rfl rfl) rfl rfl ?_
  refine SL.val (Val.move rfl) rfl rfl ?_
  refine SL.nil ?_
  refine SE.round (z + 1) (by first | omega | (dsimp only; omega)) (⟨by omega, fun j h1 h2 h3 => by rcases Nat.lt_or_ge j z with h4 | h4; exact hz.2 j h1 h2 h4; obtain rfl : j = z := (by omega); rw [Dd.eq_iff]; simp_all⟩) (by exact ⟨rfl, rfl, rfl, rfl, trivial⟩) (by repeat first|exact s0_ _|exact s1_ _|apply s2_|apply s3_)
 intro hc53
 refine SC.seq (SC.region ?_)
 refine SL.val (Val.assign rfl) rfl rfl ?_
 refine SL.nil (SE.seq ?_)
 refine SC.ret ?_
 refine SE.ret ?_
 refine SE.then_ nofun ?_
 refine SE.then_ nofun ?_
 refine SE.ret ?_
 refine SE.then_ nofun ?_
 refine SE.fin (rs := [.tmp 4]) rfl (RV.tmp rfl RV.nil) (()) (by repeat first|exact s0_ _|exact s1_ _|apply s2_|apply s3_) (by simp [It.rids]) ?_
 refine boo_dec0 fun h => ?_
 subst h
 simp_all
end
end Go.Proofs.Ytiaeochlepkleaa.A
/-
  The second engine: a row of one's own appended to another one; whether it is nil.
-/
namespace Go.Proofs.Ytiaeochlepkleaa.A
open Go.RowKit

section
variable {P : Program} {n : Nat} {W : Wd} {σ σ0 : Blks} {l : Slots} {tab : List (Nat × TI)} {e e2 t ty : TypeId} {s : Nat} {v v2 : Value} {xs ys : List (List Abs)} {x y : Operand} {ops : Array Oper} {rest : List Oper} {Q : Exit → Act → World → Prop} {t' : TypeId} {gq : Option (Nat × Bool)} {d : Option Nat} {pos : String} {aft : Array Edge} {g : Option (Nat × Bool)}
end
end Go.Proofs.Ytiaeochlepkleaa.A
/-
  Watch: the document's questions.
-/
namespace Go.Proofs.Ytiaeochlepkleaa.A
open Go.RowKit

section
variable {g : Gl} {l L : List Gl} {br : Nat} {r : Value} {k : Int}
theorem lastF_at {z : Nat} (h : z < L.length) (h1 : ∀ j (hj : j < L.length), j < z → L[j].who ≠ k) (h2 : L[z].who = k) : lastF L k = some L[z] := by
  unfold lastF
  rw [List.find?_eq_some_iff_getElem]
  exact ⟨decide_eq_true h2, z, h, rfl, fun j hj => by simpa using h1 j (by omega) hj⟩
theorem lastF_not (h1 : ∀ j (hj : j < L.length), j < L.length → L[j].who ≠ k) : lastF L k = none := lastF_none.2 fun g hg => by
  obtain ⟨j, hj, rfl⟩ := List.getElem_of_mem hg
  exact h1 j hj hj
theorem whos_step {z : Nat} (h : z < l.length) (h1 : ((l.take z).map (·.who)).Nodup) (h2 : ∀ j (hj : j < l.length), j < z → l[z].who ≠ l[j].who) : ((l.take (z + 1)).map (·.who)).Nodup := by
  rw [List.take_succ_eq_append_getElem h, List.map_append]
  refine List.nodup_append.2 ⟨h1, by simp, fun a ha b hb hab => ?_⟩
  obtain rfl := List.mem_singleton.1 hb
  obtain ⟨x, hx, rfl⟩ := List.mem_map.1 ha
  obtain ⟨j, hj, rfl⟩ := List.getElem_of_mem hx
  rw [List.length_take] at hj
  rw [List.getElem_take] at hab
  exact h2 j (by omega) (by omega) hab.symm
theorem twice_at {z y : Nat} (h : z < l.length) (hy : y < z) (h2 : l[z].who = (l[y]'(by omega)).who) : twiceF l = true := by
  unfold twiceF
  refine decide_eq_true fun hn => ?_
  have h5 := (List.getElem_inj (xs := l.map (·.who)) (i := z) (j := y) (h₀ := by rw [List.length_map]; omega) (h₁ := by rw [List.length_map]; omega) hn).1 (by rw [List.getElem_map, List.getElem_map]; exact h2)
  omega
set_option maxHeartbeats 1000000 in
theorem rlastg_s (hL : L.length ≤ 100000) : Spec Try.prog 31 [ptr br, int k] [.rd br 29 [.v r], .rdpc (ownPc 41 7 r (L.map Gl.abs))] (fun _ : Unit => []) (fun _ => .tup [glA ((lastF L k).getD Gl.zero), boo (lastF L k).isSome]) := by
 refine spec_of Try.func31 rfl Try.ntmps31 rfl fun G w => ?_
 refine SC.seq (SC.region ?_)
 refine SL.eff (Eff.alloc tabOk rfl) rfl rfl ?_
 rintro _ _ ⟨b4, rfl, rfl⟩
 refine SL.val (Val.assign rfl) rfl rfl ?_
 refine SL.nil (SE.seq ?_)
 refine SC.seq ?_
 refine SC.seq (SC.region ?_)
 refine SL.val (Val.move rfl) rfl rfl ?_
 refine SL.val (Val.nilCheck rfl) rfl rfl ?_
 refine SL.val (Val.fieldAddr tabOk rfl rfl rfl rfl rfl) rfl rfl ?_
 refine SL.val (Val.to (C := .v r) (Val.load1 tabOk rfl rfl (by repeat first|assumption|exact o0_|exact o1_|apply o2_) List.not_mem_nil (by rfl)) rfl) rfl rfl ?_
 refine SL.val (Val.lenOwnR (m := L.length) rfl (.inr (by repeat first|assumption|exact m0_|apply m1_)) Try.underlying27 (List.length_map _)) rfl rfl ?_
 refine SL.val (Val.move rfl) rfl rfl ?_
 refine SL.nil (SE.seq ?_)
 refine SC.block ?_
 refine SC.loop (ι := Nat) (fun z => [.blk b4 41 [int 0, int 0, int 0, int 0, int 0, int 0, .v (.slice none 0 0)], .rd br 29 [.v r], .rdpc (ownPc 41 7 r (L.map Gl.abs))]) (fun z => [(1, int k), (4, ptr b4), (11, .v r), (12, int (L.length : Nat)), (13, int (z : Nat))]) (fun z => z ≤ L.length ∧ ∀ j (hj : j < L.length), j < z → L[j].who ≠ k) (fun z => L.length - z) (0) (⟨Nat.zero_le _, fun j h1 h => by omega⟩) (by exact ⟨rfl, rfl, rfl, rfl, rfl, trivial⟩) (by repeat first|exact s0_ _|exact s1_ _|apply s2_|apply s3_) ?_
 intro z hz
 refine SC.seq (SC.region ?_)
 refine SL.val (Val.ltI rfl rfl) rfl rfl ?_
 refine SL.nil (SE.seq ?_)
 refine SC.seq ?_
 refine SC.condP rfl ?_ ?_
 rotate_left
 ·intro hc14
  refine SC.exit ?_
  refine SE.then_ nofun ?_
  refine SE.then_ nofun ?_
  refine SE.exit ?_
  refine SE.seq ?_
  refine SC.seq (SC.region ?_)
  refine SL.val (Val.buildS (L := [int 0, int 0, int 0, int 0, int 0, int 0, .v (.slice none 0 0)]) tabOk rfl rfl rfl (by rfl)) rfl rfl ?_
  refine SL.eff (Eff.store (L' := [int 0, int 0, int 0, int 0, int 0, int 0, .v (.slice none 0 0)]) tabOk rfl rfl rfl (by repeat first|assumption|exact Upd.here|apply Upd.there) rfl (lb_ (by rfl)) rfl (by exact putL_whole rfl)) rfl rfl ?_
  rintro _ _ ⟨rfl, rfl⟩
  refine SL.val (Val.assign rfl) rfl rfl ?_
  refine SL.nil (SE.seq ?_)
  refine SC.ret ?_
  refine SE.finC (rs := [.cell 4 41, .tmp 5]) rfl (RV.cell rfl (RV.cellA tabOk rfl rfl (by repeat first|assumption|exact o0_|exact o1_|apply o2_) (by rfl)) (RV.tmp rfl RV.nil)) (Casts.cons (cast_agg (Casts.keep (Casts.keep (Casts.keep (Casts.keep (Casts.keep (Casts.keep (Casts.nils (s := 3) Casts.refl))))))))  Casts.refl) (()) (by repeat first|exact s0_ _|exact s1_ _|apply s2_|apply s3_) (by simp [It.rids]) ?_
  rw [lastF_not fun j h1 h2 => hz.2 j h1 (by omega)]
  rfl
 intro hc14
 have hlt : z < L.length := by omega
 refine SC.skip ?_
 refine SE.seq ?_
 refine SC.seq ?_
 refine SC.block ?_
 refine SC.seq (SC.region ?_)
 refine SL.val (Val.indexOwn (q := z) tabOk Try.underlying27 rfl rfl (.inr (by repeat first|assumption|exact m0_|apply m1_)) rfl rfl (by rw [List.length_map]; exact hlt) rfl rfl) rfl rfl ?_
 refine SL.val (Val.loadOwnA tabOk rfl rfl rfl (.inr (by repeat first|assumption|exact m0_|apply m1_)) rfl (at_map hlt) rfl) rfl rfl ?_
 refine SL.eff (Eff.alloc tabOk rfl) rfl rfl ?_
 rintro _ _ ⟨b7, rfl, rfl⟩
 refine SL.eff (Eff.store (L' := (L[z]'hlt).abs) tabOk rfl rfl rfl (by repeat first|assumption|exact Upd.here|apply Upd.there) rfl (lb_ (by rfl)) rfl (by exact putL_whole rfl)) rfl rfl ?_
 rintro _ _ ⟨rfl, rfl⟩
 refine SL.nil (SE.seq ?_)
 refine SC.seq (SC.region ?_)
 refine SL.val (Val.fieldAddr tabOk rfl rfl rfl rfl rfl) rfl rfl ?_
 refine SL.val (Val.to (C := int (L[z]'hlt).who) (Val.load1 tabOk rfl rfl (by repeat first|assumption|exact o0_|exact o1_|apply o2_) List.not_mem_nil (by rfl)) rfl) rfl rfl ?_
 refine SL.val (Val.move rfl) rfl rfl ?_
 refine SL.val (Val.eqI rfl rfl) rfl rfl ?_
 refine SL.nil (SE.seq ?_)
 refine SC.condP rfl ?_ ?_
 rotate_left
 ·intro hc20
  refine SC.skip ?_
  refine SE.inBlock ?_
  refine SE.seq ?_
  refine SC.region ?_
  first
   | refine SL.val (Val.addI rfl rfl (by simp only [InR, lo, hi]; omega)) rfl rfl ?_
   | refine SL.val (Val.addW rfl rfl) rfl rfl ?_
  refine SL.val (Val.move rfl) rfl rfl ?_
  refine SL.nil ?_
  refine SE.round (z + 1) (by first | omega | (dsimp only; omega)) (⟨by omega, fun j h1 h2 => by rcases Nat.lt_or_ge j z with h4 | h4; exact hz.2 j h1 h4; obtain rfl : j = z := (by omega); exact hc20⟩) (by exact ⟨rfl, rfl, rfl, rfl, rfl, trivial⟩) (by repeat first|exact s0_ _|exact s1_ _|apply s2_|apply s3_)
 intro hc20
 refine SC.seq (SC.region ?_)
 refine SL.val (Val.to (C := glA (L[z]'hlt)) (Val.loadP tabOk rfl rfl rfl (by repeat first|assumption|exact o0_|exact o1_|apply o2_) List.not_mem_nil (lb_ (by rfl))) rfl) rfl rfl ?_
 refine SL.eff (Eff.store (L' := (L[z]'hlt).abs) tabOk rfl rfl rfl (by repeat first|assumption|exact Upd.here|apply Upd.there) rfl (lb_ (by rfl)) rfl (by exact putL_whole rfl)) rfl rfl ?_
 rintro _ _ ⟨rfl, rfl⟩
 refine SL.val (Val.assign rfl) rfl rfl ?_
 refine SL.nil (SE.seq ?_)
 refine SC.ret ?_
 refine SE.ret ?_
 refine SE.then_ nofun ?_
 refine SE.then_ nofun ?_
 refine SE.ret ?_
 refine SE.then_ nofun ?_
 refine SE.fin (rs := [.cell 4 41, .tmp 5]) rfl (RV.cell rfl (RV.cellA tabOk rfl rfl (by repeat first|assumption|exact o0_|exact o1_|apply o2_) (by rfl)) (RV.tmp rfl RV.nil)) (()) (by repeat first|exact s0_ _|exact s1_ _|apply s2_|apply s3_) (by simp [It.rids]) ?_
 rw [lastF_at hlt hz.2 hc20]
 rfl
set_option maxHeartbeats 1000000 in
theorem rtwice_s  : Spec Try.prog 20 [glsA l] [] (fun _ : Unit => []) (fun _ => boo (twiceF l)) := by
 refine spec_of Try.func20 rfl Try.ntmps20 rfl fun G w => ?_
 refine SC.seq (SC.region ?_)
 refine SL.val (Val.assign rfl) rfl rfl ?_
 refine SL.nil (SE.seq ?_)
 refine SC.seq ?_
 refine SC.seq (SC.region ?_)
 refine SL.val (Val.move rfl) rfl rfl ?_
 first
  | refine SL.val (Val.lenSl rfl Try.underlying27 (List.length_map _)) rfl rfl ?_
  | refine SL.val (Val.lenOwn rfl (by repeat first|assumption|exact m0_|apply m1_) Try.underlying27 (List.length_map _)) rfl rfl ?_
  | refine SL.val (Val.lenNil rfl Try.underlying27) rfl rfl ?_
 refine SL.val (Val.move rfl) rfl rfl ?_
 refine SL.nil (SE.seq ?_)
 refine SC.block ?_
 refine SC.rowLe (i := 7) rfl fun hrow => ?_
 rw [List.length_map] at hrow
 unfold maxLen at hrow
 refine SC.loop (ι := Nat) (fun z => []) (fun z => [(0, glsA l), (7, glsA l), (8, int (l.length : Nat)), (9, int (z : Nat))]) (fun z => z ≤ l.length ∧ ((l.take z).map (·.who)).Nodup) (fun z => l.length - z) (0) (⟨Nat.zero_le _, List.nodup_nil⟩) (by exact ⟨rfl, rfl, rfl, rfl, trivial⟩) (by repeat first|exact s0_ _|exact s1_ _|apply s2_|apply s3_) ?_
 intro z hz
 refine SC.seq (SC.region ?_)
 refine SL.val (Val.ltI rfl rfl) rfl rfl ?_
 refine SL.nil (SE.seq ?_)
 refine SC.seq ?_
 refine SC.condP rfl ?_ ?_
 rotate_left
 ·intro hc10
  have hta : l.take z = l := List.take_of_length_le (by omega)
  have hnd := hz.2
  rw [hta] at hnd
  refine SC.exit ?_
  refine SE.then_ nofun ?_
  refine SE.then_ nofun ?_
  refine SE.exit ?_
  refine SE.seq ?_
  refine SC.seq (SC.region ?_)
  refine SL.val (Val.assign rfl) rfl rfl ?_
  refine SL.nil (SE.seq ?_)
  refine SC.ret ?_
  refine SE.fin (rs := [.tmp 2]) rfl (RV.tmp rfl RV.nil) (()) (by repeat first|exact s0_ _|exact s1_ _|apply s2_|apply s3_) (by simp [It.rids]) ?_
  rw [twice_no hnd]
  rfl
 intro hc10
 have hlt : z < l.length := by omega
 refine SC.skip ?_
 refine SE.seq ?_
 refine SC.seq ?_
 refine SC.block ?_
 refine SC.seq (SC.region ?_)
 refine SL.val (Val.move rfl) rfl rfl ?_
 refine SL.val (Val.indexSl tabOk Try.underlying27 rfl rfl rfl rfl (at_map (by omega)) rfl rfl) rfl rfl ?_
 refine SL.val (Val.loadAR tabOk rfl rfl rfl (by rfl)) rfl rfl ?_
 refine SL.eff (Eff.alloc tabOk rfl) rfl rfl ?_
 rintro _ _ ⟨b4, rfl, rfl⟩
 refine SL.val (Val.assign rfl) rfl rfl ?_
 refine SL.eff (Eff.store (L' := (l[z]'hlt).abs) tabOk rfl rfl rfl (by repeat first|assumption|exact Upd.here|apply Upd.there) rfl (lb_ (by rfl)) rfl (by exact putL_whole rfl)) rfl rfl ?_
 rintro _ _ ⟨rfl, rfl⟩
 refine SL.nil (SE.seq ?_)
 refine SC.seq (SC.region ?_)
 iterate 2 refine SL.val (Val.move rfl) rfl rfl ?_
 refine SL.val (Val.to (C := glsA (l.take z)) (Val.sliceHi (q := z) tabOk Try.underlying27 rfl rfl rfl rfl rfl (by rw [List.length_map]; omega)) (congrArg (Abs.sl 7) List.map_take.symm)) rfl rfl ?_
 refine SL.val (Val.lenSl (m := z) rfl Try.underlying27 (by rw [List.length_map, List.length_take]; omega)) rfl rfl ?_
 refine SL.val (Val.move rfl) rfl rfl ?_
 refine SL.nil (SE.seq ?_)
 refine SC.block ?_
 refine SC.loop (ι := Nat) (fun y => [.blk b4 41 (l[z]'hlt).abs]) (fun y => [(0, glsA l), (4, ptr b4), (7, glsA l), (8, int (l.length : Nat)), (9, int (z : Nat)), (16, glsA (l.take z)), (17, int (z : Nat)), (18, int (y : Nat))]) (fun y => y ≤ z ∧ ∀ j (hj : j < l.length), j < y → (l[z]'hlt).who ≠ l[j].who) (fun y => z - y) (0) (⟨Nat.zero_le _, fun j h1 h => by omega⟩) (by exact ⟨rfl, rfl, rfl, rfl, rfl, rfl, rfl, rfl, trivial⟩) (by repeat first|exact s0_ _|exact s1_ _|apply s2_|apply s3_) ?_
 intro y hy
 refine SC.seq (SC.region ?_)
 refine SL.val (Val.ltI rfl rfl) rfl rfl ?_
 refine SL.nil (SE.seq ?_)
 refine SC.seq ?_
 refine SC.condP rfl ?_ ?_
 rotate_left
 ·intro hc19
  refine SC.exit ?_
  refine SE.then_ nofun ?_
  refine SE.then_ nofun ?_
  refine SE.exit ?_
  refine SE.inBlock ?_
  refine SE.seq ?_
  refine SC.region ?_
  first
   | refine SL.val (Val.addI rfl rfl (by simp only [InR, lo, hi]; omega)) rfl rfl ?_
   | refine SL.val (Val.addW rfl rfl) rfl rfl ?_
  refine SL.val (Val.move rfl) rfl rfl ?_
  refine SL.nil ?_
  refine SE.round (z + 1) (by first | omega | (dsimp only; omega)) (⟨by omega, whos_step hlt hz.2 fun j h1 h2 => hy.2 j h1 (by omega)⟩) (by exact ⟨rfl, rfl, rfl, rfl, trivial⟩) (by repeat first|exact s0_ _|exact s1_ _|apply s2_|apply s3_)
 intro hc19
 have hyz : y < z := by omega
 have hly : y < l.length := by omega
 refine SC.skip ?_
 refine SE.seq ?_
 refine SC.seq ?_
 refine SC.block ?_
 refine SC.seq (SC.region ?_)
 refine SL.val (Val.indexSl (q := y) (cs := (l[y]'hly).abs) tabOk Try.underlying27 rfl rfl rfl rfl (by rw [List.getElem?_map, List.getElem?_take, if_pos hyz, List.getElem?_eq_getElem hly]; rfl) rfl rfl) rfl rfl ?_
 refine SL.val (Val.loadAR tabOk rfl rfl rfl (by rfl)) rfl rfl ?_
 refine SL.eff (Eff.alloc tabOk rfl) rfl rfl ?_
 rintro _ _ ⟨b6, rfl, rfl⟩
 refine SL.eff (Eff.store (L' := (l[y]'hly).abs) tabOk rfl rfl rfl (by repeat first|assumption|exact Upd.here|apply Upd.there) rfl (lb_ (by rfl)) rfl (by exact putL_whole rfl)) rfl rfl ?_
 rintro _ _ ⟨rfl, rfl⟩
 refine SL.nil (SE.seq ?_)
 refine SC.seq (SC.region ?_)
 refine SL.val (Val.fieldAddr tabOk rfl rfl rfl rfl rfl) rfl rfl ?_
 refine SL.val (Val.to (C := int (l[z]'hlt).who) (Val.load1 tabOk rfl rfl (by repeat first|assumption|exact o0_|exact o1_|apply o2_) List.not_mem_nil (by rfl)) rfl) rfl rfl ?_
 refine SL.val (Val.fieldAddr tabOk rfl rfl rfl rfl rfl) rfl rfl ?_
 refine SL.val (Val.to (C := int (l[y]'hly).who) (Val.load1 tabOk rfl rfl (by repeat first|assumption|exact o0_|exact o1_|apply o2_) List.not_mem_nil (by rfl)) rfl) rfl rfl ?_
 refine SL.val (Val.eqI rfl rfl) rfl rfl ?_
 refine SL.nil (SE.seq ?_)
 refine SC.condP rfl ?_ ?_
 rotate_left
 ·intro hc26
  refine SC.skip ?_
  refine SE.inBlock ?_
  refine SE.seq ?_
  refine SC.region ?_
  first
   | refine SL.val (Val.addI rfl rfl (by simp only [InR, lo, hi]; omega)) rfl rfl ?_
   | refine SL.val (Val.addW rfl rfl) rfl rfl ?_
  refine SL.val (Val.move rfl) rfl rfl ?_
  refine SL.nil ?_
  refine SE.round (y + 1) (by first | omega | (dsimp only; omega)) (⟨by omega, fun j h1 h2 => by rcases Nat.lt_or_ge j y with h4 | h4; exact hy.2 j h1 h4; obtain rfl : j = y := (by omega); exact hc26⟩) (by exact ⟨rfl, rfl, rfl, rfl, rfl, rfl, rfl, rfl, trivial⟩) (by repeat first|exact s0_ _|exact s1_ _|apply s2_|apply s3_)
 intro hc26
 refine SC.seq (SC.region ?_)
 refine SL.val (Val.assign rfl) rfl rfl ?_
 refine SL.nil (SE.seq ?_)
 refine SC.ret ?_
 refine SE.ret ?_
 refine SE.then_ nofun ?_
 refine SE.then_ nofun ?_
 refine SE.ret ?_
 refine SE.ret ?_
 refine SE.then_ nofun ?_
 refine SE.then_ nofun ?_
 refine SE.ret ?_
 refine SE.then_ nofun ?_
 refine SE.fin (rs := [.tmp 2]) rfl (RV.tmp rfl RV.nil) (()) (by repeat first|exact s0_ _|exact s1_ _|apply s2_|apply s3_) (by simp [It.rids]) ?_
 rw [twice_at hlt hyz hc26]
 rfl
theorem rwback_s (hL : L.length ≤ 100000) : Spec Try.prog 21 [ptr br, glA g] [.rd br 29 [.v r], .rdpc (ownPc 41 7 r (L.map Gl.abs))] (fun _ : Unit => []) (fun _ => boo (backO (lastF L g.who) g)) := by
 refine spec_of Try.func21 rfl Try.ntmps21 rfl fun G w => ?_
 refine SC.seq (SC.region ?_)
 refine SL.eff (Eff.boxA (cs := g.abs) rfl) rfl rfl ?_
 rintro _ _ ⟨b3, rfl, rfl⟩
 refine SL.val (Val.assign rfl) rfl rfl ?_
 refine SL.nil (SE.seq ?_)
 refine SC.seq (SC.region ?_)
 refine SL.val (Val.move rfl) rfl rfl ?_
 refine SL.val (Val.fieldAddr tabOk rfl rfl rfl rfl rfl) rfl rfl ?_
 refine SL.val (Val.to (C := int g.who) (Val.load1 tabOk rfl rfl (by repeat first|assumption|exact o0_|exact o1_|apply o2_) List.not_mem_nil (by rfl)) rfl) rfl rfl ?_
 refine SL.call (rlastg_s (L := L) (br := br) (r := r) (k := g.who) hL) Casts.refl (by kernel_rfl) rfl rfl rfl ?_
 refine ap_ ?_
 intro _
 refine SL.val (Val.move rfl) rfl rfl ?_
 refine SL.val (Val.extract rfl rfl) rfl rfl ?_
 refine SL.val (Val.extract rfl rfl) rfl rfl ?_
 refine SL.eff (Eff.alloc tabOk rfl) rfl rfl ?_
 rintro _ _ ⟨b5, rfl, rfl⟩
 refine SL.eff (Eff.store (L' := ((lastF L g.who).getD Gl.zero).abs) tabOk rfl rfl rfl (by repeat first|assumption|exact Upd.here|apply Upd.there) rfl (lb_ (by rfl)) rfl (by exact putL_whole rfl)) rfl rfl ?_
 rintro _ _ ⟨rfl, rfl⟩
 refine SL.val (Val.assign rfl) rfl rfl ?_
 refine SL.nil (SE.seq ?_)
 refine SC.seq (SC.region ?_)
 iterate 2 refine SL.val (Val.move rfl) rfl rfl ?_
 refine SL.both (t := 15) rfl ?_ ?_
 rotate_left
 ·intro hc15
  iterate 26 refine SL.skip rfl rfl ?_
  refine SL.val (Val.pickF rfl rfl) rfl rfl ?_
  refine SL.val (Val.assign rfl) rfl rfl ?_
  refine SL.nil (SE.seq ?_)
  refine SC.ret ?_
  refine SE.fin (rs := [.tmp 4]) rfl (RV.tmp rfl RV.nil) (()) (by repeat first|exact s0_ _|exact s1_ _|apply s2_|apply s3_) (by simp [It.rids]) ?_
  refine congrArg (fun b => Abs.v (Value.bool b)) ?_
  cases hO : lastF L g.who with
  | none => simp_all [backO]
  | some v =>
   first
    | (simp_all [backO, lowB]; done)
    | (simp only [hO, Option.getD_some, backO, lowB] at *; grind)
 intro hc15
 refine SL.val (Val.fieldAddr tabOk rfl rfl rfl rfl rfl) rfl rfl ?_
 refine SL.val (Val.to (C := int g.view) (Val.load1 tabOk rfl rfl (by repeat first|assumption|exact o0_|exact o1_|apply o2_) List.not_mem_nil (by rfl)) rfl) rfl rfl ?_
 refine SL.val (Val.fieldAddr tabOk rfl rfl rfl rfl rfl) rfl rfl ?_
 refine SL.val (Val.to (C := int ((lastF L g.who).getD Gl.zero).view) (Val.load1 tabOk rfl rfl (by repeat first|assumption|exact o0_|exact o1_|apply o2_) List.not_mem_nil (by rfl)) rfl) rfl rfl ?_
 refine SL.val (Val.ltI rfl rfl) rfl rfl ?_
 refine SL.val (Val.move rfl) rfl rfl ?_
 refine SL.bothP (t := 21) rfl ?_ ?_
 ·intro hc21
  iterate 5 refine SL.skip rfl rfl ?_
  refine SL.val (Val.pickT rfl rfl) rfl rfl ?_
  refine SL.val (Val.move rfl) rfl rfl ?_
  iterate 5 refine SL.skip rfl rfl ?_
  refine SL.val (Val.pickT rfl rfl) rfl rfl ?_
  refine SL.val (Val.move rfl) rfl rfl ?_
  iterate 5 refine SL.skip rfl rfl ?_
  refine SL.val (Val.pickT rfl rfl) rfl rfl ?_
  refine SL.val (Val.pickT rfl rfl) rfl rfl ?_
  refine SL.val (Val.assign rfl) rfl rfl ?_
  refine SL.nil (SE.seq ?_)
  refine SC.ret ?_
  refine SE.fin (rs := [.tmp 4]) rfl (RV.tmp rfl RV.nil) (()) (by repeat first|exact s0_ _|exact s1_ _|apply s2_|apply s3_) (by simp [It.rids]) ?_
  refine congrArg (fun b => Abs.v (Value.bool b)) ?_
  cases hO : lastF L g.who with
  | none => simp_all [backO]
  | some v =>
   first
    | (simp_all [backO, lowB]; done)
    | (simp only [hO, Option.getD_some, backO, lowB] at *; grind)
 intro hc21
 refine SL.val (Val.fieldAddr tabOk rfl rfl rfl rfl rfl) rfl rfl ?_
 refine SL.val (Val.to (C := int g.low) (Val.load1 tabOk rfl rfl (by repeat first|assumption|exact o0_|exact o1_|apply o2_) List.not_mem_nil (by rfl)) rfl) rfl rfl ?_
 refine SL.val (Val.fieldAddr tabOk rfl rfl rfl rfl rfl) rfl rfl ?_
 refine SL.val (Val.to (C := int ((lastF L g.who).getD Gl.zero).low) (Val.load1 tabOk rfl rfl (by repeat first|assumption|exact o0_|exact o1_|apply o2_) List.not_mem_nil (by rfl)) rfl) rfl rfl ?_
 refine SL.val (Val.ltI rfl rfl) rfl rfl ?_
 refine SL.val (Val.pickF rfl rfl) rfl rfl ?_
 refine SL.val (Val.move rfl) rfl rfl ?_
 refine SL.bothP (t := 28) rfl ?_ ?_
 ·intro hc28
  iterate 5 refine SL.skip rfl rfl ?_
  refine SL.val (Val.pickT rfl rfl) rfl rfl ?_
  refine SL.val (Val.move rfl) rfl rfl ?_
  iterate 5 refine SL.skip rfl rfl ?_
  refine SL.val (Val.pickT rfl rfl) rfl rfl ?_
  refine SL.val (Val.pickT rfl rfl) rfl rfl ?_
  refine SL.val (Val.assign rfl) rfl rfl ?_
  refine SL.nil (SE.seq ?_)
  refine SC.ret ?_
  refine SE.fin (rs := [.tmp 4]) rfl (RV.tmp rfl RV.nil) (()) (by repeat first|exact s0_ _|exact s1_ _|apply s2_|apply s3_) (by simp [It.rids]) ?_
  refine congrArg (fun b => Abs.v (Value.bool b)) ?_
  cases hO : lastF L g.who with
  | none => simp_all [backO]
  | some v =>
   first
    | (simp_all [backO, lowB]; done)
    | (simp only [hO, Option.getD_some, backO, lowB] at *; grind)
 intro hc28
 refine SL.val (Val.fieldAddr tabOk rfl rfl rfl rfl rfl) rfl rfl ?_
 refine SL.val (Val.to (C := int g.cur) (Val.load1 tabOk rfl rfl (by repeat first|assumption|exact o0_|exact o1_|apply o2_) List.not_mem_nil (by rfl)) rfl) rfl rfl ?_
 refine SL.val (Val.fieldAddr tabOk rfl rfl rfl rfl rfl) rfl rfl ?_
 refine SL.val (Val.to (C := int ((lastF L g.who).getD Gl.zero).cur) (Val.load1 tabOk rfl rfl (by repeat first|assumption|exact o0_|exact o1_|apply o2_) List.not_mem_nil (by rfl)) rfl) rfl rfl ?_
 refine SL.val (Val.ltI rfl rfl) rfl rfl ?_
 refine SL.val (Val.pickF rfl rfl) rfl rfl ?_
 refine SL.val (Val.move rfl) rfl rfl ?_
 refine SL.bothP (t := 35) rfl ?_ ?_
 ·intro hc35
  iterate 5 refine SL.skip rfl rfl ?_
  refine SL.val (Val.pickT rfl rfl) rfl rfl ?_
  refine SL.val (Val.pickT rfl rfl) rfl rfl ?_
  refine SL.val (Val.assign rfl) rfl rfl ?_
  refine SL.nil (SE.seq ?_)
  refine SC.ret ?_
  refine SE.fin (rs := [.tmp 4]) rfl (RV.tmp rfl RV.nil) (()) (by repeat first|exact s0_ _|exact s1_ _|apply s2_|apply s3_) (by simp [It.rids]) ?_
  refine congrArg (fun b => Abs.v (Value.bool b)) ?_
  cases hO : lastF L g.who with
  | none => simp_all [backO]
  | some v =>
   first
    | (simp_all [backO, lowB]; done)
    | (simp only [hO, Option.getD_some, backO, lowB] at *; grind)
 intro hc35
 refine SL.val (Val.fieldAddr tabOk rfl rfl rfl rfl rfl) rfl rfl ?_
 refine SL.val (Val.to (C := int g.drops) (Val.load1 tabOk rfl rfl (by repeat first|assumption|exact o0_|exact o1_|apply o2_) List.not_mem_nil (by rfl)) rfl) rfl rfl ?_
 refine SL.val (Val.fieldAddr tabOk rfl rfl rfl rfl rfl) rfl rfl ?_
 refine SL.val (Val.to (C := int ((lastF L g.who).getD Gl.zero).drops) (Val.load1 tabOk rfl rfl (by repeat first|assumption|exact o0_|exact o1_|apply o2_) List.not_mem_nil (by rfl)) rfl) rfl rfl ?_
 refine SL.val (Val.ltI rfl rfl) rfl rfl ?_
 refine SL.val (Val.pickF rfl rfl) rfl rfl ?_
 refine SL.val (Val.pickT rfl rfl) rfl rfl ?_
 refine SL.val (Val.assign rfl) rfl rfl ?_
 refine SL.nil (SE.seq ?_)
 refine SC.ret ?_
 refine SE.fin (rs := [.tmp 4]) rfl (RV.tmp rfl RV.nil) (()) (by repeat first|exact s0_ _|exact s1_ _|apply s2_|apply s3_) (by simp [It.rids]) ?_
 refine congrArg (fun b => Abs.v (Value.bool b)) ?_
 cases hO : lastF L g.who with
 | none => simp_all [backO]
 | some v =>
  first
   | (simp_all [backO, lowB]; done)
   | (simp only [hO, Option.getD_some, backO, lowB] at *; grind)
set_option maxHeartbeats 1000000 in
theorem rwother_s (hgi : GlIns g) (hL : L.length ≤ 100000) (hw : ∀ d ∈ ((lastF L g.who).getD Gl.zero).deeds, DdIns d ∧ d.batch.length ≤ 1000) : Spec Try.prog 22 [ptr br, glA g] [.rd br 29 [.v r], .rdpc (ownPc 41 7 r (L.map Gl.abs))] (fun _ : Unit => []) (fun _ => boo (otherO (lastF L g.who) g)) := by
 refine spec_of Try.func22 rfl Try.ntmps22 rfl fun G w => ?_
 refine SC.seq (SC.region ?_)
 refine SL.eff (Eff.boxA (cs := g.abs) rfl) rfl rfl ?_
 rintro _ _ ⟨b3, rfl, rfl⟩
 refine SL.val (Val.assign rfl) rfl rfl ?_
 refine SL.nil (SE.seq ?_)
 refine SC.seq (SC.region ?_)
 refine SL.val (Val.move rfl) rfl rfl ?_
 refine SL.val (Val.fieldAddr tabOk rfl rfl rfl rfl rfl) rfl rfl ?_
 refine SL.val (Val.to (C := int g.who) (Val.load1 tabOk rfl rfl (by repeat first|assumption|exact o0_|exact o1_|apply o2_) List.not_mem_nil (by rfl)) rfl) rfl rfl ?_
 refine SL.call (rlastg_s (L := L) (br := br) (r := r) (k := g.who) hL) Casts.refl (by kernel_rfl) rfl rfl rfl ?_
 refine ap_ ?_
 intro _
 refine SL.val (Val.move rfl) rfl rfl ?_
 refine SL.val (Val.extract rfl rfl) rfl rfl ?_
 refine SL.val (Val.extract rfl rfl) rfl rfl ?_
 refine SL.eff (Eff.alloc tabOk rfl) rfl rfl ?_
 rintro _ _ ⟨b5, rfl, rfl⟩
 refine SL.eff (Eff.store (L' := ((lastF L g.who).getD Gl.zero).abs) tabOk rfl rfl rfl (by repeat first|assumption|exact Upd.here|apply Upd.there) rfl (lb_ (by rfl)) rfl (by exact putL_whole rfl)) rfl rfl ?_
 rintro _ _ ⟨rfl, rfl⟩
 refine SL.val (Val.assign rfl) rfl rfl ?_
 refine SL.nil (SE.seq ?_)
 refine SC.seq ?_
 refine SC.draw [] (.q 0 (.q 1 (.q 2 (.q 3 (.q 4 (.q 5 (.q 6 (.q 7 (.q 8 (.q 9 (.q 10 (.q 11 (.q 12 (.q 13 (.q 14 (.q 15 (.q 16 (.q 17 (.e 18 (.q 19 (.q 20 (.q 21 (.q 22 .nil))))))))))))))))))))))) (by kernel_rfl) (by kernel_rfl) ?_
 refine SX.val rfl (Val.move rfl) (by simp) rfl rfl ?_
 refine SX.val rfl (Val.move rfl) (by simp) rfl rfl ?_
 refine SX.both (t := 15) rfl ?_ ?_
 rotate_left
 ·intro hc15
  iterate 16 refine SX.skip rfl rfl rfl ?_
  refine SX.skip' rfl rfl rfl ?_
  iterate 2 refine SX.skip rfl rfl rfl ?_
  refine SX.val rfl (Val.pickF rfl rfl) (by simp) rfl rfl ?_
  refine SX.val rfl (Val.assign rfl) (by simp) rfl rfl ?_
  refine SX.nil (SE.seq ?_)
  refine SC.ret ?_
  refine SE.fin (rs := [.tmp 4]) rfl (RV.tmp rfl RV.nil) (()) (by repeat first|exact s0_ _|exact s1_ _|apply s2_|apply s3_) (by simp [It.rids]) ?_
  refine congrArg (fun b => Abs.v (Value.bool b)) ?_
  unfold otherO
  rw [other_eq]
  cases hO : lastF L g.who with
  | none => simp_all [Gl.zero]
  | some v =>
   first
    | (simp_all; done)
    | (simp only [hO, Option.getD_some] at *; grind)
 intro hc15
 refine SX.val rfl (Val.fieldAddr tabOk rfl rfl rfl rfl rfl) (by simp) rfl rfl ?_
 refine SX.hx (by first|(simp[mids,It.mids,ownPc];done)|(intro k hk;simp[mids,It.mids,ownPc] at hk ⊢;grind)) fun hx9 => ?_
 refine SX.val rfl (Val.to (C := ddsA ((lastF L g.who).getD Gl.zero).deeds) (Val.load1 tabOk rfl rfl (by repeat first|assumption|exact o0_|exact o1_|apply o2_) List.not_mem_nil (by rfl)) rfl) hx9 rfl rfl ?_
 refine SX.val rfl (Val.lenSl (m := ((lastF L g.who).getD Gl.zero).deeds.length) rfl Try.underlying39 (List.length_map _)) hx9 rfl rfl ?_
 refine SX.val rfl (Val.fieldAddr tabOk rfl rfl rfl rfl rfl) (by simp) rfl rfl ?_
 refine SX.val rfl (Val.to (C := ddsA g.deeds) (Val.load1 tabOk rfl rfl (by repeat first|assumption|exact o0_|exact o1_|apply o2_) List.not_mem_nil (by rfl)) rfl) hx9 rfl rfl ?_
 refine SX.val rfl (Val.lenSl (m := g.deeds.length) rfl Try.underlying39 (List.length_map _)) hx9 rfl rfl ?_
 refine SX.val rfl (Val.gtI rfl rfl) (by simp) rfl rfl ?_
 refine SX.val rfl (Val.move rfl) (by simp) rfl rfl ?_
 refine SX.bothP (t := 23) rfl ?_ ?_
 ·intro hc23
  iterate 8 refine SX.skip rfl rfl rfl ?_
  refine SX.skip' rfl rfl rfl ?_
  refine SX.skip rfl rfl rfl ?_
  refine SX.val rfl (Val.pickT rfl rfl) (by simp) rfl rfl ?_
  refine SX.val rfl (Val.pickT rfl rfl) (by simp) rfl rfl ?_
  refine SX.val rfl (Val.assign rfl) (by simp) rfl rfl ?_
  refine SX.nil (SE.seq ?_)
  refine SC.ret ?_
  refine SE.fin (rs := [.tmp 4]) rfl (RV.tmp rfl RV.nil) (()) (by repeat first|exact s0_ _|exact s1_ _|apply s2_|apply s3_) (by simp [It.rids]) ?_
  refine congrArg (fun b => Abs.v (Value.bool b)) ?_
  unfold otherO
  rw [other_eq]
  cases hO : lastF L g.who with
  | none => simp_all [Gl.zero]
  | some v =>
   first
    | (simp_all; done)
    | (simp only [hO, Option.getD_some] at *; grind)
 intro hc23
 refine SX.val rfl (Val.fieldAddr tabOk rfl rfl rfl rfl rfl) (by simp) rfl rfl ?_
 refine SX.val rfl (Val.to (C := ddsA ((lastF L g.who).getD Gl.zero).deeds) (Val.load1 tabOk rfl rfl (by repeat first|assumption|exact o0_|exact o1_|apply o2_) List.not_mem_nil (by rfl)) rfl) hx9 rfl rfl ?_
 refine SX.val rfl (Val.fieldAddr tabOk rfl rfl rfl rfl rfl) (by simp) rfl rfl ?_
 refine SX.val rfl (Val.to (C := ddsA g.deeds) (Val.load1 tabOk rfl rfl (by repeat first|assumption|exact o0_|exact o1_|apply o2_) List.not_mem_nil (by rfl)) rfl) hx9 rfl rfl ?_
 refine SX.val rfl (Val.fieldAddr tabOk rfl rfl rfl rfl rfl) (by simp) rfl rfl ?_
 refine SX.val rfl (Val.to (C := ddsA ((lastF L g.who).getD Gl.zero).deeds) (Val.load1 tabOk rfl rfl (by repeat first|assumption|exact o0_|exact o1_|apply o2_) List.not_mem_nil (by rfl)) rfl) hx9 rfl rfl ?_
 refine SX.val rfl (Val.lenSl (m := ((lastF L g.who).getD Gl.zero).deeds.length) rfl Try.underlying39 (List.length_map _)) hx9 rfl rfl ?_
 refine SX.val rfl (Val.to (C := ddsA (g.deeds.take ((lastF L g.who).getD Gl.zero).deeds.length)) (Val.sliceHi (q := ((lastF L g.who).getD Gl.zero).deeds.length) tabOk Try.underlying39 rfl rfl rfl rfl rfl (by rw [List.length_map]; omega)) (congrArg (Abs.sl 3) List.map_take.symm)) hx9 rfl rfl ?_
 refine SX.call rfl (rsame29_s (a := ((lastF L g.who).getD Gl.zero).deeds) (b := g.deeds.take ((lastF L g.who).getD Gl.zero).deeds.length) (fun d hd => (hw d hd).1) (fun d hd => hgi.deeds d (List.mem_of_mem_take hd)) (fun d hd => (hw d hd).2)) (by simp [mids, It.mids]) Casts.refl (by kernel_rfl) rfl rfl rfl ?_
 refine ap_ ?_
 intro _
 refine SX.val rfl (Val.notB rfl) (by simp) rfl rfl ?_
 refine SX.val rfl (Val.pickF rfl rfl) (by simp) rfl rfl ?_
 refine SX.val rfl (Val.pickT rfl rfl) (by simp) rfl rfl ?_
 refine SX.val rfl (Val.assign rfl) (by simp) rfl rfl ?_
 refine SX.nil (SE.seq ?_)
 refine SC.ret ?_
 refine SE.fin (rs := [.tmp 4]) rfl (RV.tmp rfl RV.nil) (()) (by repeat first|exact s0_ _|exact s1_ _|apply s2_|apply s3_) (by simp [It.rids]) ?_
 refine congrArg (fun b => Abs.v (Value.bool b)) ?_
 unfold otherO
 rw [other_eq]
 cases hO : lastF L g.who with
 | none => simp_all [Gl.zero]
 | some v =>
  first
   | (simp_all; done)
   | (simp only [hO, Option.getD_some] at *; grind)
theorem rwgap_s (hgi : GlIns g) : Spec Try.prog 23 [glA g] [] (fun _ : Unit => []) (fun _ => boo (gapF g)) := by
 refine spec_of Try.func23 rfl Try.ntmps23 rfl fun G w => ?_
 refine SC.seq (SC.region ?_)
 refine SL.eff (Eff.boxA (cs := g.abs) rfl) rfl rfl ?_
 rintro _ _ ⟨b1, rfl, rfl⟩
 refine SL.val (Val.assign rfl) rfl rfl ?_
 refine SL.nil (SE.seq ?_)
 refine SC.seq (SC.region ?_)
 refine SL.val (Val.assign rfl) rfl rfl ?_
 refine SL.nil (SE.seq ?_)
 refine SC.seq ?_
 refine SC.seq (SC.region ?_)
 refine SL.val (Val.fieldAddr tabOk rfl rfl rfl rfl rfl) rfl rfl ?_
 refine SL.val (Val.to (C := ddsA g.deeds) (Val.load1 tabOk rfl rfl (by repeat first|assumption|exact o0_|exact o1_|apply o2_) List.not_mem_nil (by rfl)) rfl) rfl rfl ?_
 refine SL.val (Val.lenSl (m := g.deeds.length) rfl Try.underlying39 (List.length_map _)) rfl rfl ?_
 refine SL.val (Val.move rfl) rfl rfl ?_
 refine SL.nil (SE.seq ?_)
 refine SC.block ?_
 refine SC.rowLe (i := 7) rfl fun hrow => ?_
 rw [List.length_map] at hrow
 unfold maxLen at hrow
 refine SC.loop (ι := Nat) (fun z => [.blk b1 41 g.abs]) (fun z => [(1, ptr b1), (3, int (lastSeq (g.deeds.take z))), (7, ddsA g.deeds), (8, int (g.deeds.length : Nat)), (9, int (z : Nat))]) (fun z => z ≤ g.deeds.length) (fun z => g.deeds.length - z) (0) (Nat.zero_le _) (by exact ⟨rfl, rfl, rfl, rfl, rfl, trivial⟩) (by repeat first|exact s0_ _|exact s1_ _|apply s2_|apply s3_) ?_
 intro z hz
 refine SC.seq (SC.region ?_)
 refine SL.val (Val.ltI rfl rfl) rfl rfl ?_
 refine SL.nil (SE.seq ?_)
 refine SC.seq ?_
 refine SC.condP rfl ?_ ?_
 ·intro hc10
  have hlt : z < g.deeds.length := by omega
  refine SC.skip ?_
  refine SE.seq ?_
  refine SC.seq ?_
  refine SC.block ?_
  refine SC.seq (SC.region ?_)
  refine SL.val (Val.indexSl tabOk Try.underlying39 rfl rfl rfl rfl (at_map (by omega)) rfl rfl) rfl rfl ?_
  refine SL.val (Val.loadAR tabOk rfl rfl rfl (by rfl)) rfl rfl ?_
  refine SL.eff (Eff.alloc tabOk rfl) rfl rfl ?_
  rintro _ _ ⟨b5, rfl, rfl⟩
  refine SL.eff (Eff.store (L' := (g.deeds[z]'hlt).abs) tabOk rfl rfl rfl (by repeat first|assumption|exact Upd.here|apply Upd.there) rfl (lb_ (by rfl)) rfl (by exact putL_whole rfl)) rfl rfl ?_
  rintro _ _ ⟨rfl, rfl⟩
  refine SL.nil (SE.seq ?_)
  refine SC.region ?_
  refine SL.val (Val.fieldAddr tabOk rfl rfl rfl rfl rfl) rfl rfl ?_
  refine SL.val (Val.to (C := int (g.deeds[z]'hlt).seq) (Val.load1 tabOk rfl rfl (by repeat first|assumption|exact o0_|exact o1_|apply o2_) List.not_mem_nil (by rfl)) rfl) rfl rfl ?_
  refine SL.val (Val.assign rfl) rfl rfl ?_
  refine SL.nil ?_
  refine SE.inBlock ?_
  refine SE.seq ?_
  refine SC.region ?_
  first
   | refine SL.val (Val.addI rfl rfl (by simp only [InR, lo, hi]; omega)) rfl rfl ?_
   | refine SL.val (Val.addW rfl rfl) rfl rfl ?_
  refine SL.val (Val.move rfl) rfl rfl ?_
  refine SL.nil ?_
  rw [← lastSeq_step hlt]
  refine SE.round (z + 1) (by first | omega | (dsimp only; omega)) ((by omega)) (by exact ⟨rfl, rfl, rfl, rfl, rfl, trivial⟩) (by repeat first|exact s0_ _|exact s1_ _|apply s2_|apply s3_)
 intro hc10
 have hta : g.deeds.take z = g.deeds := List.take_of_length_le (by omega)
 rw [hta]
 refine SC.exit ?_
 refine SE.then_ nofun ?_
 refine SE.then_ nofun ?_
 refine SE.exit ?_
 refine SE.seq ?_
 refine SC.seq (SC.region ?_)
 refine SL.val (Val.fieldAddr tabOk rfl rfl rfl rfl rfl) rfl rfl ?_
 refine SL.val (Val.to (C := ddsA g.deeds) (Val.load1 tabOk rfl rfl (by repeat first|assumption|exact o0_|exact o1_|apply o2_) List.not_mem_nil (by rfl)) rfl) rfl rfl ?_
 refine SL.call (rgap_s (l := g.deeds) hgi.deeds) Casts.refl (by kernel_rfl) rfl rfl rfl ?_
 refine ap_ ?_
 intro _
 refine SL.val (Val.notB rfl) rfl rfl ?_
 refine SL.val (Val.move rfl) rfl rfl ?_
 refine SL.both (t := 20) rfl ?_ ?_
 ·intro hc20
  iterate 4 refine SL.skip rfl rfl ?_
  refine SL.val (Val.pickT rfl rfl) rfl rfl ?_
  refine SL.val (Val.assign rfl) rfl rfl ?_
  refine SL.nil (SE.seq ?_)
  refine SC.ret ?_
  refine SE.fin (rs := [.tmp 2]) rfl (RV.tmp rfl RV.nil) (()) (by repeat first|exact s0_ _|exact s1_ _|apply s2_|apply s3_) (by simp [It.rids]) ?_
  refine congrArg (fun b => Abs.v (Value.bool b)) ?_
  unfold gapF
  first
   | (simp_all; done)
   | (cases gapB 0 g.deeds <;> simp_all)
 intro hc20
 refine SL.val (Val.move rfl) rfl rfl ?_
 refine SL.val (Val.fieldAddr tabOk rfl rfl rfl rfl rfl) rfl rfl ?_
 refine SL.val (Val.to (C := int g.cur) (Val.load1 tabOk rfl rfl (by repeat first|assumption|exact o0_|exact o1_|apply o2_) List.not_mem_nil (by rfl)) rfl) rfl rfl ?_
 refine SL.val (Val.neI rfl rfl) rfl rfl ?_
 refine SL.val (Val.pickF rfl rfl) rfl rfl ?_
 refine SL.val (Val.assign rfl) rfl rfl ?_
 refine SL.nil (SE.seq ?_)
 refine SC.ret ?_
 refine SE.fin (rs := [.tmp 2]) rfl (RV.tmp rfl RV.nil) (()) (by repeat first|exact s0_ _|exact s1_ _|apply s2_|apply s3_) (by simp [It.rids]) ?_
 refine congrArg (fun b => Abs.v (Value.bool b)) ?_
 unfold gapF
 first
  | (simp_all; done)
  | (cases gapB 0 g.deeds <;> simp_all)
end
end Go.Proofs.Ytiaeochlepkleaa.A
/-
  Watch: what is odd, the document's.
-/
namespace Go.Proofs.Ytiaeochlepkleaa.A
open Go.RowKit

section
variable {g : Gl} {l L : List Gl} {br : Nat} {r : Value} {k : Int} {p : Gl → Bool}
theorem any_not (h : ∀ j (hj : j < l.length), p l[j] = false) : l.any p = false := List.any_eq_false.2 fun x hx => by
  obtain ⟨j, hj, rfl⟩ := List.getElem_of_mem hx
  rw [h j hj]; decide
theorem any_at {z : Nat} (hz : z < l.length) (h : p l[z] = true) : l.any p = true := List.any_eq_true.2 ⟨_, List.getElem_mem hz, h⟩
theorem four_no {f : Nat → Bool} (h0 : f 0 = false) (h1 : f 1 = false) (h2 : f 2 = false) (h3 : f 3 = false) (j : Nat) (hj : j < 4) : f j = false := by
  obtain rfl | rfl | rfl | rfl : j = 0 ∨ j = 1 ∨ j = 2 ∨ j = 3 := by omega
  all_goals assumption
theorem marks_no (h1 : ¬ g.slots > 8) (h2 : ¬ g.low > g.cur) (h3 : ¬ g.low.tmod 4 ≠ 0) : marksF g = false := by
  unfold marksF
  rw [decide_eq_false h1, decide_eq_false h2, decide_eq_false h3]
  rfl
theorem twice_nd (h : twiceF l = false) : (l.map (·.who)).Nodup := by
  unfold twiceF at h
  exact Classical.not_not.1 (of_decide_eq_false h)
theorem lastF_hw (h : ∀ x ∈ L, GlOk x) (k : Int) : ∀ d ∈ ((lastF L k).getD Gl.zero).deeds, DdIns d ∧ d.batch.length ≤ 1000 := fun d hd => by
  cases hk : lastF L k with
  | none => rw [hk] at hd; exact (zero_deeds hd).elim
  | some x =>
    rw [hk] at hd
    have h2 := h x (lastF_some hk).1
    exact ⟨h2.ins.deeds d hd, Nat.le_trans (h2.bn d hd) (by decide)⟩
theorem allSame_at (h : ∀ i (h1 : i < l.length), ∀ j (h2 : j < l.length), sameD l[i].deeds l[j].deeds) : allSame (l.map (·.deeds)) := fun a ha b hb => by
  obtain ⟨x, hx, rfl⟩ := List.mem_map.1 ha
  obtain ⟨y, hy, rfl⟩ := List.mem_map.1 hb
  obtain ⟨i, hi9, rfl⟩ := List.getElem_of_mem hx
  obtain ⟨j, hj, rfl⟩ := List.getElem_of_mem hy
  exact h i hi9 j hj
theorem allSame_not {i j : Nat} (h1 : i < l.length) (h2 : j < l.length) (h : ¬ sameD l[i].deeds l[j].deeds) : ¬ allSame (l.map (·.deeds)) := fun h3 =>
  h (h3 _ (List.mem_map_of_mem (List.getElem_mem h1)) _ (List.mem_map_of_mem (List.getElem_mem h2)))
abbrev keepB (l : List Gl) (g : Gl) : Bool := l.all fun h => decide (h.who ≠ g.who)
theorem keep_step {z : Nat} (hz : z < l.length) (g : Gl) : keepB (l.take (z + 1)) g = (keepB (l.take z) g && decide (l[z].who ≠ g.who)) := by
  unfold keepB
  rw [List.take_succ_eq_append_getElem hz, List.all_append]
  simp
theorem filt_yes {z : Nat} (hz : z < L.length) (h : keepB l L[z] = true) : l ++ (L.take (z + 1)).filter (keepB l) = (l ++ (L.take z).filter (keepB l)) ++ [L[z]] := by
  rw [List.take_succ_eq_append_getElem hz, List.filter_append, List.filter_cons_of_pos h, List.append_assoc]
  rfl
theorem filt_no {z : Nat} (hz : z < L.length) (h : keepB l L[z] = false) : l ++ (L.take (z + 1)).filter (keepB l) = l ++ (L.take z).filter (keepB l) := by
  rw [List.take_succ_eq_append_getElem hz, List.filter_append, List.filter_cons_of_neg (by rw [h]; decide)]
  simp
set_option maxHeartbeats 2000000 in
theorem rodd_s (hl : ∀ x ∈ l, GlOk x) (hn : l.length ≤ 8) (hLg : ∀ x ∈ L, GlOk x) (hL : L.length ≤ 100000) : Spec Try.prog 13 [ptr br, glsA l] [.rd br 29 [.v r], .rdpc (ownPc 41 7 r (L.map Gl.abs))] (fun _ : Unit => []) (fun _ => int (oddF (lastF L) l)) := by
 refine spec_of Try.func13 rfl Try.ntmps13 rfl fun G w => ?_
 refine SC.seq (SC.region ?_)
 refine SL.val (Val.assign rfl) rfl rfl ?_
 refine SL.nil (SE.seq ?_)
 refine SC.seq ?_
 refine SC.seq (SC.region ?_)
 refine SL.val (Val.move rfl) rfl rfl ?_
 refine SL.call (rtwice_s (l := l)) Casts.refl (by kernel_rfl) rfl rfl rfl ?_
 refine ap_ ?_
 intro _
 refine SL.nil (SE.seq ?_)
 refine SC.cond rfl ?_ ?_
 ·intro hc18
  refine SC.seq (SC.region ?_)
  refine SL.val (Val.assign rfl) rfl rfl ?_
  refine SL.nil (SE.seq ?_)
  refine SC.ret ?_
  refine SE.then_ nofun ?_
  refine SE.fin (rs := [.tmp 4]) rfl (RV.tmp rfl RV.nil) (()) (by repeat first|exact s0_ _|exact s1_ _|apply s2_|apply s3_) (by simp [It.rids]) ?_
  rw [show oddF _ l = 15 from if_pos hc18]
  rfl
 intro hc18
 have hnd := twice_nd hc18
 refine SC.skip ?_
 refine SE.seq ?_
 refine SC.seq ?_
 refine SC.seq (SC.region ?_)
 refine SL.val (Val.move rfl) rfl rfl ?_
 first
  | refine SL.val (Val.lenSl rfl Try.underlying27 (List.length_map _)) rfl rfl ?_
  | refine SL.val (Val.lenOwn rfl (by repeat first|assumption|exact m0_|apply m1_) Try.underlying27 (List.length_map _)) rfl rfl ?_
  | refine SL.val (Val.lenNil rfl Try.underlying27) rfl rfl ?_
 refine SL.val (Val.move rfl) rfl rfl ?_
 refine SL.nil (SE.seq ?_)
 refine SC.block ?_
 refine SC.rowLe (i := 19) rfl fun hro0 => ?_
 rw [List.length_map] at hro0
 unfold maxLen at hro0
 refine SC.loop (ι := Nat) (fun z => [.rd br 29 [.v r], .rdpc (ownPc 41 7 r (L.map Gl.abs))]) (fun z => [(0, ptr br), (1, glsA l), (19, glsA l), (20, int (l.length : Nat)), (21, int (z : Nat))]) (fun z => z ≤ l.length ∧ ∀ j (hj : j < l.length), j < z → ruleB (lastF L) 0 l[j] = false) (fun z => l.length - z) (0) (⟨Nat.zero_le _, fun j h1 h => by omega⟩) (by exact ⟨rfl, rfl, rfl, rfl, rfl, trivial⟩) (by repeat first|exact s0_ _|exact s1_ _|apply s2_|apply s3_) ?_
 intro z hz
 refine SC.seq (SC.region ?_)
 refine SL.val (Val.ltI rfl rfl) rfl rfl ?_
 refine SL.nil (SE.seq ?_)
 refine SC.seq ?_
 refine SC.condP rfl ?_ ?_
 ·intro hc22
  have hlt : z < l.length := by omega
  have hgo := hl _ (List.getElem_mem hlt)
  refine SC.skip ?_
  refine SE.seq ?_
  refine SC.seq ?_
  refine SC.block ?_
  refine SC.seq (SC.region ?_)
  refine SL.val (Val.indexSl tabOk Try.underlying27 rfl rfl rfl rfl (at_map (by omega)) rfl rfl) rfl rfl ?_
  refine SL.val (Val.loadAR tabOk rfl rfl rfl (by rfl)) rfl rfl ?_
  refine SL.eff (Eff.alloc tabOk rfl) rfl rfl ?_
  rintro _ _ ⟨b6, rfl, rfl⟩
  refine SL.eff (Eff.store (L' := (l[z]'hlt).abs) tabOk rfl rfl rfl (by repeat first|assumption|exact Upd.here|apply Upd.there) rfl (lb_ (by rfl)) rfl (by exact putL_whole rfl)) rfl rfl ?_
  rintro _ _ ⟨rfl, rfl⟩
  refine SL.nil (SE.seq ?_)
  refine SC.seq (SC.region ?_)
  refine SL.val (Val.fieldAddr tabOk rfl rfl rfl rfl rfl) rfl rfl ?_
  refine SL.val (Val.to (C := int (l[z]'hlt).slots) (Val.load1 tabOk rfl rfl (by repeat first|assumption|exact o0_|exact o1_|apply o2_) List.not_mem_nil (by rfl)) rfl) rfl rfl ?_
  refine SL.val (Val.gtI rfl rfl) rfl rfl ?_
  refine SL.val (Val.move rfl) rfl rfl ?_
  refine SL.bothP (t := 28) rfl ?_ ?_
  ·intro hc28
   iterate 5 refine SL.skip rfl rfl ?_
   refine SL.val (Val.pickT rfl rfl) rfl rfl ?_
   refine SL.val (Val.move rfl) rfl rfl ?_
   iterate 4 refine SL.skip rfl rfl ?_
   refine SL.val (Val.pickT rfl rfl) rfl rfl ?_
   refine SL.nil (SE.seq ?_)
   refine SC.condT rfl ?_
   refine SC.seq (SC.region ?_)
   refine SL.val (Val.assign rfl) rfl rfl ?_
   refine SL.nil (SE.seq ?_)
   refine SC.ret ?_
   refine SE.ret ?_
   refine SE.then_ nofun ?_
   refine SE.then_ nofun ?_
   refine SE.ret ?_
   refine SE.then_ nofun ?_
   refine SE.fin (rs := [.tmp 4]) rfl (RV.tmp rfl RV.nil) (()) (by repeat first|exact s0_ _|exact s1_ _|apply s2_|apply s3_) (by simp [It.rids]) ?_
   rw [odd_rule hnd (q := 0) (by omega) (fun j hj => by
    exfalso; omega) (any_at hlt (show marksF _ = true by unfold marksF; simp_all))]
   rfl
  intro hc28
  refine SL.val (Val.fieldAddr tabOk rfl rfl rfl rfl rfl) rfl rfl ?_
  refine SL.val (Val.to (C := int (l[z]'hlt).low) (Val.load1 tabOk rfl rfl (by repeat first|assumption|exact o0_|exact o1_|apply o2_) List.not_mem_nil (by rfl)) rfl) rfl rfl ?_
  refine SL.val (Val.fieldAddr tabOk rfl rfl rfl rfl rfl) rfl rfl ?_
  refine SL.val (Val.to (C := int (l[z]'hlt).cur) (Val.load1 tabOk rfl rfl (by repeat first|assumption|exact o0_|exact o1_|apply o2_) List.not_mem_nil (by rfl)) rfl) rfl rfl ?_
  refine SL.val (Val.gtI rfl rfl) rfl rfl ?_
  refine SL.val (Val.pickF rfl rfl) rfl rfl ?_
  refine SL.val (Val.move rfl) rfl rfl ?_
  refine SL.bothP (t := 35) rfl ?_ ?_
  ·intro hc35
   iterate 4 refine SL.skip rfl rfl ?_
   refine SL.val (Val.pickT rfl rfl) rfl rfl ?_
   refine SL.nil (SE.seq ?_)
   refine SC.condT rfl ?_
   refine SC.seq (SC.region ?_)
   refine SL.val (Val.assign rfl) rfl rfl ?_
   refine SL.nil (SE.seq ?_)
   refine SC.ret ?_
   refine SE.ret ?_
   refine SE.then_ nofun ?_
   refine SE.then_ nofun ?_
   refine SE.ret ?_
   refine SE.then_ nofun ?_
   refine SE.fin (rs := [.tmp 4]) rfl (RV.tmp rfl RV.nil) (()) (by repeat first|exact s0_ _|exact s1_ _|apply s2_|apply s3_) (by simp [It.rids]) ?_
   rw [odd_rule hnd (q := 0) (by omega) (fun j hj => by
    exfalso; omega) (any_at hlt (show marksF _ = true by unfold marksF; simp_all))]
   rfl
  intro hc35
  refine SL.val (Val.fieldAddr tabOk rfl rfl rfl rfl rfl) rfl rfl ?_
  refine SL.val (Val.to (C := int (l[z]'hlt).low) (Val.load1 tabOk rfl rfl (by repeat first|assumption|exact o0_|exact o1_|apply o2_) List.not_mem_nil (by rfl)) rfl) rfl rfl ?_
  refine SL.val (Val.remT rfl rfl (by decide)) rfl rfl ?_
  refine SL.val (Val.neI rfl rfl) rfl rfl ?_
  refine SL.val (Val.pickF rfl rfl) rfl rfl ?_
  refine SL.nil (SE.seq ?_)
  refine SC.condP rfl ?_ ?_
  rotate_left
  ·intro hc40
   refine SC.skip ?_
   refine SE.inBlock ?_
   refine SE.seq ?_
   refine SC.region ?_
   first
    | refine SL.val (Val.addI rfl rfl (by simp only [InR, lo, hi]; omega)) rfl rfl ?_
    | refine SL.val (Val.addW rfl rfl) rfl rfl ?_
   refine SL.val (Val.move rfl) rfl rfl ?_
   refine SL.nil ?_
   refine SE.round (z + 1) (by first | omega | (dsimp only; omega)) (⟨by omega, fun j h1 h2 => by rcases Nat.lt_or_ge j z with h4 | h4; exact hz.2 j h1 h4; obtain rfl : j = z := (by omega); exact marks_no hc28 hc35 hc40⟩) (by exact ⟨rfl, rfl, rfl, rfl, rfl, trivial⟩) (by repeat first|exact s0_ _|exact s1_ _|apply s2_|apply s3_)
  intro hc40
  refine SC.seq (SC.region ?_)
  refine SL.val (Val.assign rfl) rfl rfl ?_
  refine SL.nil (SE.seq ?_)
  refine SC.ret ?_
  refine SE.ret ?_
  refine SE.then_ nofun ?_
  refine SE.then_ nofun ?_
  refine SE.ret ?_
  refine SE.then_ nofun ?_
  refine SE.fin (rs := [.tmp 4]) rfl (RV.tmp rfl RV.nil) (()) (by repeat first|exact s0_ _|exact s1_ _|apply s2_|apply s3_) (by simp [It.rids]) ?_
  rw [odd_rule hnd (q := 0) (by omega) (fun j hj => by
   exfalso; omega) (any_at hlt (show marksF _ = true by unfold marksF; simp_all))]
  rfl
 intro hc22
 have hr0 : l.any (ruleB (lastF L) 0) = false := any_not fun j h1 => hz.2 j h1 (by omega)
 refine SC.exit ?_
 refine SE.then_ nofun ?_
 refine SE.then_ nofun ?_
 refine SE.exit ?_
 refine SE.seq ?_
 refine SC.seq ?_
 refine SC.seq (SC.region ?_)
 refine SL.val (Val.move rfl) rfl rfl ?_
 first
  | refine SL.val (Val.lenSl rfl Try.underlying27 (List.length_map _)) rfl rfl ?_
  | refine SL.val (Val.lenOwn rfl (by repeat first|assumption|exact m0_|apply m1_) Try.underlying27 (List.length_map _)) rfl rfl ?_
  | refine SL.val (Val.lenNil rfl Try.underlying27) rfl rfl ?_
 refine SL.val (Val.move rfl) rfl rfl ?_
 refine SL.nil (SE.seq ?_)
 refine SC.block ?_
 refine SC.rowLe (i := 42) rfl fun hro1 => ?_
 rw [List.length_map] at hro1
 unfold maxLen at hro1
 refine SC.loop (ι := Nat) (fun z => [.rd br 29 [.v r], .rdpc (ownPc 41 7 r (L.map Gl.abs))]) (fun z => [(0, ptr br), (1, glsA l), (42, glsA l), (43, int (l.length : Nat)), (44, int (z : Nat))]) (fun z => z ≤ l.length ∧ ∀ j (hj : j < l.length), j < z → ruleB (lastF L) 1 l[j] = false) (fun z => l.length - z) (0) (⟨Nat.zero_le _, fun j h1 h => by omega⟩) (by exact ⟨rfl, rfl, rfl, rfl, rfl, trivial⟩) (by repeat first|exact s0_ _|exact s1_ _|apply s2_|apply s3_) ?_
 intro z hz
 refine SC.seq (SC.region ?_)
 refine SL.val (Val.ltI rfl rfl) rfl rfl ?_
 refine SL.nil (SE.seq ?_)
 refine SC.seq ?_
 refine SC.condP rfl ?_ ?_
 ·intro hc45
  have hlt : z < l.length := by omega
  have hgo := hl _ (List.getElem_mem hlt)
  refine SC.skip ?_
  refine SE.seq ?_
  refine SC.seq ?_
  refine SC.block ?_
  refine SC.seq (SC.region ?_)
  refine SL.val (Val.indexSl tabOk Try.underlying27 rfl rfl rfl rfl (at_map (by omega)) rfl rfl) rfl rfl ?_
  refine SL.val (Val.loadAR tabOk rfl rfl rfl (by rfl)) rfl rfl ?_
  refine SL.eff (Eff.alloc tabOk rfl) rfl rfl ?_
  rintro _ _ ⟨b8, rfl, rfl⟩
  refine SL.eff (Eff.store (L' := (l[z]'hlt).abs) tabOk rfl rfl rfl (by repeat first|assumption|exact Upd.here|apply Upd.there) rfl (lb_ (by rfl)) rfl (by exact putL_whole rfl)) rfl rfl ?_
  rintro _ _ ⟨rfl, rfl⟩
  refine SL.nil (SE.seq ?_)
  refine SC.seq (SC.region ?_)
  refine SL.val (Val.move rfl) rfl rfl ?_
  refine SL.val (Val.to (C := glA (l[z]'hlt)) (Val.loadP tabOk rfl rfl rfl (by repeat first|assumption|exact o0_|exact o1_|apply o2_) List.not_mem_nil (lb_ (by rfl))) rfl) rfl rfl ?_
  refine SL.call (rwback_s (g := (l[z]'hlt)) (L := L) (br := br) (r := r) hL) Casts.refl (by kernel_rfl) rfl rfl rfl ?_
  refine ap_ ?_
  intro _
  refine SL.nil (SE.seq ?_)
  refine SC.cond rfl ?_ ?_
  rotate_left
  ·intro hc50
   refine SC.skip ?_
   refine SE.inBlock ?_
   refine SE.seq ?_
   refine SC.region ?_
   first
    | refine SL.val (Val.addI rfl rfl (by simp only [InR, lo, hi]; omega)) rfl rfl ?_
    | refine SL.val (Val.addW rfl rfl) rfl rfl ?_
   refine SL.val (Val.move rfl) rfl rfl ?_
   refine SL.nil ?_
   refine SE.round (z + 1) (by first | omega | (dsimp only; omega)) (⟨by omega, fun j h1 h2 => by rcases Nat.lt_or_ge j z with h4 | h4; exact hz.2 j h1 h4; obtain rfl : j = z := (by omega); exact hc50⟩) (by exact ⟨rfl, rfl, rfl, rfl, rfl, trivial⟩) (by repeat first|exact s0_ _|exact s1_ _|apply s2_|apply s3_)
  intro hc50
  refine SC.seq (SC.region ?_)
  refine SL.val (Val.assign rfl) rfl rfl ?_
  refine SL.nil (SE.seq ?_)
  refine SC.ret ?_
  refine SE.ret ?_
  refine SE.then_ nofun ?_
  refine SE.then_ nofun ?_
  refine SE.ret ?_
  refine SE.then_ nofun ?_
  refine SE.fin (rs := [.tmp 4]) rfl (RV.tmp rfl RV.nil) (()) (by repeat first|exact s0_ _|exact s1_ _|apply s2_|apply s3_) (by simp [It.rids]) ?_
  rw [odd_rule hnd (q := 1) (by omega) (fun j hj => by
   obtain rfl : j = 0 := by omega
   exact hr0) (any_at hlt hc50)]
  rfl
 intro hc45
 have hr1 : l.any (ruleB (lastF L) 1) = false := any_not fun j h1 => hz.2 j h1 (by omega)
 refine SC.exit ?_
 refine SE.then_ nofun ?_
 refine SE.then_ nofun ?_
 refine SE.exit ?_
 refine SE.seq ?_
 refine SC.seq ?_
 refine SC.seq (SC.region ?_)
 refine SL.val (Val.move rfl) rfl rfl ?_
 first
  | refine SL.val (Val.lenSl rfl Try.underlying27 (List.length_map _)) rfl rfl ?_
  | refine SL.val (Val.lenOwn rfl (by repeat first|assumption|exact m0_|apply m1_) Try.underlying27 (List.length_map _)) rfl rfl ?_
  | refine SL.val (Val.lenNil rfl Try.underlying27) rfl rfl ?_
 refine SL.val (Val.move rfl) rfl rfl ?_
 refine SL.nil (SE.seq ?_)
 refine SC.block ?_
 refine SC.rowLe (i := 52) rfl fun hro2 => ?_
 rw [List.length_map] at hro2
 unfold maxLen at hro2
 refine SC.loop (ι := Nat) (fun z => [.rd br 29 [.v r], .rdpc (ownPc 41 7 r (L.map Gl.abs))]) (fun z => [(0, ptr br), (1, glsA l), (52, glsA l), (53, int (l.length : Nat)), (54, int (z : Nat))]) (fun z => z ≤ l.length ∧ ∀ j (hj : j < l.length), j < z → ruleB (lastF L) 2 l[j] = false) (fun z => l.length - z) (0) (⟨Nat.zero_le _, fun j h1 h => by omega⟩) (by exact ⟨rfl, rfl, rfl, rfl, rfl, trivial⟩) (by repeat first|exact s0_ _|exact s1_ _|apply s2_|apply s3_) ?_
 intro z hz
 refine SC.seq (SC.region ?_)
 refine SL.val (Val.ltI rfl rfl) rfl rfl ?_
 refine SL.nil (SE.seq ?_)
 refine SC.seq ?_
 refine SC.condP rfl ?_ ?_
 ·intro hc55
  have hlt : z < l.length := by omega
  have hgo := hl _ (List.getElem_mem hlt)
  refine SC.skip ?_
  refine SE.seq ?_
  refine SC.seq ?_
  refine SC.block ?_
  refine SC.seq (SC.region ?_)
  refine SL.val (Val.indexSl tabOk Try.underlying27 rfl rfl rfl rfl (at_map (by omega)) rfl rfl) rfl rfl ?_
  refine SL.val (Val.loadAR tabOk rfl rfl rfl (by rfl)) rfl rfl ?_
  refine SL.eff (Eff.alloc tabOk rfl) rfl rfl ?_
  rintro _ _ ⟨b10, rfl, rfl⟩
  refine SL.eff (Eff.store (L' := (l[z]'hlt).abs) tabOk rfl rfl rfl (by repeat first|assumption|exact Upd.here|apply Upd.there) rfl (lb_ (by rfl)) rfl (by exact putL_whole rfl)) rfl rfl ?_
  rintro _ _ ⟨rfl, rfl⟩
  refine SL.nil (SE.seq ?_)
  refine SC.seq (SC.region ?_)
  refine SL.val (Val.move rfl) rfl rfl ?_
  refine SL.val (Val.to (C := glA (l[z]'hlt)) (Val.loadP tabOk rfl rfl rfl (by repeat first|assumption|exact o0_|exact o1_|apply o2_) List.not_mem_nil (lb_ (by rfl))) rfl) rfl rfl ?_
  refine SL.call (rwother_s (g := (l[z]'hlt)) (L := L) (br := br) (r := r) hgo.ins hL (lastF_hw hLg _)) Casts.refl (by kernel_rfl) rfl rfl rfl ?_
  refine ap_ ?_
  intro _
  refine SL.nil (SE.seq ?_)
  refine SC.cond rfl ?_ ?_
  rotate_left
  ·intro hc60
   refine SC.skip ?_
   refine SE.inBlock ?_
   refine SE.seq ?_
   refine SC.region ?_
   first
    | refine SL.val (Val.addI rfl rfl (by simp only [InR, lo, hi]; omega)) rfl rfl ?_
    | refine SL.val (Val.addW rfl rfl) rfl rfl ?_
   refine SL.val (Val.move rfl) rfl rfl ?_
   refine SL.nil ?_
   refine SE.round (z + 1) (by first | omega | (dsimp only; omega)) (⟨by omega, fun j h1 h2 => by rcases Nat.lt_or_ge j z with h4 | h4; exact hz.2 j h1 h4; obtain rfl : j = z := (by omega); exact hc60⟩) (by exact ⟨rfl, rfl, rfl, rfl, rfl, trivial⟩) (by repeat first|exact s0_ _|exact s1_ _|apply s2_|apply s3_)
  intro hc60
  refine SC.seq (SC.region ?_)
  refine SL.val (Val.assign rfl) rfl rfl ?_
  refine SL.nil (SE.seq ?_)
  refine SC.ret ?_
  refine SE.ret ?_
  refine SE.then_ nofun ?_
  refine SE.then_ nofun ?_
  refine SE.ret ?_
  refine SE.then_ nofun ?_
  refine SE.fin (rs := [.tmp 4]) rfl (RV.tmp rfl RV.nil) (()) (by repeat first|exact s0_ _|exact s1_ _|apply s2_|apply s3_) (by simp [It.rids]) ?_
  rw [odd_rule hnd (q := 2) (by omega) (fun j hj => by
   obtain rfl | rfl : j = 0 ∨ j = 1 := by omega
   ·exact hr0
   ·exact hr1) (any_at hlt hc60)]
  rfl
 intro hc55
 have hr2 : l.any (ruleB (lastF L) 2) = false := any_not fun j h1 => hz.2 j h1 (by omega)
 refine SC.exit ?_
 refine SE.then_ nofun ?_
 refine SE.then_ nofun ?_
 refine SE.exit ?_
 refine SE.seq ?_
 refine SC.seq ?_
 refine SC.seq (SC.region ?_)
 refine SL.val (Val.move rfl) rfl rfl ?_
 first
  | refine SL.val (Val.lenSl rfl Try.underlying27 (List.length_map _)) rfl rfl ?_
  | refine SL.val (Val.lenOwn rfl (by repeat first|assumption|exact m0_|apply m1_) Try.underlying27 (List.length_map _)) rfl rfl ?_
  | refine SL.val (Val.lenNil rfl Try.underlying27) rfl rfl ?_
 refine SL.val (Val.move rfl) rfl rfl ?_
 refine SL.nil (SE.seq ?_)
 refine SC.block ?_
 refine SC.rowLe (i := 62) rfl fun hro3 => ?_
 rw [List.length_map] at hro3
 unfold maxLen at hro3
 refine SC.loop (ι := Nat) (fun z => [.rd br 29 [.v r], .rdpc (ownPc 41 7 r (L.map Gl.abs))]) (fun z => [(0, ptr br), (1, glsA l), (62, glsA l), (63, int (l.length : Nat)), (64, int (z : Nat))]) (fun z => z ≤ l.length ∧ ∀ j (hj : j < l.length), j < z → ruleB (lastF L) 3 l[j] = false) (fun z => l.length - z) (0) (⟨Nat.zero_le _, fun j h1 h => by omega⟩) (by exact ⟨rfl, rfl, rfl, rfl, rfl, trivial⟩) (by repeat first|exact s0_ _|exact s1_ _|apply s2_|apply s3_) ?_
 intro z hz
 refine SC.seq (SC.region ?_)
 refine SL.val (Val.ltI rfl rfl) rfl rfl ?_
 refine SL.nil (SE.seq ?_)
 refine SC.seq ?_
 refine SC.condP rfl ?_ ?_
 ·intro hc65
  have hlt : z < l.length := by omega
  have hgo := hl _ (List.getElem_mem hlt)
  refine SC.skip ?_
  refine SE.seq ?_
  refine SC.seq ?_
  refine SC.block ?_
  refine SC.seq (SC.region ?_)
  refine SL.val (Val.indexSl tabOk Try.underlying27 rfl rfl rfl rfl (at_map (by omega)) rfl rfl) rfl rfl ?_
  refine SL.val (Val.loadAR tabOk rfl rfl rfl (by rfl)) rfl rfl ?_
  refine SL.eff (Eff.alloc tabOk rfl) rfl rfl ?_
  rintro _ _ ⟨b12, rfl, rfl⟩
  refine SL.eff (Eff.store (L' := (l[z]'hlt).abs) tabOk rfl rfl rfl (by repeat first|assumption|exact Upd.here|apply Upd.there) rfl (lb_ (by rfl)) rfl (by exact putL_whole rfl)) rfl rfl ?_
  rintro _ _ ⟨rfl, rfl⟩
  refine SL.nil (SE.seq ?_)
  refine SC.seq (SC.region ?_)
  refine SL.val (Val.to (C := glA (l[z]'hlt)) (Val.loadP tabOk rfl rfl rfl (by repeat first|assumption|exact o0_|exact o1_|apply o2_) List.not_mem_nil (lb_ (by rfl))) rfl) rfl rfl ?_
  refine SL.call (rwgap_s (g := (l[z]'hlt)) hgo.ins) Casts.refl (by kernel_rfl) rfl rfl rfl ?_
  refine ap_ ?_
  intro _
  refine SL.nil (SE.seq ?_)
  refine SC.cond rfl ?_ ?_
  rotate_left
  ·intro hc69
   refine SC.skip ?_
   refine SE.inBlock ?_
   refine SE.seq ?_
   refine SC.region ?_
   first
    | refine SL.val (Val.addI rfl rfl (by simp only [InR, lo, hi]; omega)) rfl rfl ?_
    | refine SL.val (Val.addW rfl rfl) rfl rfl ?_
   refine SL.val (Val.move rfl) rfl rfl ?_
   refine SL.nil ?_
   refine SE.round (z + 1) (by first | omega | (dsimp only; omega)) (⟨by omega, fun j h1 h2 => by rcases Nat.lt_or_ge j z with h4 | h4; exact hz.2 j h1 h4; obtain rfl : j = z := (by omega); exact hc69⟩) (by exact ⟨rfl, rfl, rfl, rfl, rfl, trivial⟩) (by repeat first|exact s0_ _|exact s1_ _|apply s2_|apply s3_)
  intro hc69
  refine SC.seq (SC.region ?_)
  refine SL.val (Val.assign rfl) rfl rfl ?_
  refine SL.nil (SE.seq ?_)
  refine SC.ret ?_
  refine SE.ret ?_
  refine SE.then_ nofun ?_
  refine SE.then_ nofun ?_
  refine SE.ret ?_
  refine SE.then_ nofun ?_
  refine SE.fin (rs := [.tmp 4]) rfl (RV.tmp rfl RV.nil) (()) (by repeat first|exact s0_ _|exact s1_ _|apply s2_|apply s3_) (by simp [It.rids]) ?_
  rw [odd_rule hnd (q := 3) (by omega) (fun j hj => by
   obtain rfl | rfl | rfl : j = 0 ∨ j = 1 ∨ j = 2 := by omega
   ·exact hr0
   ·exact hr1
   ·exact hr2) (any_at hlt hc69)]
  rfl
 intro hc65
 have hr3 : l.any (ruleB (lastF L) 3) = false := any_not fun j h1 => hz.2 j h1 (by omega)
 refine SC.exit ?_
 refine SE.then_ nofun ?_
 refine SE.then_ nofun ?_
 refine SE.exit ?_
 refine SE.seq ?_
 refine SC.seq ?_
 refine SC.seq (SC.region ?_)
 refine SL.val (Val.move rfl) rfl rfl ?_
 first
  | refine SL.val (Val.lenSl rfl Try.underlying27 (List.length_map _)) rfl rfl ?_
  | refine SL.val (Val.lenOwn rfl (by repeat first|assumption|exact m0_|apply m1_) Try.underlying27 (List.length_map _)) rfl rfl ?_
  | refine SL.val (Val.lenNil rfl Try.underlying27) rfl rfl ?_
 refine SL.val (Val.move rfl) rfl rfl ?_
 refine SL.nil (SE.seq ?_)
 refine SC.block ?_
 refine SC.rowLe (i := 71) rfl fun hro4 => ?_
 rw [List.length_map] at hro4
 unfold maxLen at hro4
 refine SC.loop (ι := Nat) (fun z => [.rd br 29 [.v r], .rdpc (ownPc 41 7 r (L.map Gl.abs))]) (fun z => [(0, ptr br), (1, glsA l), (71, glsA l), (72, int (l.length : Nat)), (73, int (z : Nat))]) (fun z => z ≤ l.length ∧ ∀ j (hj : j < l.length), j < z → ∀ i (h2 : i < l.length), sameD l[j].deeds l[i].deeds) (fun z => l.length - z) (0) (⟨Nat.zero_le _, fun j h1 h => by omega⟩) (by exact ⟨rfl, rfl, rfl, rfl, rfl, trivial⟩) (by repeat first|exact s0_ _|exact s1_ _|apply s2_|apply s3_) ?_
 intro z hz
 refine SC.seq (SC.region ?_)
 refine SL.val (Val.ltI rfl rfl) rfl rfl ?_
 refine SL.nil (SE.seq ?_)
 refine SC.seq ?_
 refine SC.condP rfl ?_ ?_
 rotate_left
 ·intro hc74
  refine SC.exit ?_
  refine SE.then_ nofun ?_
  refine SE.then_ nofun ?_
  refine SE.exit ?_
  refine SE.seq ?_
  refine SC.seq (SC.region ?_)
  refine SL.val (Val.assign rfl) rfl rfl ?_
  refine SL.nil (SE.seq ?_)
  refine SC.ret ?_
  refine SE.fin (rs := [.tmp 4]) rfl (RV.tmp rfl RV.nil) (()) (by repeat first|exact s0_ _|exact s1_ _|apply s2_|apply s3_) (by simp [It.rids]) ?_
  rw [odd_last hnd (four_no (f := fun j => l.any (ruleB (lastF L) j)) hr0 hr1 hr2 hr3), if_pos (allSame_at fun i h1 j h2 => hz.2 i h1 (by omega) j h2)]
  rfl
 intro hc74
 have hlt : z < l.length := by omega
 have hgo := hl _ (List.getElem_mem hlt)
 refine SC.skip ?_
 refine SE.seq ?_
 refine SC.seq ?_
 refine SC.block ?_
 refine SC.seq (SC.region ?_)
 refine SL.val (Val.indexSl tabOk Try.underlying27 rfl rfl rfl rfl (at_map (by omega)) rfl rfl) rfl rfl ?_
 refine SL.val (Val.loadAR tabOk rfl rfl rfl (by rfl)) rfl rfl ?_
 refine SL.eff (Eff.alloc tabOk rfl) rfl rfl ?_
 rintro _ _ ⟨b14, rfl, rfl⟩
 refine SL.eff (Eff.store (L' := (l[z]'hlt).abs) tabOk rfl rfl rfl (by repeat first|assumption|exact Upd.here|apply Upd.there) rfl (lb_ (by rfl)) rfl (by exact putL_whole rfl)) rfl rfl ?_
 rintro _ _ ⟨rfl, rfl⟩
 refine SL.nil (SE.seq ?_)
 refine SC.seq (SC.region ?_)
 refine SL.val (Val.move rfl) rfl rfl ?_
 first
  | refine SL.val (Val.lenSl rfl Try.underlying27 (List.length_map _)) rfl rfl ?_
  | refine SL.val (Val.lenOwn rfl (by repeat first|assumption|exact m0_|apply m1_) Try.underlying27 (List.length_map _)) rfl rfl ?_
  | refine SL.val (Val.lenNil rfl Try.underlying27) rfl rfl ?_
 refine SL.val (Val.move rfl) rfl rfl ?_
 refine SL.nil (SE.seq ?_)
 refine SC.block ?_
 refine SC.rowLe (i := 77) rfl fun hro5 => ?_
 rw [List.length_map] at hro5
 unfold maxLen at hro5
 refine SC.loop (ι := Nat) (fun y => [.blk b14 41 (l[z]'hlt).abs, .rd br 29 [.v r], .rdpc (ownPc 41 7 r (L.map Gl.abs))]) (fun y => [(0, ptr br), (1, glsA l), (71, glsA l), (72, int (l.length : Nat)), (73, int (z : Nat)), (14, ptr b14), (77, glsA l), (78, int (l.length : Nat)), (79, int (y : Nat))]) (fun y => y ≤ l.length ∧ ∀ j (hj : j < l.length), j < y → sameD (l[z]'hlt).deeds l[j].deeds) (fun y => l.length - y) (0) (⟨Nat.zero_le _, fun j h1 h => by omega⟩) (by exact ⟨rfl, rfl, rfl, rfl, rfl, rfl, rfl, rfl, rfl, trivial⟩) (by repeat first|exact s0_ _|exact s1_ _|apply s2_|apply s3_) ?_
 intro y hy
 refine SC.seq (SC.region ?_)
 refine SL.val (Val.ltI rfl rfl) rfl rfl ?_
 refine SL.nil (SE.seq ?_)
 refine SC.seq ?_
 refine SC.condP rfl ?_ ?_
 rotate_left
 ·intro hc80
  refine SC.exit ?_
  refine SE.then_ nofun ?_
  refine SE.then_ nofun ?_
  refine SE.exit ?_
  refine SE.inBlock ?_
  refine SE.seq ?_
  refine SC.region ?_
  first
   | refine SL.val (Val.addI rfl rfl (by simp only [InR, lo, hi]; omega)) rfl rfl ?_
   | refine SL.val (Val.addW rfl rfl) rfl rfl ?_
  refine SL.val (Val.move rfl) rfl rfl ?_
  refine SL.nil ?_
  refine SE.round (z + 1) (by first | omega | (dsimp only; omega)) (⟨by omega, fun j h1 h2 => by rcases Nat.lt_or_ge j z with h4 | h4; exact hz.2 j h1 h4; obtain rfl : j = z := (by omega); exact fun i h5 => hy.2 i h5 (by omega)⟩) (by exact ⟨rfl, rfl, rfl, rfl, rfl, trivial⟩) (by repeat first|exact s0_ _|exact s1_ _|apply s2_|apply s3_)
 intro hc80
 have hly : y < l.length := by omega
 refine SC.skip ?_
 refine SE.seq ?_
 refine SC.seq ?_
 refine SC.block ?_
 refine SC.seq (SC.region ?_)
 refine SL.val (Val.indexSl tabOk Try.underlying27 rfl rfl rfl rfl (at_map (by omega)) rfl rfl) rfl rfl ?_
 refine SL.val (Val.loadAR tabOk rfl rfl rfl (by rfl)) rfl rfl ?_
 refine SL.eff (Eff.alloc tabOk rfl) rfl rfl ?_
 rintro _ _ ⟨b16, rfl, rfl⟩
 refine SL.eff (Eff.store (L' := (l[y]'hly).abs) tabOk rfl rfl rfl (by repeat first|assumption|exact Upd.here|apply Upd.there) rfl (lb_ (by rfl)) rfl (by exact putL_whole rfl)) rfl rfl ?_
 rintro _ _ ⟨rfl, rfl⟩
 refine SL.nil (SE.seq ?_)
 refine SC.seq (SC.region ?_)
 refine SL.val (Val.fieldAddr tabOk rfl rfl rfl rfl rfl) rfl rfl ?_
 refine SL.val (Val.to (C := ddsA (l[z]'hlt).deeds) (Val.load1 tabOk rfl rfl (by repeat first|assumption|exact o0_|exact o1_|apply o2_) List.not_mem_nil (by rfl)) rfl) rfl rfl ?_
 refine SL.val (Val.fieldAddr tabOk rfl rfl rfl rfl rfl) rfl rfl ?_
 refine SL.val (Val.to (C := ddsA (l[y]'hly).deeds) (Val.load1 tabOk rfl rfl (by repeat first|assumption|exact o0_|exact o1_|apply o2_) List.not_mem_nil (by rfl)) rfl) rfl rfl ?_
 refine SL.call (ragree_s (a := (l[z]'hlt).deeds) (b := (l[y]'hly).deeds) hgo.ins.deeds (hl _ (List.getElem_mem hly)).ins.deeds (fun d hd => Nat.le_trans (hgo.bn d hd) (by decide))) Casts.refl (by kernel_rfl) rfl rfl rfl ?_
 refine ap_ ?_
 intro _
 refine SL.val (Val.notP rfl) rfl rfl ?_
 refine SL.nil (SE.seq ?_)
 refine SC.condP rfl ?_ ?_
 rotate_left
 ·intro hc88
  refine SC.skip ?_
  refine SE.inBlock ?_
  refine SE.seq ?_
  refine SC.region ?_
  first
   | refine SL.val (Val.addI rfl rfl (by simp only [InR, lo, hi]; omega)) rfl rfl ?_
   | refine SL.val (Val.addW rfl rfl) rfl rfl ?_
  refine SL.val (Val.move rfl) rfl rfl ?_
  refine SL.nil ?_
  refine SE.round (y + 1) (by first | omega | (dsimp only; omega)) (⟨by omega, fun j h1 h2 => by rcases Nat.lt_or_ge j y with h4 | h4; exact hy.2 j h1 h4; obtain rfl : j = y := (by omega); simpa using hc88⟩) (by exact ⟨rfl, rfl, rfl, rfl, rfl, rfl, rfl, rfl, rfl, trivial⟩) (by repeat first|exact s0_ _|exact s1_ _|apply s2_|apply s3_)
 intro hc88
 refine SC.seq (SC.region ?_)
 refine SL.val (Val.assign rfl) rfl rfl ?_
 refine SL.nil (SE.seq ?_)
 refine SC.ret ?_
 refine SE.ret ?_
 refine SE.then_ nofun ?_
 refine SE.then_ nofun ?_
 refine SE.ret ?_
 refine SE.ret ?_
 refine SE.then_ nofun ?_
 refine SE.then_ nofun ?_
 refine SE.ret ?_
 refine SE.then_ nofun ?_
 refine SE.fin (rs := [.tmp 4]) rfl (RV.tmp rfl RV.nil) (()) (by repeat first|exact s0_ _|exact s1_ _|apply s2_|apply s3_) (by simp [It.rids]) ?_
 rw [odd_last hnd (four_no (f := fun j => l.any (ruleB (lastF L) j)) hr0 hr1 hr2 hr3), if_neg (allSame_not hlt hly (by simpa using hc88))]
 rfl
end
end Go.Proofs.Ytiaeochlepkleaa.A
