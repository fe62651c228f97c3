/-
  Packed out of the texts: AG3, WA1, A17, AG4, ClE, AG5, WA2, A29.
-/
import Derived.Test.YtiaeochlepkleaaW04
import Derived.Maps.RangeRun
/-
  Agree: gaps, and the document's.
-/
set_option maxRecDepth 100000
set_option linter.unusedSimpArgs false
set_option linter.unusedVariables false
namespace Go.Proofs.Ytiaeochlepkleaa.A
open Go.RowKit

theorem gap_s {l : List Dd} (hi9 : ∀ d ∈ l, DdIns d) : Spec Try.prog 37 [ddsA l] [] (fun _ : Unit => []) (fun _ => boo (gapB 0 l)) := by
 refine spec_of Try.func37 rfl Try.ntmps37 rfl fun G w => ?_
 refine SC.seq (SC.region ?_)
 refine SL.val (Val.assign rfl) rfl rfl ?_
 refine SL.nil (SE.seq ?_)
 refine SC.seq (SC.region ?_)
 refine SL.val (Val.assign rfl) rfl rfl ?_
 refine SL.nil (SE.seq ?_)
 refine SC.seq ?_
 refine SC.seq (SC.region ?_)
 refine SL.val (Val.move rfl) rfl rfl ?_
 first
  | refine SL.val (Val.lenSl rfl Try.underlying39 (List.length_map _)) rfl rfl ?_
  | refine SL.val (Val.lenOwn rfl (by repeat first|assumption|exact m0_|apply m1_) Try.underlying39 (List.length_map _)) rfl rfl ?_
  | refine SL.val (Val.lenNil rfl Try.underlying39) rfl rfl ?_
 refine SL.val (Val.move rfl) rfl rfl ?_
 refine SL.nil (SE.seq ?_)
 refine SC.block ?_
 refine SC.rowLe (i := 6) rfl fun hrow => ?_
 rw [List.length_map] at hrow
 unfold maxLen at hrow
 refine SC.loop (ι := Nat × Int) (fun z => []) (fun z => [(3, int z.2), (6, ddsA l), (7, int (l.length : Nat)), (8, int (z.1 : Nat))]) (fun z => z.1 ≤ l.length ∧ (0 ≤ z.2 ∧ z.2 ≤ 9223372036854775807) ∧ gapB z.2 (l.drop z.1) = gapB 0 l) (fun z => l.length - z.1) (0, 0) (⟨Nat.zero_le _, by decide, rfl⟩) (by exact ⟨rfl, rfl, rfl, rfl, trivial⟩) (by repeat first|exact s0_ _|exact s1_ _|apply s2_|apply s3_) ?_
 intro z hz
 refine SC.seq (SC.region ?_)
 refine SL.val (Val.ltI rfl rfl) rfl rfl ?_
 refine SL.nil (SE.seq ?_)
 refine SC.seq ?_
 refine SC.condP rfl ?_ ?_
 rotate_left
 ·intro hc9
  have hde : l.drop z.1 = [] := List.drop_eq_nil_of_le (by omega)
  have hgt := hz.2.2
  rw [hde] at hgt
  have hgt : gapB 0 l = true := hgt.symm
  refine SC.exit ?_
  refine SE.then_ nofun ?_
  refine SE.then_ nofun ?_
  refine SE.exit ?_
  refine SE.seq ?_
  refine SC.seq (SC.region ?_)
  refine SL.val (Val.assign rfl) rfl rfl ?_
  refine SL.nil (SE.seq ?_)
  refine SC.ret ?_
  refine SE.fin (rs := [.tmp 2]) rfl (RV.tmp rfl RV.nil) (()) (by repeat first|exact s0_ _|exact s1_ _|apply s2_|apply s3_) (by simp [It.rids]) ?_
  rw [hgt]
  rfl
 intro hc9
 have hlt : z.1 < l.length := by omega
 have hse := (hi9 _ (List.getElem_mem hlt)).seq
 unfold i64ok at hse
 have hst := gapB_step (q := z.2) hlt
 rw [hz.2.2] at hst
 refine SC.skip ?_
 refine SE.seq ?_
 refine SC.seq ?_
 refine SC.block ?_
 refine SC.seq (SC.region ?_)
 refine SL.val (Val.indexSl tabOk Try.underlying39 rfl rfl rfl rfl (at_map (by omega)) rfl rfl) rfl rfl ?_
 refine SL.val (Val.loadAR tabOk rfl rfl rfl (by rfl)) rfl rfl ?_
 refine SL.eff (Eff.alloc tabOk rfl) rfl rfl ?_
 rintro _ _ ⟨b5, rfl, rfl⟩
 refine SL.eff (Eff.store (L' := (l[z.1]'hlt).abs) tabOk rfl rfl rfl (by repeat first|assumption|exact Upd.here|apply Upd.there) rfl (lb_ (by rfl)) rfl (by exact putL_whole rfl)) rfl rfl ?_
 rintro _ _ ⟨rfl, rfl⟩
 refine SL.nil (SE.seq ?_)
 refine SC.seq ?_
 refine SC.seq (SC.region ?_)
 refine SL.val (Val.fieldAddr tabOk rfl rfl rfl rfl rfl) rfl rfl ?_
 refine SL.val (Val.to (C := int (l[z.1]'hlt).seq) (Val.load1 tabOk rfl rfl (by repeat first|assumption|exact o0_|exact o1_|apply o2_) List.not_mem_nil (by rfl)) rfl) rfl rfl ?_
 refine SL.val (Val.move rfl) rfl rfl ?_
 refine SL.val (Val.leI rfl rfl) rfl rfl ?_
 refine SL.val (Val.move rfl) rfl rfl ?_
 refine SL.bothP (t := 16) rfl ?_ ?_
 ·intro hc16
  iterate 10 refine SL.skip rfl rfl ?_
  refine SL.val (Val.pickT rfl rfl) rfl rfl ?_
  refine SL.nil (SE.seq ?_)
  refine SC.condT rfl ?_
  refine SC.seq (SC.region ?_)
  refine SL.val (Val.assign rfl) rfl rfl ?_
  refine SL.nil (SE.seq ?_)
  refine SC.ret ?_
  refine SE.then_ nofun ?_
  refine SE.ret ?_
  refine SE.then_ nofun ?_
  refine SE.then_ nofun ?_
  refine SE.ret ?_
  refine SE.then_ nofun ?_
  refine SE.fin (rs := [.tmp 2]) rfl (RV.tmp rfl RV.nil) (()) (by repeat first|exact s0_ _|exact s1_ _|apply s2_|apply s3_) (by simp [It.rids]) ?_
  rw [hst, if_pos (by simp_all <;> omega)]
  rfl
 intro hc16
 refine SL.val (Val.fieldAddr tabOk rfl rfl rfl rfl rfl) rfl rfl ?_
 refine SL.val (Val.to (C := boo (l[z.1]'hlt).adopted) (Val.load1 tabOk rfl rfl (by repeat first|assumption|exact o0_|exact o1_|apply o2_) List.not_mem_nil (by rfl)) rfl) rfl rfl ?_
 refine SL.val (Val.notB rfl) rfl rfl ?_
 refine SL.val (Val.move rfl) rfl rfl ?_
 refine SL.both (t := 20) rfl ?_ ?_
 rotate_left
 ·intro hc20
  iterate 5 refine SL.skip rfl rfl ?_
  refine SL.val (Val.pickF rfl rfl) rfl rfl ?_
  refine SL.val (Val.pickF rfl rfl) rfl rfl ?_
  refine SL.nil (SE.seq ?_)
  refine SC.condF rfl ?_
  refine SC.skip ?_
  refine SE.seq ?_
  refine SC.region ?_
  refine SL.val (Val.fieldAddr tabOk rfl rfl rfl rfl rfl) rfl rfl ?_
  refine SL.val (Val.to (C := int (l[z.1]'hlt).seq) (Val.load1 tabOk rfl rfl (by repeat first|assumption|exact o0_|exact o1_|apply o2_) List.not_mem_nil (by rfl)) rfl) rfl rfl ?_
  refine SL.val (Val.assign rfl) rfl rfl ?_
  refine SL.nil ?_
  refine SE.inBlock ?_
  refine SE.seq ?_
  refine SC.region ?_
  first
   | refine SL.val (Val.addI rfl rfl (by simp only [InR, lo, hi]; omega)) rfl rfl ?_
   | refine SL.val (Val.addW rfl rfl) rfl rfl ?_
  refine SL.val (Val.move rfl) rfl rfl ?_
  refine SL.nil ?_
  refine SE.round (z.1 + 1, (l[z.1]'hlt).seq) (by first | omega | (dsimp only; omega)) (⟨by dsimp only; omega, by dsimp only; omega, by rw [if_neg (by simp_all <;> omega)] at hst; exact hst.symm⟩) (by exact ⟨rfl, rfl, rfl, rfl, trivial⟩) (by repeat first|exact s0_ _|exact s1_ _|apply s2_|apply s3_)
 intro hc20
 refine SL.val (Val.fieldAddr tabOk rfl rfl rfl rfl rfl) rfl rfl ?_
 refine SL.val (Val.to (C := int (l[z.1]'hlt).seq) (Val.load1 tabOk rfl rfl (by repeat first|assumption|exact o0_|exact o1_|apply o2_) List.not_mem_nil (by rfl)) rfl) rfl rfl ?_
 refine SL.val (Val.move rfl) rfl rfl ?_
 refine SL.val (Val.to (C := int ((l[z.1]'hlt).seq - z.2)) (Val.subI rfl rfl (by simp only [InR, lo, hi]; omega)) rfl) rfl rfl ?_
 refine SL.val (Val.neI rfl rfl) rfl rfl ?_
 refine SL.val (Val.pickT rfl rfl) rfl rfl ?_
 refine SL.val (Val.pickF rfl rfl) rfl rfl ?_
 refine SL.nil (SE.seq ?_)
 refine SC.condP rfl ?_ ?_
 ·intro hc27
  refine SC.seq (SC.region ?_)
  refine SL.val (Val.assign rfl) rfl rfl ?_
  refine SL.nil (SE.seq ?_)
  refine SC.ret ?_
  refine SE.then_ nofun ?_
  refine SE.ret ?_
  refine SE.then_ nofun ?_
  refine SE.then_ nofun ?_
  refine SE.ret ?_
  refine SE.then_ nofun ?_
  refine SE.fin (rs := [.tmp 2]) rfl (RV.tmp rfl RV.nil) (()) (by repeat first|exact s0_ _|exact s1_ _|apply s2_|apply s3_) (by simp [It.rids]) ?_
  rw [hst, if_pos (by simp_all <;> omega)]
  rfl
 intro hc27
 refine SC.skip ?_
 refine SE.seq ?_
 refine SC.region ?_
 refine SL.val (Val.fieldAddr tabOk rfl rfl rfl rfl rfl) rfl rfl ?_
 refine SL.val (Val.to (C := int (l[z.1]'hlt).seq) (Val.load1 tabOk rfl rfl (by repeat first|assumption|exact o0_|exact o1_|apply o2_) List.not_mem_nil (by rfl)) rfl) rfl rfl ?_
 refine SL.val (Val.assign rfl) rfl rfl ?_
 refine SL.nil ?_
 refine SE.inBlock ?_
 refine SE.seq ?_
 refine SC.region ?_
 first
  | refine SL.val (Val.addI rfl rfl (by simp only [InR, lo, hi]; omega)) rfl rfl ?_
  | refine SL.val (Val.addW rfl rfl) rfl rfl ?_
 refine SL.val (Val.move rfl) rfl rfl ?_
 refine SL.nil ?_
 refine SE.round (z.1 + 1, (l[z.1]'hlt).seq) (by first | omega | (dsimp only; omega)) (⟨by dsimp only; omega, by dsimp only; omega, by rw [if_neg (by simp_all <;> omega)] at hst; exact hst.symm⟩) (by exact ⟨rfl, rfl, rfl, rfl, trivial⟩) (by repeat first|exact s0_ _|exact s1_ _|apply s2_|apply s3_)
theorem rgap_s {l : List Dd} (hi9 : ∀ d ∈ l, DdIns d) : Spec Try.prog 33 [ddsA l] [] (fun _ : Unit => []) (fun _ => boo (gapB 0 l)) := by
 refine spec_of Try.func33 rfl Try.ntmps33 rfl fun G w => ?_
 refine SC.seq (SC.region ?_)
 refine SL.val (Val.assign rfl) rfl rfl ?_
 refine SL.nil (SE.seq ?_)
 refine SC.seq (SC.region ?_)
 refine SL.val (Val.assign rfl) rfl rfl ?_
 refine SL.nil (SE.seq ?_)
 refine SC.seq ?_
 refine SC.seq (SC.region ?_)
 refine SL.val (Val.move rfl) rfl rfl ?_
 first
  | refine SL.val (Val.lenSl rfl Try.underlying39 (List.length_map _)) rfl rfl ?_
  | refine SL.val (Val.lenOwn rfl (by repeat first|assumption|exact m0_|apply m1_) Try.underlying39 (List.length_map _)) rfl rfl ?_
  | refine SL.val (Val.lenNil rfl Try.underlying39) rfl rfl ?_
 refine SL.val (Val.move rfl) rfl rfl ?_
 refine SL.nil (SE.seq ?_)
 refine SC.block ?_
 refine SC.rowLe (i := 6) rfl fun hrow => ?_
 rw [List.length_map] at hrow
 unfold maxLen at hrow
 refine SC.loop (ι := Nat × Int) (fun z => []) (fun z => [(3, int z.2), (6, ddsA l), (7, int (l.length : Nat)), (8, int (z.1 : Nat))]) (fun z => z.1 ≤ l.length ∧ (0 ≤ z.2 ∧ z.2 ≤ 9223372036854775807) ∧ gapB z.2 (l.drop z.1) = gapB 0 l) (fun z => l.length - z.1) (0, 0) (⟨Nat.zero_le _, by decide, rfl⟩) (by exact ⟨rfl, rfl, rfl, rfl, trivial⟩) (by repeat first|exact s0_ _|exact s1_ _|apply s2_|apply s3_) ?_
 intro z hz
 refine SC.seq (SC.region ?_)
 refine SL.val (Val.ltI rfl rfl) rfl rfl ?_
 refine SL.nil (SE.seq ?_)
 refine SC.seq ?_
 refine SC.condP rfl ?_ ?_
 rotate_left
 ·intro hc9
  have hde : l.drop z.1 = [] := List.drop_eq_nil_of_le (by omega)
  have hgt := hz.2.2
  rw [hde] at hgt
  have hgt : gapB 0 l = true := hgt.symm
  refine SC.exit ?_
  refine SE.then_ nofun ?_
  refine SE.then_ nofun ?_
  refine SE.exit ?_
  refine SE.seq ?_
  refine SC.seq (SC.region ?_)
  refine SL.val (Val.assign rfl) rfl rfl ?_
  refine SL.nil (SE.seq ?_)
  refine SC.ret ?_
  refine SE.fin (rs := [.tmp 2]) rfl (RV.tmp rfl RV.nil) (()) (by repeat first|exact s0_ _|exact s1_ _|apply s2_|apply s3_) (by simp [It.rids]) ?_
  rw [hgt]
  rfl
 intro hc9
 have hlt : z.1 < l.length := by omega
 have hse := (hi9 _ (List.getElem_mem hlt)).seq
 unfold i64ok at hse
 have hst := gapB_step (q := z.2) hlt
 rw [hz.2.2] at hst
 refine SC.skip ?_
 refine SE.seq ?_
 refine SC.seq ?_
 refine SC.block ?_
 refine SC.seq (SC.region ?_)
 refine SL.val (Val.indexSl tabOk Try.underlying39 rfl rfl rfl rfl (at_map (by omega)) rfl rfl) rfl rfl ?_
 refine SL.val (Val.loadAR tabOk rfl rfl rfl (by rfl)) rfl rfl ?_
 refine SL.eff (Eff.alloc tabOk rfl) rfl rfl ?_
 rintro _ _ ⟨b5, rfl, rfl⟩
 refine SL.eff (Eff.store (L' := (l[z.1]'hlt).abs) tabOk rfl rfl rfl (by repeat first|assumption|exact Upd.here|apply Upd.there) rfl (lb_ (by rfl)) rfl (by exact putL_whole rfl)) rfl rfl ?_
 rintro _ _ ⟨rfl, rfl⟩
 refine SL.nil (SE.seq ?_)
 refine SC.seq ?_
 refine SC.seq (SC.region ?_)
 refine SL.val (Val.fieldAddr tabOk rfl rfl rfl rfl rfl) rfl rfl ?_
 refine SL.val (Val.to (C := int (l[z.1]'hlt).seq) (Val.load1 tabOk rfl rfl (by repeat first|assumption|exact o0_|exact o1_|apply o2_) List.not_mem_nil (by rfl)) rfl) rfl rfl ?_
 refine SL.val (Val.move rfl) rfl rfl ?_
 refine SL.val (Val.leI rfl rfl) rfl rfl ?_
 refine SL.val (Val.move rfl) rfl rfl ?_
 refine SL.bothP (t := 16) rfl ?_ ?_
 ·intro hc16
  iterate 10 refine SL.skip rfl rfl ?_
  refine SL.val (Val.pickT rfl rfl) rfl rfl ?_
  refine SL.nil (SE.seq ?_)
  refine SC.condT rfl ?_
  refine SC.seq (SC.region ?_)
  refine SL.val (Val.assign rfl) rfl rfl ?_
  refine SL.nil (SE.seq ?_)
  refine SC.ret ?_
  refine SE.then_ nofun ?_
  refine SE.ret ?_
  refine SE.then_ nofun ?_
  refine SE.then_ nofun ?_
  refine SE.ret ?_
  refine SE.then_ nofun ?_
  refine SE.fin (rs := [.tmp 2]) rfl (RV.tmp rfl RV.nil) (()) (by repeat first|exact s0_ _|exact s1_ _|apply s2_|apply s3_) (by simp [It.rids]) ?_
  rw [hst, if_pos (by simp_all <;> omega)]
  rfl
 intro hc16
 refine SL.val (Val.fieldAddr tabOk rfl rfl rfl rfl rfl) rfl rfl ?_
 refine SL.val (Val.to (C := boo (l[z.1]'hlt).adopted) (Val.load1 tabOk rfl rfl (by repeat first|assumption|exact o0_|exact o1_|apply o2_) List.not_mem_nil (by rfl)) rfl) rfl rfl ?_
 refine SL.val (Val.notB rfl) rfl rfl ?_
 refine SL.val (Val.move rfl) rfl rfl ?_
 refine SL.both (t := 20) rfl ?_ ?_
 rotate_left
 ·intro hc20
  iterate 5 refine SL.skip rfl rfl ?_
  refine SL.val (Val.pickF rfl rfl) rfl rfl ?_
  refine SL.val (Val.pickF rfl rfl) rfl rfl ?_
  refine SL.nil (SE.seq ?_)
  refine SC.condF rfl ?_
  refine SC.skip ?_
  refine SE.seq ?_
  refine SC.region ?_
  refine SL.val (Val.fieldAddr tabOk rfl rfl rfl rfl rfl) rfl rfl ?_
  refine SL.val (Val.to (C := int (l[z.1]'hlt).seq) (Val.load1 tabOk rfl rfl (by repeat first|assumption|exact o0_|exact o1_|apply o2_) List.not_mem_nil (by rfl)) rfl) rfl rfl ?_
  refine SL.val (Val.assign rfl) rfl rfl ?_
  refine SL.nil ?_
  refine SE.inBlock ?_
  refine SE.seq ?_
  refine SC.region ?_
  first
   | refine SL.val (Val.addI rfl rfl (by simp only [InR, lo, hi]; omega)) rfl rfl ?_
   | refine SL.val (Val.addW rfl rfl) rfl rfl ?_
  refine SL.val (Val.move rfl) rfl rfl ?_
  refine SL.nil ?_
  refine SE.round (z.1 + 1, (l[z.1]'hlt).seq) (by first | omega | (dsimp only; omega)) (⟨by dsimp only; omega, by dsimp only; omega, by rw [if_neg (by simp_all <;> omega)] at hst; exact hst.symm⟩) (by exact ⟨rfl, rfl, rfl, rfl, trivial⟩) (by repeat first|exact s0_ _|exact s1_ _|apply s2_|apply s3_)
 intro hc20
 refine SL.val (Val.fieldAddr tabOk rfl rfl rfl rfl rfl) rfl rfl ?_
 refine SL.val (Val.to (C := int (l[z.1]'hlt).seq) (Val.load1 tabOk rfl rfl (by repeat first|assumption|exact o0_|exact o1_|apply o2_) List.not_mem_nil (by rfl)) rfl) rfl rfl ?_
 refine SL.val (Val.to (C := int ((l[z.1]'hlt).seq - 1)) (Val.subI rfl rfl (by simp only [InR, lo, hi]; omega)) rfl) rfl rfl ?_
 refine SL.val (Val.move rfl) rfl rfl ?_
 refine SL.val (Val.neI rfl rfl) rfl rfl ?_
 refine SL.val (Val.pickT rfl rfl) rfl rfl ?_
 refine SL.val (Val.pickF rfl rfl) rfl rfl ?_
 refine SL.nil (SE.seq ?_)
 refine SC.condP rfl ?_ ?_
 ·intro hc27
  refine SC.seq (SC.region ?_)
  refine SL.val (Val.assign rfl) rfl rfl ?_
  refine SL.nil (SE.seq ?_)
  refine SC.ret ?_
  refine SE.then_ nofun ?_
  refine SE.ret ?_
  refine SE.then_ nofun ?_
  refine SE.then_ nofun ?_
  refine SE.ret ?_
  refine SE.then_ nofun ?_
  refine SE.fin (rs := [.tmp 2]) rfl (RV.tmp rfl RV.nil) (()) (by repeat first|exact s0_ _|exact s1_ _|apply s2_|apply s3_) (by simp [It.rids]) ?_
  rw [hst, if_pos (by simp_all <;> omega)]
  rfl
 intro hc27
 refine SC.skip ?_
 refine SE.seq ?_
 refine SC.region ?_
 refine SL.val (Val.fieldAddr tabOk rfl rfl rfl rfl rfl) rfl rfl ?_
 refine SL.val (Val.to (C := int (l[z.1]'hlt).seq) (Val.load1 tabOk rfl rfl (by repeat first|assumption|exact o0_|exact o1_|apply o2_) List.not_mem_nil (by rfl)) rfl) rfl rfl ?_
 refine SL.val (Val.assign rfl) rfl rfl ?_
 refine SL.nil ?_
 refine SE.inBlock ?_
 refine SE.seq ?_
 refine SC.region ?_
 first
  | refine SL.val (Val.addI rfl rfl (by simp only [InR, lo, hi]; omega)) rfl rfl ?_
  | refine SL.val (Val.addW rfl rfl) rfl rfl ?_
 refine SL.val (Val.move rfl) rfl rfl ?_
 refine SL.nil ?_
 refine SE.round (z.1 + 1, (l[z.1]'hlt).seq) (by first | omega | (dsimp only; omega)) (⟨by dsimp only; omega, by dsimp only; omega, by rw [if_neg (by simp_all <;> omega)] at hst; exact hst.symm⟩) (by exact ⟨rfl, rfl, rfl, rfl, trivial⟩) (by repeat first|exact s0_ _|exact s1_ _|apply s2_|apply s3_)
section
variable {a b : List Dd} {l : List (List Dd)}
set_option maxHeartbeats 1000000 in
theorem ragree_s (ha : ∀ d ∈ a, DdIns d) (hb : ∀ d ∈ b, DdIns d) (hal : ∀ d ∈ a, d.batch.length ≤ 1000) : Spec Try.prog 24 [ddsA a, ddsA b] [] (fun _ : Unit => []) (fun _ => boo (decide (sameD a b))) := by
 refine spec_of Try.func24 rfl Try.ntmps24 rfl fun G w => ?_
 refine SC.seq (SC.region ?_)
 refine SL.val (Val.assign rfl) rfl rfl ?_
 refine SL.nil (SE.seq ?_)
 refine SC.seq ?_
 refine SC.seq (SC.region ?_)
 refine SL.val (Val.move rfl) rfl rfl ?_
 first
  | refine SL.val (Val.lenSl rfl Try.underlying39 (List.length_map _)) rfl rfl ?_
  | refine SL.val (Val.lenOwn rfl (by repeat first|assumption|exact m0_|apply m1_) Try.underlying39 (List.length_map _)) rfl rfl ?_
  | refine SL.val (Val.lenNil rfl Try.underlying39) rfl rfl ?_
 refine SL.val (Val.move rfl) rfl rfl ?_
 refine SL.nil (SE.seq ?_)
 refine SC.block ?_
 refine SC.rowLe (i := 9) rfl fun hrow => ?_
 rw [List.length_map] at hrow
 unfold maxLen at hrow
 refine SC.loop (ι := Nat) (fun z => []) (fun z => [(1, ddsA b), (9, ddsA a), (10, int (a.length : Nat)), (11, int (z : Nat))]) (fun z => z ≤ a.length ∧ ∀ i (h : i < a.length), i < z → ∀ j (k : j < b.length), (a[i].adopted = false → b[j].adopted = false → a[i].seq = b[j].seq → a[i].batch = b[j].batch)) (fun z => a.length - z) (0) (⟨Nat.zero_le _, fun i h hi9 => by omega⟩) (by exact ⟨rfl, rfl, rfl, rfl, trivial⟩) (by repeat first|exact s0_ _|exact s1_ _|apply s2_|apply s3_) ?_
 intro z hz
 refine SC.seq (SC.region ?_)
 refine SL.val (Val.ltI rfl rfl) rfl rfl ?_
 refine SL.nil (SE.seq ?_)
 refine SC.seq ?_
 refine SC.condP rfl ?_ ?_
 rotate_left
 ·intro hc12
  refine SC.exit ?_
  refine SE.then_ nofun ?_
  refine SE.then_ nofun ?_
  refine SE.exit ?_
  refine SE.seq ?_
  refine SC.seq (SC.region ?_)
  refine SL.val (Val.assign rfl) rfl rfl ?_
  refine SL.nil (SE.seq ?_)
  refine SC.ret ?_
  refine SE.fin (rs := [.tmp 4]) rfl (RV.tmp rfl RV.nil) (()) (by repeat first|exact s0_ _|exact s1_ _|apply s2_|apply s3_) (by simp [It.rids]) ?_
  refine congrArg (fun b => Abs.v (Value.bool b)) (Eq.symm (decide_eq_true ?_))
  intro x hx y hy
  obtain ⟨i, h1, rfl⟩ := List.getElem_of_mem hx
  obtain ⟨j, h2, rfl⟩ := List.getElem_of_mem hy
  exact hz.2 i h1 (by omega) j h2
 intro hc12
 have hza : z < a.length := by omega
 refine SC.skip ?_
 refine SE.seq ?_
 refine SC.seq ?_
 refine SC.block ?_
 refine SC.seq (SC.region ?_)
 refine SL.val (Val.indexSl tabOk Try.underlying39 rfl rfl rfl rfl (at_map (by omega)) rfl rfl) rfl rfl ?_
 refine SL.val (Val.loadAR tabOk rfl rfl rfl (by rfl)) rfl rfl ?_
 refine SL.eff (Eff.alloc tabOk rfl) rfl rfl ?_
 rintro _ _ ⟨b6, rfl, rfl⟩
 refine SL.eff (Eff.store (L' := (a[z]'hza).abs) tabOk rfl rfl rfl (by repeat first|assumption|exact Upd.here|apply Upd.there) rfl (lb_ (by rfl)) rfl (by exact putL_whole rfl)) rfl rfl ?_
 rintro _ _ ⟨rfl, rfl⟩
 refine SL.nil (SE.seq ?_)
 refine SC.seq (SC.region ?_)
 refine SL.val (Val.move rfl) rfl rfl ?_
 first
  | refine SL.val (Val.lenSl rfl Try.underlying39 (List.length_map _)) rfl rfl ?_
  | refine SL.val (Val.lenOwn rfl (by repeat first|assumption|exact m0_|apply m1_) Try.underlying39 (List.length_map _)) rfl rfl ?_
  | refine SL.val (Val.lenNil rfl Try.underlying39) rfl rfl ?_
 refine SL.val (Val.move rfl) rfl rfl ?_
 refine SL.nil (SE.seq ?_)
 refine SC.block ?_
 refine SC.rowLe (i := 15) rfl fun hro2 => ?_
 rw [List.length_map] at hro2
 unfold maxLen at hro2
 refine SC.loop (ι := Nat) (fun y => [.blk b6 37 (a[z]'hza).abs]) (fun y => [(1, ddsA b), (6, ptr b6), (9, ddsA a), (10, int (a.length : Nat)), (11, int (z : Nat)), (15, ddsA b), (16, int (b.length : Nat)), (17, int (y : Nat))]) (fun y => y ≤ b.length ∧ ∀ j (k : j < b.length), j < y → ((a[z]'hza).adopted = false → b[j].adopted = false → (a[z]'hza).seq = b[j].seq → (a[z]'hza).batch = b[j].batch)) (fun y => b.length - y) (0) (⟨Nat.zero_le _, fun i h hi9 => by omega⟩) (by exact ⟨rfl, rfl, rfl, rfl, rfl, rfl, rfl, rfl, trivial⟩) (by repeat first|exact s0_ _|exact s1_ _|apply s2_|apply s3_) ?_
 intro y hy
 refine SC.seq (SC.region ?_)
 refine SL.val (Val.ltI rfl rfl) rfl rfl ?_
 refine SL.nil (SE.seq ?_)
 refine SC.seq ?_
 refine SC.condP rfl ?_ ?_
 rotate_left
 ·intro hc18
  refine SC.exit ?_
  refine SE.then_ nofun ?_
  refine SE.then_ nofun ?_
  refine SE.exit ?_
  refine SE.inBlock ?_
  refine SE.seq ?_
  refine SC.region ?_
  first
   | refine SL.val (Val.addI rfl rfl (by simp only [InR, lo, hi]; omega)) rfl rfl ?_
   | refine SL.val (Val.addW rfl rfl) rfl rfl ?_
  refine SL.val (Val.move rfl) rfl rfl ?_
  refine SL.nil ?_
  refine SE.round (z + 1) (by first | omega | (dsimp only; omega)) (⟨by omega, fun i h h2 => by rcases Nat.lt_or_ge i z with h3 | h3; exact hz.2 i h h3; obtain rfl : i = z := (by omega); exact fun j k => hy.2 j k (by omega)⟩) (by exact ⟨rfl, rfl, rfl, rfl, trivial⟩) (by repeat first|exact s0_ _|exact s1_ _|apply s2_|apply s3_)
 intro hc18
 have hyb : y < b.length := by omega
 refine SC.skip ?_
 refine SE.seq ?_
 refine SC.seq ?_
 refine SC.block ?_
 refine SC.seq (SC.region ?_)
 refine SL.val (Val.indexSl tabOk Try.underlying39 rfl rfl rfl rfl (at_map (by omega)) rfl rfl) rfl rfl ?_
 refine SL.val (Val.loadAR tabOk rfl rfl rfl (by rfl)) rfl rfl ?_
 refine SL.eff (Eff.alloc tabOk rfl) rfl rfl ?_
 rintro _ _ ⟨b8, rfl, rfl⟩
 refine SL.eff (Eff.store (L' := (b[y]'hyb).abs) tabOk rfl rfl rfl (by repeat first|assumption|exact Upd.here|apply Upd.there) rfl (lb_ (by rfl)) rfl (by exact putL_whole rfl)) rfl rfl ?_
 rintro _ _ ⟨rfl, rfl⟩
 refine SL.nil (SE.seq ?_)
 refine SC.seq (SC.region ?_)
 refine SL.val (Val.fieldAddr tabOk rfl rfl rfl rfl rfl) rfl rfl ?_
 refine SL.val (Val.to (C := int (a[z]'hza).seq) (Val.load1 tabOk rfl rfl (by repeat first|assumption|exact o0_|exact o1_|apply o2_) List.not_mem_nil (by rfl)) rfl) rfl rfl ?_
 refine SL.val (Val.fieldAddr tabOk rfl rfl rfl rfl rfl) rfl rfl ?_
 refine SL.val (Val.to (C := int (b[y]'hyb).seq) (Val.load1 tabOk rfl rfl (by repeat first|assumption|exact o0_|exact o1_|apply o2_) List.not_mem_nil (by rfl)) rfl) rfl rfl ?_
 refine SL.val (Val.eqI rfl rfl) rfl rfl ?_
 refine SL.val (Val.move rfl) rfl rfl ?_
 refine SL.bothP (t := 26) rfl ?_ ?_
 rotate_left
 ·intro hc26
  iterate 3 refine SL.skip rfl rfl ?_
  refine SL.val (Val.pickF rfl rfl) rfl rfl ?_
  refine SL.val (Val.move rfl) rfl rfl ?_
  iterate 3 refine SL.skip rfl rfl ?_
  refine SL.val (Val.pickF rfl rfl) rfl rfl ?_
  refine SL.val (Val.move rfl) rfl rfl ?_
  iterate 6 refine SL.skip rfl rfl ?_
  refine SL.val (Val.pickF rfl rfl) rfl rfl ?_
  refine SL.nil (SE.seq ?_)
  refine SC.condF rfl ?_
  refine SC.skip ?_
  refine SE.inBlock ?_
  refine SE.seq ?_
  refine SC.region ?_
  first
   | refine SL.val (Val.addI rfl rfl (by simp only [InR, lo, hi]; omega)) rfl rfl ?_
   | refine SL.val (Val.addW rfl rfl) rfl rfl ?_
  refine SL.val (Val.move rfl) rfl rfl ?_
  refine SL.nil ?_
  refine SE.round (y + 1) (by first | omega | (dsimp only; omega)) (⟨by omega, fun j k h2 => by rcases Nat.lt_or_ge j y with h3 | h3; exact hy.2 j k h3; obtain rfl : j = y := (by omega); intro g1 g2 g3; simp_all⟩) (by exact ⟨rfl, rfl, rfl, rfl, rfl, rfl, rfl, rfl, trivial⟩) (by repeat first|exact s0_ _|exact s1_ _|apply s2_|apply s3_)
 intro hc26
 refine SL.val (Val.fieldAddr tabOk rfl rfl rfl rfl rfl) rfl rfl ?_
 refine SL.val (Val.to (C := boo (a[z]'hza).adopted) (Val.load1 tabOk rfl rfl (by repeat first|assumption|exact o0_|exact o1_|apply o2_) List.not_mem_nil (by rfl)) rfl) rfl rfl ?_
 refine SL.val (Val.notB rfl) rfl rfl ?_
 refine SL.val (Val.pickT rfl rfl) rfl rfl ?_
 refine SL.val (Val.move rfl) rfl rfl ?_
 refine SL.both (t := 31) rfl ?_ ?_
 rotate_left
 ·intro hc31
  iterate 3 refine SL.skip rfl rfl ?_
  refine SL.val (Val.pickF rfl rfl) rfl rfl ?_
  refine SL.val (Val.move rfl) rfl rfl ?_
  iterate 6 refine SL.skip rfl rfl ?_
  refine SL.val (Val.pickF rfl rfl) rfl rfl ?_
  refine SL.nil (SE.seq ?_)
  refine SC.condF rfl ?_
  refine SC.skip ?_
  refine SE.inBlock ?_
  refine SE.seq ?_
  refine SC.region ?_
  first
   | refine SL.val (Val.addI rfl rfl (by simp only [InR, lo, hi]; omega)) rfl rfl ?_
   | refine SL.val (Val.addW rfl rfl) rfl rfl ?_
  refine SL.val (Val.move rfl) rfl rfl ?_
  refine SL.nil ?_
  refine SE.round (y + 1) (by first | omega | (dsimp only; omega)) (⟨by omega, fun j k h2 => by rcases Nat.lt_or_ge j y with h3 | h3; exact hy.2 j k h3; obtain rfl : j = y := (by omega); intro g1 g2 g3; simp_all⟩) (by exact ⟨rfl, rfl, rfl, rfl, rfl, rfl, rfl, rfl, trivial⟩) (by repeat first|exact s0_ _|exact s1_ _|apply s2_|apply s3_)
 intro hc31
 refine SL.val (Val.fieldAddr tabOk rfl rfl rfl rfl rfl) rfl rfl ?_
 refine SL.val (Val.to (C := boo (b[y]'hyb).adopted) (Val.load1 tabOk rfl rfl (by repeat first|assumption|exact o0_|exact o1_|apply o2_) List.not_mem_nil (by rfl)) rfl) rfl rfl ?_
 refine SL.val (Val.notB rfl) rfl rfl ?_
 refine SL.val (Val.pickT rfl rfl) rfl rfl ?_
 refine SL.val (Val.move rfl) rfl rfl ?_
 refine SL.both (t := 36) rfl ?_ ?_
 rotate_left
 ·intro hc36
  iterate 6 refine SL.skip rfl rfl ?_
  refine SL.val (Val.pickF rfl rfl) rfl rfl ?_
  refine SL.nil (SE.seq ?_)
  refine SC.condF rfl ?_
  refine SC.skip ?_
  refine SE.inBlock ?_
  refine SE.seq ?_
  refine SC.region ?_
  first
   | refine SL.val (Val.addI rfl rfl (by simp only [InR, lo, hi]; omega)) rfl rfl ?_
   | refine SL.val (Val.addW rfl rfl) rfl rfl ?_
  refine SL.val (Val.move rfl) rfl rfl ?_
  refine SL.nil ?_
  refine SE.round (y + 1) (by first | omega | (dsimp only; omega)) (⟨by omega, fun j k h2 => by rcases Nat.lt_or_ge j y with h3 | h3; exact hy.2 j k h3; obtain rfl : j = y := (by omega); intro g1 g2 g3; simp_all⟩) (by exact ⟨rfl, rfl, rfl, rfl, rfl, rfl, rfl, rfl, trivial⟩) (by repeat first|exact s0_ _|exact s1_ _|apply s2_|apply s3_)
 intro hc36
 refine SL.val (Val.fieldAddr tabOk rfl rfl rfl rfl rfl) rfl rfl ?_
 refine SL.val (Val.to (C := entsR (a[z]'hza).batch) (Val.load1 tabOk rfl rfl (by repeat first|assumption|exact o0_|exact o1_|apply o2_) List.not_mem_nil (by rfl)) rfl) rfl rfl ?_
 refine SL.val (Val.fieldAddr tabOk rfl rfl rfl rfl rfl) rfl rfl ?_
 refine SL.val (Val.to (C := entsR (b[y]'hyb).batch) (Val.load1 tabOk rfl rfl (by repeat first|assumption|exact o0_|exact o1_|apply o2_) List.not_mem_nil (by rfl)) rfl) rfl rfl ?_
 refine SL.call (rbsame_s (es := (a[z]'hza).batch) (fs := (b[y]'hyb).batch) (by have := hal _ (List.getElem_mem hza); omega) (fun e he => ((ha _ (List.getElem_mem hza)).batch e he).lits) (fun e he => ((hb _ (List.getElem_mem hyb)).batch e he).lits)) Casts.refl (by kernel_rfl) rfl rfl rfl ?_
 refine ap_ ?_
 intro _
 refine SL.val (Val.notP rfl) rfl rfl ?_
 refine SL.val (Val.pickT rfl rfl) rfl rfl ?_
 refine SL.nil (SE.seq ?_)
 refine SC.condP rfl ?_ ?_
 rotate_left
 ·intro hc43
  refine SC.skip ?_
  refine SE.inBlock ?_
  refine SE.seq ?_
  refine SC.region ?_
  first
   | refine SL.val (Val.addI rfl rfl (by simp only [InR, lo, hi]; omega)) rfl rfl ?_
   | refine SL.val (Val.addW rfl rfl) rfl rfl ?_
  refine SL.val (Val.move rfl) rfl rfl ?_
  refine SL.nil ?_
  refine SE.round (y + 1) (by first | omega | (dsimp only; omega)) (⟨by omega, fun j k h2 => by rcases Nat.lt_or_ge j y with h3 | h3; exact hy.2 j k h3; obtain rfl : j = y := (by omega); intro g1 g2 g3; simp_all⟩) (by exact ⟨rfl, rfl, rfl, rfl, rfl, rfl, rfl, rfl, trivial⟩) (by repeat first|exact s0_ _|exact s1_ _|apply s2_|apply s3_)
 intro hc43
 refine SC.seq (SC.region ?_)
 refine SL.val (Val.assign rfl) rfl rfl ?_
 refine SL.nil (SE.seq ?_)
 refine SC.ret ?_
 refine SE.ret ?_
 refine SE.then_ nofun ?_
 refine SE.then_ nofun ?_
 refine SE.ret ?_
 refine SE.ret ?_
 refine SE.then_ nofun ?_
 refine SE.then_ nofun ?_
 refine SE.ret ?_
 refine SE.then_ nofun ?_
 refine SE.fin (rs := [.tmp 4]) rfl (RV.tmp rfl RV.nil) (()) (by repeat first|exact s0_ _|exact s1_ _|apply s2_|apply s3_) (by simp [It.rids]) ?_
 refine boo_dec0 fun h => ?_
 have h9 := h _ (List.getElem_mem hza) _ (List.getElem_mem hyb)
 simp_all
end
end Go.Proofs.Ytiaeochlepkleaa.A
/-
  Watch: the program's rules.
-/
namespace Go.Proofs.Ytiaeochlepkleaa.A
open Go.RowKit

theorem int_in {a : Int} (h : i64ok a) : intOk a := h
def zvG : Value := .agg #[.int .i64 0, .int .i64 0, .int .i64 0, .int .i64 0, .int .i64 0, .int .i64 0, .slice none 0 0]
theorem zero_gl (w : World) : (zeroValue 41).run Try.prog w = .ok zvG w := by kernel_rfl
theorem zvG_rep (K : List Nat) (w : World) : rep K w (glA Gl.zero) zvG := ⟨_, rfl, _, _, rfl, rfl, _, _, rfl, rfl, _, _, rfl, rfl, _, _, rfl, rfl, _, _, rfl, rfl, _, _, rfl, rfl, _, _, rfl, rep_nil rfl, rfl⟩
theorem Dd.eq_iff {x y : Dd} : x = y ↔ x.seq = y.seq ∧ x.adopted = y.adopted ∧ x.batch = y.batch := by
  cases x; cases y
  simp only [Dd.mk.injEq]
  grind
section
variable {g : Gl} {x y : Dd} {a b : List Dd} {bw bm : Nat} {tm : List (Int × (Value × Gl))}
theorem wmarks_s (hgi : GlIns g) : Spec Try.prog 25 [ptr bw, glA g] [.rd bw 44 [mapV bm], .rdpc (factsPc (facM glA tm)), .rdpc (mapPc bm intK id intOk (rawM tm))] (fun _ : Unit => []) (fun _ => boo (marksF g)) := by
 refine spec_of Try.func25 rfl Try.ntmps25 rfl fun G w => ?_
 refine SC.seq (SC.region ?_)
 refine SL.eff (Eff.boxA (cs := g.abs) rfl) rfl rfl ?_
 rintro _ _ ⟨b3, rfl, rfl⟩
 refine SL.val (Val.assign rfl) rfl rfl ?_
 refine SL.nil (SE.seq ?_)
 refine SC.seq (SC.region ?_)
 refine SL.val (Val.fieldAddr tabOk rfl rfl rfl rfl rfl) rfl rfl ?_
 refine SL.val (Val.to (C := int g.slots) (Val.load1 tabOk rfl rfl (by repeat first|assumption|exact o0_|exact o1_|apply o2_) List.not_mem_nil (by rfl)) rfl) rfl rfl ?_
 refine SL.val (Val.gtI rfl rfl) rfl rfl ?_
 refine SL.val (Val.move rfl) rfl rfl ?_
 refine SL.bothP (t := 8) rfl ?_ ?_
 ·intro hc8
  iterate 5 refine SL.skip rfl rfl ?_
  refine SL.val (Val.pickT rfl rfl) rfl rfl ?_
  refine SL.val (Val.move rfl) rfl rfl ?_
  iterate 4 refine SL.skip rfl rfl ?_
  refine SL.val (Val.pickT rfl rfl) rfl rfl ?_
  refine SL.val (Val.assign rfl) rfl rfl ?_
  refine SL.nil (SE.seq ?_)
  refine SC.ret ?_
  refine SE.fin (rs := [.tmp 4]) rfl (RV.tmp rfl RV.nil) (()) (by repeat first|exact s0_ _|exact s1_ _|apply s2_|apply s3_) (by simp [It.rids]) ?_
  refine congrArg (fun b => Abs.v (Value.bool b)) ?_
  unfold marksF
  first
   | (simp_all; done)
   | (rw [decide_eq_false (p := g.slots > 8) (by omega), decide_eq_false (p := g.low > g.cur) (by omega)]; rfl)
 intro hc8
 refine SL.val (Val.fieldAddr tabOk rfl rfl rfl rfl rfl) rfl rfl ?_
 refine SL.val (Val.to (C := int g.low) (Val.load1 tabOk rfl rfl (by repeat first|assumption|exact o0_|exact o1_|apply o2_) List.not_mem_nil (by rfl)) rfl) rfl rfl ?_
 refine SL.val (Val.fieldAddr tabOk rfl rfl rfl rfl rfl) rfl rfl ?_
 refine SL.val (Val.to (C := int g.cur) (Val.load1 tabOk rfl rfl (by repeat first|assumption|exact o0_|exact o1_|apply o2_) List.not_mem_nil (by rfl)) rfl) rfl rfl ?_
 refine SL.val (Val.gtI rfl rfl) rfl rfl ?_
 refine SL.val (Val.pickF rfl rfl) rfl rfl ?_
 refine SL.val (Val.move rfl) rfl rfl ?_
 refine SL.bothP (t := 15) rfl ?_ ?_
 ·intro hc15
  iterate 4 refine SL.skip rfl rfl ?_
  refine SL.val (Val.pickT rfl rfl) rfl rfl ?_
  refine SL.val (Val.assign rfl) rfl rfl ?_
  refine SL.nil (SE.seq ?_)
  refine SC.ret ?_
  refine SE.fin (rs := [.tmp 4]) rfl (RV.tmp rfl RV.nil) (()) (by repeat first|exact s0_ _|exact s1_ _|apply s2_|apply s3_) (by simp [It.rids]) ?_
  refine congrArg (fun b => Abs.v (Value.bool b)) ?_
  unfold marksF
  first
   | (simp_all; done)
   | (rw [decide_eq_false (p := g.slots > 8) (by omega), decide_eq_false (p := g.low > g.cur) (by omega)]; rfl)
 intro hc15
 refine SL.val (Val.fieldAddr tabOk rfl rfl rfl rfl rfl) rfl rfl ?_
 refine SL.val (Val.to (C := int g.low) (Val.load1 tabOk rfl rfl (by repeat first|assumption|exact o0_|exact o1_|apply o2_) List.not_mem_nil (by rfl)) rfl) rfl rfl ?_
 refine SL.val (Val.remT rfl rfl (by decide)) rfl rfl ?_
 refine SL.val (Val.neI rfl rfl) rfl rfl ?_
 refine SL.val (Val.pickF rfl rfl) rfl rfl ?_
 refine SL.val (Val.assign rfl) rfl rfl ?_
 refine SL.nil (SE.seq ?_)
 refine SC.ret ?_
 refine SE.fin (rs := [.tmp 4]) rfl (RV.tmp rfl RV.nil) (()) (by repeat first|exact s0_ _|exact s1_ _|apply s2_|apply s3_) (by simp [It.rids]) ?_
 refine congrArg (fun b => Abs.v (Value.bool b)) ?_
 unfold marksF
 first
  | (simp_all; done)
  | (rw [decide_eq_false (p := g.slots > 8) (by omega), decide_eq_false (p := g.low > g.cur) (by omega)]; rfl)
theorem wsame_s (hx : DdIns x) (hy : DdIns y) (hl : x.batch.length ≤ 1000) : Spec Try.prog 36 [.agg x.abs, .agg y.abs] [] (fun _ : Unit => []) (fun _ => boo (decide (x = y))) := by
 refine spec_of Try.func36 rfl Try.ntmps36 rfl fun G w => ?_
 refine SC.seq (SC.region ?_)
 refine SL.eff (Eff.boxA (cs := x.abs) rfl) rfl rfl ?_
 rintro _ _ ⟨b2, rfl, rfl⟩
 refine SL.eff (Eff.boxA (cs := y.abs) rfl) rfl rfl ?_
 rintro _ _ ⟨b3, rfl, rfl⟩
 refine SL.val (Val.assign rfl) rfl rfl ?_
 refine SL.nil (SE.seq ?_)
 refine SC.seq (SC.region ?_)
 refine SL.val (Val.fieldAddr tabOk rfl rfl rfl rfl rfl) rfl rfl ?_
 refine SL.val (Val.to (C := int x.seq) (Val.load1 tabOk rfl rfl (by repeat first|assumption|exact o0_|exact o1_|apply o2_) List.not_mem_nil (by rfl)) rfl) rfl rfl ?_
 refine SL.val (Val.fieldAddr tabOk rfl rfl rfl rfl rfl) rfl rfl ?_
 refine SL.val (Val.to (C := int y.seq) (Val.load1 tabOk rfl rfl (by repeat first|assumption|exact o0_|exact o1_|apply o2_) List.not_mem_nil (by rfl)) rfl) rfl rfl ?_
 refine SL.val (Val.eqI rfl rfl) rfl rfl ?_
 refine SL.val (Val.move rfl) rfl rfl ?_
 refine SL.bothP (t := 10) rfl ?_ ?_
 rotate_left
 ·intro hc10
  iterate 5 refine SL.skip rfl rfl ?_
  refine SL.val (Val.pickF rfl rfl) rfl rfl ?_
  refine SL.val (Val.move rfl) rfl rfl ?_
  iterate 5 refine SL.skip rfl rfl ?_
  refine SL.val (Val.pickF rfl rfl) rfl rfl ?_
  refine SL.val (Val.assign rfl) rfl rfl ?_
  refine SL.nil (SE.seq ?_)
  refine SC.ret ?_
  refine SE.fin (rs := [.tmp 4]) rfl (RV.tmp rfl RV.nil) (()) (by repeat first|exact s0_ _|exact s1_ _|apply s2_|apply s3_) (by simp [It.rids]) ?_
  refine congrArg (fun b => Abs.v (Value.bool b)) ?_
  rw [show decide (x = y) = decide (x.seq = y.seq ∧ x.adopted = y.adopted ∧ x.batch = y.batch) from decide_eq_decide.2 Dd.eq_iff]
  simp_all
 intro hc10
 refine SL.val (Val.fieldAddr tabOk rfl rfl rfl rfl rfl) rfl rfl ?_
 refine SL.val (Val.to (C := boo x.adopted) (Val.load1 tabOk rfl rfl (by repeat first|assumption|exact o0_|exact o1_|apply o2_) List.not_mem_nil (by rfl)) rfl) rfl rfl ?_
 refine SL.val (Val.fieldAddr tabOk rfl rfl rfl rfl rfl) rfl rfl ?_
 refine SL.val (Val.to (C := boo y.adopted) (Val.load1 tabOk rfl rfl (by repeat first|assumption|exact o0_|exact o1_|apply o2_) List.not_mem_nil (by rfl)) rfl) rfl rfl ?_
 refine SL.val (Val.eqB rfl rfl (by kernel_rfl)) rfl rfl ?_
 refine SL.val (Val.pickT rfl rfl) rfl rfl ?_
 refine SL.val (Val.move rfl) rfl rfl ?_
 refine SL.both (t := 17) rfl ?_ ?_
 rotate_left
 ·intro hc17
  iterate 5 refine SL.skip rfl rfl ?_
  refine SL.val (Val.pickF rfl rfl) rfl rfl ?_
  refine SL.val (Val.assign rfl) rfl rfl ?_
  refine SL.nil (SE.seq ?_)
  refine SC.ret ?_
  refine SE.fin (rs := [.tmp 4]) rfl (RV.tmp rfl RV.nil) (()) (by repeat first|exact s0_ _|exact s1_ _|apply s2_|apply s3_) (by simp [It.rids]) ?_
  refine congrArg (fun b => Abs.v (Value.bool b)) ?_
  rw [show decide (x = y) = decide (x.seq = y.seq ∧ x.adopted = y.adopted ∧ x.batch = y.batch) from decide_eq_decide.2 Dd.eq_iff]
  simp_all
 intro hc17
 refine SL.val (Val.fieldAddr tabOk rfl rfl rfl rfl rfl) rfl rfl ?_
 refine SL.val (Val.to (C := entsR x.batch) (Val.load1 tabOk rfl rfl (by repeat first|assumption|exact o0_|exact o1_|apply o2_) List.not_mem_nil (by rfl)) rfl) rfl rfl ?_
 refine SL.val (Val.fieldAddr tabOk rfl rfl rfl rfl rfl) rfl rfl ?_
 refine SL.val (Val.to (C := entsR y.batch) (Val.load1 tabOk rfl rfl (by repeat first|assumption|exact o0_|exact o1_|apply o2_) List.not_mem_nil (by rfl)) rfl) rfl rfl ?_
 refine SL.call (bsame_s (es := x.batch) (fs := y.batch) (by omega) (fun e he => (hx.batch e he).lits) (fun e he => (hy.batch e he).lits)) Casts.refl (by kernel_rfl) rfl rfl rfl ?_
 refine ap_ ?_
 intro _
 refine SL.val (Val.pickT rfl rfl) rfl rfl ?_
 refine SL.val (Val.assign rfl) rfl rfl ?_
 refine SL.nil (SE.seq ?_)
 refine SC.ret ?_
 refine SE.fin (rs := [.tmp 4]) rfl (RV.tmp rfl RV.nil) (()) (by repeat first|exact s0_ _|exact s1_ _|apply s2_|apply s3_) (by simp [It.rids]) ?_
 refine congrArg (fun b => Abs.v (Value.bool b)) ?_
 rw [show decide (x = y) = decide (x.seq = y.seq ∧ x.adopted = y.adopted ∧ x.batch = y.batch) from decide_eq_decide.2 Dd.eq_iff]
 simp_all
theorem wequal_s (ha : ∀ d ∈ a, DdIns d) (hb : ∀ d ∈ b, DdIns d) (hal : ∀ d ∈ a, d.batch.length ≤ 1000) : Spec Try.prog 35 [ddsA a, ddsA b, .fn (.func 36) [] []] [] (fun _ : Unit => []) (fun _ => boo (decide (a = b))) := by
 refine spec_of Try.func35 rfl Try.ntmps35 rfl fun G w => ?_
 refine SC.seq (SC.region ?_)
 refine SL.val (Val.assign rfl) rfl rfl ?_
 refine SL.nil (SE.seq ?_)
 refine SC.seq ?_
 refine SC.seq (SC.region ?_)
 refine SL.val (Val.move rfl) rfl rfl ?_
 first
  | refine SL.val (Val.lenSl rfl Try.underlying39 (List.length_map _)) rfl rfl ?_
  | refine SL.val (Val.lenOwn rfl (by repeat first|assumption|exact m0_|apply m1_) Try.underlying39 (List.length_map _)) rfl rfl ?_
  | refine SL.val (Val.lenNil rfl Try.underlying39) rfl rfl ?_
 refine SL.val (Val.move rfl) rfl rfl ?_
 first
  | refine SL.val (Val.lenSl rfl Try.underlying39 (List.length_map _)) rfl rfl ?_
  | refine SL.val (Val.lenOwn rfl (by repeat first|assumption|exact m0_|apply m1_) Try.underlying39 (List.length_map _)) rfl rfl ?_
  | refine SL.val (Val.lenNil rfl Try.underlying39) rfl rfl ?_
 refine SL.val (Val.neI rfl rfl) rfl rfl ?_
 refine SL.nil (SE.seq ?_)
 refine SC.condP rfl ?_ ?_
 ·intro hc14
  refine SC.seq (SC.region ?_)
  refine SL.val (Val.assign rfl) rfl rfl ?_
  refine SL.nil (SE.seq ?_)
  refine SC.ret ?_
  refine SE.then_ nofun ?_
  refine SE.fin (rs := [.tmp 6]) rfl (RV.tmp rfl RV.nil) (()) (by repeat first|exact s0_ _|exact s1_ _|apply s2_|apply s3_) (by simp [It.rids]) ?_
  refine boo_dec0 fun h => ?_
  subst h
  omega
 intro hc14
 have hlen : a.length = b.length := by omega
 refine SC.skip ?_
 refine SE.seq ?_
 refine SC.seq ?_
 refine SC.seq (SC.region ?_)
 refine SL.val (Val.move rfl) rfl rfl ?_
 first
  | refine SL.val (Val.lenSl rfl Try.underlying39 (List.length_map _)) rfl rfl ?_
  | refine SL.val (Val.lenOwn rfl (by repeat first|assumption|exact m0_|apply m1_) Try.underlying39 (List.length_map _)) rfl rfl ?_
  | refine SL.val (Val.lenNil rfl Try.underlying39) rfl rfl ?_
 refine SL.val (Val.move rfl) rfl rfl ?_
 refine SL.nil (SE.seq ?_)
 refine SC.block ?_
 refine SC.rowLe (i := 15) rfl fun hrow => ?_
 rw [List.length_map] at hrow
 unfold maxLen at hrow
 refine SC.loop (ι := Nat) (fun z => []) (fun z => [(1, ddsA b), (2, .fn (.func 36) [] []), (15, ddsA a), (16, int (a.length : Nat)), (17, int (z : Nat))]) (fun z => z ≤ a.length ∧ ∀ j (h1 : j < a.length) (h2 : j < b.length), j < z → a[j] = b[j]) (fun z => a.length - z) (0) (⟨Nat.zero_le _, fun j h1 h2 h => by omega⟩) (by exact ⟨rfl, rfl, rfl, rfl, rfl, trivial⟩) (by repeat first|exact s0_ _|exact s1_ _|apply s2_|apply s3_) ?_
 intro z hz
 refine SC.seq (SC.region ?_)
 refine SL.val (Val.ltI rfl rfl) rfl rfl ?_
 refine SL.nil (SE.seq ?_)
 refine SC.seq ?_
 refine SC.condP rfl ?_ ?_
 rotate_left
 ·intro hc18
  refine SC.exit ?_
  refine SE.then_ nofun ?_
  refine SE.then_ nofun ?_
  refine SE.exit ?_
  refine SE.seq ?_
  refine SC.seq (SC.region ?_)
  refine SL.val (Val.assign rfl) rfl rfl ?_
  refine SL.nil (SE.seq ?_)
  refine SC.ret ?_
  refine SE.fin (rs := [.tmp 6]) rfl (RV.tmp rfl RV.nil) (()) (by repeat first|exact s0_ _|exact s1_ _|apply s2_|apply s3_) (by simp [It.rids]) ?_
  refine congrArg (fun b => Abs.v (Value.bool b)) (Eq.symm (decide_eq_true ?_))
  exact List.ext_getElem hlen fun j h1 h2 => hz.2 j h1 h2 (by omega)
 intro hc18
 have hza : z < a.length := by omega
 have hzb : z < b.length := by omega
 refine SC.skip ?_
 refine SE.seq ?_
 refine SC.seq ?_
 refine SC.block ?_
 refine SC.seq (SC.region ?_)
 refine SL.val (Val.move rfl) rfl rfl ?_
 refine SL.val (Val.indexSl tabOk Try.underlying39 rfl rfl rfl rfl (at_map (by omega)) rfl rfl) rfl rfl ?_
 refine SL.val (Val.loadAR tabOk rfl rfl rfl (by rfl)) rfl rfl ?_
 refine SL.eff (Eff.alloc tabOk rfl) rfl rfl ?_
 rintro _ _ ⟨b8, rfl, rfl⟩
 refine SL.val (Val.assign rfl) rfl rfl ?_
 refine SL.eff (Eff.store (L' := (a[z]'hza).abs) tabOk rfl rfl rfl (by repeat first|assumption|exact Upd.here|apply Upd.there) rfl (lb_ (by rfl)) rfl (by exact putL_whole rfl)) rfl rfl ?_
 rintro _ _ ⟨rfl, rfl⟩
 refine SL.nil (SE.seq ?_)
 refine SC.seq (SC.region ?_)
 iterate 2 refine SL.val (Val.move rfl) rfl rfl ?_
 refine SL.val (Val.indexSl tabOk Try.underlying39 rfl rfl rfl rfl (at_map (by omega)) rfl rfl) rfl rfl ?_
 refine SL.val (Val.loadAR tabOk rfl rfl rfl (by rfl)) rfl rfl ?_
 refine SL.eff (Eff.alloc tabOk rfl) rfl rfl ?_
 rintro _ _ ⟨b9, rfl, rfl⟩
 refine SL.eff (Eff.store (L' := (b[z]'hzb).abs) tabOk rfl rfl rfl (by repeat first|assumption|exact Upd.here|apply Upd.there) rfl (lb_ (by rfl)) rfl (by exact putL_whole rfl)) rfl rfl ?_
 rintro _ _ ⟨rfl, rfl⟩
 refine SL.nil (SE.seq ?_)
 refine SC.seq (SC.region ?_)
 refine SL.val (Val.move rfl) rfl rfl ?_
 refine SL.val (Val.to (C := .agg (a[z]'hza).abs) (Val.loadP tabOk rfl rfl rfl (by repeat first|assumption|exact o0_|exact o1_|apply o2_) List.not_mem_nil (lb_ (by rfl))) rfl) rfl rfl ?_
 refine SL.val (Val.to (C := .agg (b[z]'hzb).abs) (Val.loadP tabOk rfl rfl rfl (by repeat first|assumption|exact o0_|exact o1_|apply o2_) List.not_mem_nil (lb_ (by rfl))) rfl) rfl rfl ?_
 refine SL.callv (wsame_s (x := (a[z]'hza)) (y := (b[z]'hzb)) (ha _ (List.getElem_mem hza)) (hb _ (List.getElem_mem hzb)) (hal _ (List.getElem_mem hza))) rfl Casts.refl (by kernel_rfl) rfl rfl rfl ?_
 refine ap_ ?_
 intro _
 refine SL.val (Val.notP rfl) rfl rfl ?_
 refine SL.nil (SE.seq ?_)
 refine SC.condP rfl ?_ ?_
 rotate_left
 ·intro hc30
  refine SC.skip ?_
  refine SE.inBlock ?_
  refine SE.seq ?_
  refine SC.region ?_
  first
   | refine SL.val (Val.addI rfl rfl (by simp only [InR, lo, hi]; omega)) rfl rfl ?_
   | refine SL.val (Val.addW rfl rfl) rfl rfl ?_
  refine SL.val (Val.move rfl) rfl rfl ?_
  refine SL.nil ?_
  refine SE.round (z + 1) (by first | omega | (dsimp only; omega)) (⟨by omega, fun j h1 h2 h3 => by rcases Nat.lt_or_ge j z with h4 | h4; exact hz.2 j h1 h2 h4; obtain rfl : j = z := (by omega); simp_all⟩) (by exact ⟨rfl, rfl, rfl, rfl, rfl, trivial⟩) (by repeat first|exact s0_ _|exact s1_ _|apply s2_|apply s3_)
 intro hc30
 refine SC.seq (SC.region ?_)
 refine SL.val (Val.assign rfl) rfl rfl ?_
 refine SL.nil (SE.seq ?_)
 refine SC.ret ?_
 refine SE.ret ?_
 refine SE.then_ nofun ?_
 refine SE.then_ nofun ?_
 refine SE.ret ?_
 refine SE.then_ nofun ?_
 refine SE.fin (rs := [.tmp 6]) rfl (RV.tmp rfl RV.nil) (()) (by repeat first|exact s0_ _|exact s1_ _|apply s2_|apply s3_) (by simp [It.rids]) ?_
 refine boo_dec0 fun h => ?_
 subst h
 simp_all
theorem wback_s (hgi : GlIns g) : Spec Try.prog 26 [ptr bw, glA g] [.rd bw 44 [mapV bm], .rdpc (factsPc (facM glA tm)), .rdpc (mapPc bm intK id intOk (rawM tm))] (fun _ : Unit => []) (fun _ => boo (backO ((aget tm g.who).map (·.2)) g)) := by
 refine spec_of Try.func26 rfl Try.ntmps26 rfl fun G w => ?_
 refine SC.seq (SC.region ?_)
 refine SL.eff (Eff.boxA (cs := g.abs) rfl) rfl rfl ?_
 rintro _ _ ⟨b3, rfl, rfl⟩
 refine SL.val (Val.assign rfl) rfl rfl ?_
 refine SL.nil (SE.seq ?_)
 refine SC.seq ?_
 refine SC.draw [] (.q 0 (.q 1 (.q 2 (.q 3 (.q 4 (.q 5 (.q 6 (.q 7 (.q 8 (.q 9 (.e 10 (.e 11 (.q 12 .nil))))))))))))) (by kernel_rfl) (by kernel_rfl) ?_
 refine SX.val rfl (Val.move rfl) (by simp) rfl rfl ?_
 first
  | refine SX.val rfl (Val.nilCheck rfl) (by simp) rfl rfl ?_
  | refine SX.val rfl (Val.nilCheckR rfl) (by simp) rfl rfl ?_
 first
  | refine SX.val rfl (Val.fieldAddr tabOk rfl rfl rfl rfl rfl) (by simp) rfl rfl ?_
  | refine SX.val rfl (Val.fieldAddrR tabOk rfl rfl rfl rfl rfl) (by simp) rfl rfl ?_
 refine SX.hx (by first|(simp[mids,It.mids,ownPc];done)|(intro k hk;simp[mids,It.mids,ownPc] at hk ⊢;grind)) fun hx9 => ?_
 refine SX.val rfl (Val.to (C := mapV bm) (Val.load1 tabOk rfl rfl (by repeat first|assumption|exact o0_|exact o1_|apply o2_) List.not_mem_nil (by rfl)) rfl) hx9 rfl rfl ?_
 refine SX.val rfl (Val.fieldAddr tabOk rfl rfl rfl rfl rfl) (by simp) rfl rfl ?_
 refine SX.val rfl (Val.to (C := int g.who) (Val.load1 tabOk rfl rfl (by repeat first|assumption|exact o0_|exact o1_|apply o2_) List.not_mem_nil (by rfl)) rfl) hx9 rfl rfl ?_
 refine SX.val rfl (Val.mapGetOkT (a := g.who) (tm := tm) (enc := glA) (z0 := Gl.zero) (zv := zvG) (L := facM glA tm) (int_fit Try.underlying3) Try.underlying42 zero_gl zvG_rep rfl (by repeat first|assumption|exact o0_|exact o1_|apply o2_) (.inr (by repeat first|assumption|exact m0_|apply m1_)) (fun _ h => h) List.not_mem_nil rfl is_v (int_in hgi.who)) hx9 rfl rfl ?_
 refine SX.val rfl (Val.move rfl) (by simp) rfl rfl ?_
 refine SX.val rfl (Val.extract rfl rfl) (by simp) rfl rfl ?_
 refine SX.val rfl (Val.extract rfl rfl) (by simp) rfl rfl ?_
 refine SX.alloc tabOk rfl rfl rfl rfl fun b5 => ?_
 refine SX.eff rfl (Eff.store (L' := (((aget tm g.who).map (·.2)).getD Gl.zero).abs) tabOk rfl rfl rfl (by repeat first|assumption|exact Upd.here|apply Upd.there) rfl (lb_ (by rfl)) rfl (by exact putL_whole rfl)) (by simp) rfl rfl ?_
 rintro _ _ ⟨rfl, rfl⟩
 refine SX.hx (by first|(simp[mids,It.mids,ownPc];done)|(intro k hk;simp[mids,It.mids,ownPc] at hk ⊢;grind)) fun hx9 => ?_
 refine SX.val rfl (Val.assign rfl) hx9 rfl rfl ?_
 refine SX.nil (SE.seq ?_)
 refine SC.seq (SC.region ?_)
 iterate 2 refine SL.val (Val.move rfl) rfl rfl ?_
 refine SL.both (t := 18) rfl ?_ ?_
 rotate_left
 ·intro hc18
  iterate 26 refine SL.skip rfl rfl ?_
  refine SL.val (Val.pickF rfl rfl) rfl rfl ?_
  refine SL.val (Val.assign rfl) rfl rfl ?_
  refine SL.nil (SE.seq ?_)
  refine SC.ret ?_
  refine SE.fin (rs := [.tmp 4]) rfl (RV.tmp rfl RV.nil) (()) (by repeat first|exact s0_ _|exact s1_ _|apply s2_|apply s3_) (by simp [It.rids]) ?_
  refine congrArg (fun b => Abs.v (Value.bool b)) ?_
  cases hO : aget tm g.who with
  | none => simp_all [backO]
  | some v =>
   first
    | (simp_all [backO, lowB]; done)
    | (simp only [hO, Option.map_some, Option.getD_some, backO, lowB] at *; grind)
 intro hc18
 refine SL.val (Val.fieldAddr tabOk rfl rfl rfl rfl rfl) rfl rfl ?_
 refine SL.val (Val.to (C := int g.view) (Val.load1 tabOk rfl rfl (by repeat first|assumption|exact o0_|exact o1_|apply o2_) List.not_mem_nil (by rfl)) rfl) rfl rfl ?_
 refine SL.val (Val.fieldAddr tabOk rfl rfl rfl rfl rfl) rfl rfl ?_
 refine SL.val (Val.to (C := int (((aget tm g.who).map (·.2)).getD Gl.zero).view) (Val.load1 tabOk rfl rfl (by repeat first|assumption|exact o0_|exact o1_|apply o2_) List.not_mem_nil (by rfl)) rfl) rfl rfl ?_
 refine SL.val (Val.ltI rfl rfl) rfl rfl ?_
 refine SL.val (Val.move rfl) rfl rfl ?_
 refine SL.bothP (t := 24) rfl ?_ ?_
 ·intro hc24
  iterate 5 refine SL.skip rfl rfl ?_
  refine SL.val (Val.pickT rfl rfl) rfl rfl ?_
  refine SL.val (Val.move rfl) rfl rfl ?_
  iterate 5 refine SL.skip rfl rfl ?_
  refine SL.val (Val.pickT rfl rfl) rfl rfl ?_
  refine SL.val (Val.move rfl) rfl rfl ?_
  iterate 5 refine SL.skip rfl rfl ?_
  refine SL.val (Val.pickT rfl rfl) rfl rfl ?_
  refine SL.val (Val.pickT rfl rfl) rfl rfl ?_
  refine SL.val (Val.assign rfl) rfl rfl ?_
  refine SL.nil (SE.seq ?_)
  refine SC.ret ?_
  refine SE.fin (rs := [.tmp 4]) rfl (RV.tmp rfl RV.nil) (()) (by repeat first|exact s0_ _|exact s1_ _|apply s2_|apply s3_) (by simp [It.rids]) ?_
  refine congrArg (fun b => Abs.v (Value.bool b)) ?_
  cases hO : aget tm g.who with
  | none => simp_all [backO]
  | some v =>
   first
    | (simp_all [backO, lowB]; done)
    | (simp only [hO, Option.map_some, Option.getD_some, backO, lowB] at *; grind)
 intro hc24
 refine SL.val (Val.fieldAddr tabOk rfl rfl rfl rfl rfl) rfl rfl ?_
 refine SL.val (Val.to (C := int g.low) (Val.load1 tabOk rfl rfl (by repeat first|assumption|exact o0_|exact o1_|apply o2_) List.not_mem_nil (by rfl)) rfl) rfl rfl ?_
 refine SL.val (Val.fieldAddr tabOk rfl rfl rfl rfl rfl) rfl rfl ?_
 refine SL.val (Val.to (C := int (((aget tm g.who).map (·.2)).getD Gl.zero).low) (Val.load1 tabOk rfl rfl (by repeat first|assumption|exact o0_|exact o1_|apply o2_) List.not_mem_nil (by rfl)) rfl) rfl rfl ?_
 refine SL.val (Val.ltI rfl rfl) rfl rfl ?_
 refine SL.val (Val.pickF rfl rfl) rfl rfl ?_
 refine SL.val (Val.move rfl) rfl rfl ?_
 refine SL.bothP (t := 31) rfl ?_ ?_
 ·intro hc31
  iterate 5 refine SL.skip rfl rfl ?_
  refine SL.val (Val.pickT rfl rfl) rfl rfl ?_
  refine SL.val (Val.move rfl) rfl rfl ?_
  iterate 5 refine SL.skip rfl rfl ?_
  refine SL.val (Val.pickT rfl rfl) rfl rfl ?_
  refine SL.val (Val.pickT rfl rfl) rfl rfl ?_
  refine SL.val (Val.assign rfl) rfl rfl ?_
  refine SL.nil (SE.seq ?_)
  refine SC.ret ?_
  refine SE.fin (rs := [.tmp 4]) rfl (RV.tmp rfl RV.nil) (()) (by repeat first|exact s0_ _|exact s1_ _|apply s2_|apply s3_) (by simp [It.rids]) ?_
  refine congrArg (fun b => Abs.v (Value.bool b)) ?_
  cases hO : aget tm g.who with
  | none => simp_all [backO]
  | some v =>
   first
    | (simp_all [backO, lowB]; done)
    | (simp only [hO, Option.map_some, Option.getD_some, backO, lowB] at *; grind)
 intro hc31
 refine SL.val (Val.fieldAddr tabOk rfl rfl rfl rfl rfl) rfl rfl ?_
 refine SL.val (Val.to (C := int g.cur) (Val.load1 tabOk rfl rfl (by repeat first|assumption|exact o0_|exact o1_|apply o2_) List.not_mem_nil (by rfl)) rfl) rfl rfl ?_
 refine SL.val (Val.fieldAddr tabOk rfl rfl rfl rfl rfl) rfl rfl ?_
 refine SL.val (Val.to (C := int (((aget tm g.who).map (·.2)).getD Gl.zero).cur) (Val.load1 tabOk rfl rfl (by repeat first|assumption|exact o0_|exact o1_|apply o2_) List.not_mem_nil (by rfl)) rfl) rfl rfl ?_
 refine SL.val (Val.ltI rfl rfl) rfl rfl ?_
 refine SL.val (Val.pickF rfl rfl) rfl rfl ?_
 refine SL.val (Val.move rfl) rfl rfl ?_
 refine SL.bothP (t := 38) rfl ?_ ?_
 ·intro hc38
  iterate 5 refine SL.skip rfl rfl ?_
  refine SL.val (Val.pickT rfl rfl) rfl rfl ?_
  refine SL.val (Val.pickT rfl rfl) rfl rfl ?_
  refine SL.val (Val.assign rfl) rfl rfl ?_
  refine SL.nil (SE.seq ?_)
  refine SC.ret ?_
  refine SE.fin (rs := [.tmp 4]) rfl (RV.tmp rfl RV.nil) (()) (by repeat first|exact s0_ _|exact s1_ _|apply s2_|apply s3_) (by simp [It.rids]) ?_
  refine congrArg (fun b => Abs.v (Value.bool b)) ?_
  cases hO : aget tm g.who with
  | none => simp_all [backO]
  | some v =>
   first
    | (simp_all [backO, lowB]; done)
    | (simp only [hO, Option.map_some, Option.getD_some, backO, lowB] at *; grind)
 intro hc38
 refine SL.val (Val.fieldAddr tabOk rfl rfl rfl rfl rfl) rfl rfl ?_
 refine SL.val (Val.to (C := int g.drops) (Val.load1 tabOk rfl rfl (by repeat first|assumption|exact o0_|exact o1_|apply o2_) List.not_mem_nil (by rfl)) rfl) rfl rfl ?_
 refine SL.val (Val.fieldAddr tabOk rfl rfl rfl rfl rfl) rfl rfl ?_
 refine SL.val (Val.to (C := int (((aget tm g.who).map (·.2)).getD Gl.zero).drops) (Val.load1 tabOk rfl rfl (by repeat first|assumption|exact o0_|exact o1_|apply o2_) List.not_mem_nil (by rfl)) rfl) rfl rfl ?_
 refine SL.val (Val.ltI rfl rfl) rfl rfl ?_
 refine SL.val (Val.pickF rfl rfl) rfl rfl ?_
 refine SL.val (Val.pickT rfl rfl) rfl rfl ?_
 refine SL.val (Val.assign rfl) rfl rfl ?_
 refine SL.nil (SE.seq ?_)
 refine SC.ret ?_
 refine SE.fin (rs := [.tmp 4]) rfl (RV.tmp rfl RV.nil) (()) (by repeat first|exact s0_ _|exact s1_ _|apply s2_|apply s3_) (by simp [It.rids]) ?_
 refine congrArg (fun b => Abs.v (Value.bool b)) ?_
 cases hO : aget tm g.who with
 | none => simp_all [backO]
 | some v =>
  first
   | (simp_all [backO, lowB]; done)
   | (simp only [hO, Option.map_some, Option.getD_some, backO, lowB] at *; grind)
theorem wother_s (hgi : GlIns g) (hw : ∀ d ∈ (((aget tm g.who).map (·.2)).getD Gl.zero).deeds, DdIns d ∧ d.batch.length ≤ 1000) : Spec Try.prog 27 [ptr bw, glA g] [.rd bw 44 [mapV bm], .rdpc (factsPc (facM glA tm)), .rdpc (mapPc bm intK id intOk (rawM tm))] (fun _ : Unit => []) (fun _ => boo (otherO ((aget tm g.who).map (·.2)) g)) := by
 refine spec_of Try.func27 rfl Try.ntmps27 rfl fun G w => ?_
 refine SC.seq (SC.region ?_)
 refine SL.eff (Eff.boxA (cs := g.abs) rfl) rfl rfl ?_
 rintro _ _ ⟨b3, rfl, rfl⟩
 refine SL.val (Val.assign rfl) rfl rfl ?_
 refine SL.nil (SE.seq ?_)
 refine SC.seq ?_
 refine SC.draw [] (.q 0 (.q 1 (.q 2 (.q 3 (.q 4 (.q 5 (.q 6 (.q 7 (.q 8 .nil))))))))) (by kernel_rfl) (by kernel_rfl) ?_
 refine SX.val rfl (Val.move rfl) (by simp) rfl rfl ?_
 first
  | refine SX.val rfl (Val.nilCheck rfl) (by simp) rfl rfl ?_
  | refine SX.val rfl (Val.nilCheckR rfl) (by simp) rfl rfl ?_
 first
  | refine SX.val rfl (Val.fieldAddr tabOk rfl rfl rfl rfl rfl) (by simp) rfl rfl ?_
  | refine SX.val rfl (Val.fieldAddrR tabOk rfl rfl rfl rfl rfl) (by simp) rfl rfl ?_
 refine SX.hx (by first|(simp[mids,It.mids,ownPc];done)|(intro k hk;simp[mids,It.mids,ownPc] at hk ⊢;grind)) fun hx9 => ?_
 refine SX.val rfl (Val.to (C := mapV bm) (Val.load1 tabOk rfl rfl (by repeat first|assumption|exact o0_|exact o1_|apply o2_) List.not_mem_nil (by rfl)) rfl) hx9 rfl rfl ?_
 refine SX.val rfl (Val.fieldAddr tabOk rfl rfl rfl rfl rfl) (by simp) rfl rfl ?_
 refine SX.val rfl (Val.to (C := int g.who) (Val.load1 tabOk rfl rfl (by repeat first|assumption|exact o0_|exact o1_|apply o2_) List.not_mem_nil (by rfl)) rfl) hx9 rfl rfl ?_
 refine SX.val rfl (Val.mapGetT (a := g.who) (tm := tm) (enc := glA) (z0 := Gl.zero) (zv := zvG) (L := facM glA tm) (int_fit Try.underlying3) Try.underlying42 zero_gl zvG_rep rfl (by repeat first|assumption|exact o0_|exact o1_|apply o2_) (.inr (by repeat first|assumption|exact m0_|apply m1_)) (fun _ h => h) List.not_mem_nil rfl is_v (int_in hgi.who)) hx9 rfl rfl ?_
 refine SX.val rfl (Val.field1 tabOk rfl rfl rfl rfl rfl) (by simp) rfl rfl ?_
 refine SX.val rfl (Val.assign rfl) (by simp) rfl rfl ?_
 refine SX.nil (SE.seq ?_)
 refine SC.seq (SC.region ?_)
 refine SL.val (Val.move rfl) rfl rfl ?_
 refine SL.val (Val.lenSl (m := (((aget tm g.who).map (·.2)).getD Gl.zero).deeds.length) rfl Try.underlying39 (List.length_map _)) rfl rfl ?_
 refine SL.val (Val.fieldAddr tabOk rfl rfl rfl rfl rfl) rfl rfl ?_
 refine SL.val (Val.to (C := ddsA g.deeds) (Val.load1 tabOk rfl rfl (by repeat first|assumption|exact o0_|exact o1_|apply o2_) List.not_mem_nil (by rfl)) rfl) rfl rfl ?_
 refine SL.val (Val.lenSl (m := g.deeds.length) rfl Try.underlying39 (List.length_map _)) rfl rfl ?_
 refine SL.val (Val.gtI rfl rfl) rfl rfl ?_
 refine SL.val (Val.move rfl) rfl rfl ?_
 refine SL.bothP (t := 20) rfl ?_ ?_
 ·intro hc20
  iterate 8 refine SL.skip rfl rfl ?_
  refine SL.val (Val.pickT rfl rfl) rfl rfl ?_
  refine SL.val (Val.assign rfl) rfl rfl ?_
  refine SL.nil (SE.seq ?_)
  refine SC.ret ?_
  refine SE.fin (rs := [.tmp 4]) rfl (RV.tmp rfl RV.nil) (()) (by repeat first|exact s0_ _|exact s1_ _|apply s2_|apply s3_) (by simp [It.rids]) ?_
  refine congrArg (fun b => Abs.v (Value.bool b)) ?_
  unfold otherO
  rw [other_eq]
  first
   | (simp_all; done)
   | (simp_all; intro h; omega)
 intro hc20
 refine SL.val (Val.move rfl) rfl rfl ?_
 refine SL.val (Val.fieldAddr tabOk rfl rfl rfl rfl rfl) rfl rfl ?_
 refine SL.val (Val.to (C := ddsA g.deeds) (Val.load1 tabOk rfl rfl (by repeat first|assumption|exact o0_|exact o1_|apply o2_) List.not_mem_nil (by rfl)) rfl) rfl rfl ?_
 refine SL.val (Val.move rfl) rfl rfl ?_
 refine SL.val (Val.lenSl (m := (((aget tm g.who).map (·.2)).getD Gl.zero).deeds.length) rfl Try.underlying39 (List.length_map _)) rfl rfl ?_
 refine SL.val (Val.to (C := ddsA (g.deeds.take (((aget tm g.who).map (·.2)).getD Gl.zero).deeds.length)) (Val.sliceHi (q := (((aget tm g.who).map (·.2)).getD Gl.zero).deeds.length) tabOk Try.underlying39 rfl rfl rfl rfl rfl (by rw [List.length_map]; omega)) (congrArg (Abs.sl 3) List.map_take.symm)) rfl rfl ?_
 refine SL.call (wequal_s (a := (((aget tm g.who).map (·.2)).getD Gl.zero).deeds) (b := g.deeds.take (((aget tm g.who).map (·.2)).getD Gl.zero).deeds.length) (fun d hd => (hw d hd).1) (fun d hd => hgi.deeds d (List.mem_of_mem_take hd)) (fun d hd => (hw d hd).2)) Casts.refl (by kernel_rfl) rfl rfl rfl ?_
 refine ap_ ?_
 intro _
 refine SL.val (Val.notB rfl) rfl rfl ?_
 refine SL.val (Val.pickF rfl rfl) rfl rfl ?_
 refine SL.val (Val.assign rfl) rfl rfl ?_
 refine SL.nil (SE.seq ?_)
 refine SC.ret ?_
 refine SE.fin (rs := [.tmp 4]) rfl (RV.tmp rfl RV.nil) (()) (by repeat first|exact s0_ _|exact s1_ _|apply s2_|apply s3_) (by simp [It.rids]) ?_
 refine congrArg (fun b => Abs.v (Value.bool b)) ?_
 unfold otherO
 rw [other_eq]
 first
  | (simp_all; done)
  | (simp_all; intro h; omega)
theorem wgap_s (hgi : GlIns g) (hn : g.deeds.length ≤ 1000) : Spec Try.prog 28 [ptr bw, glA g] [.rd bw 44 [mapV bm], .rdpc (factsPc (facM glA tm)), .rdpc (mapPc bm intK id intOk (rawM tm))] (fun _ : Unit => []) (fun _ => boo (gapF g)) := by
 refine spec_of Try.func28 rfl Try.ntmps28 rfl fun G w => ?_
 refine SC.seq (SC.region ?_)
 refine SL.eff (Eff.boxA (cs := g.abs) rfl) rfl rfl ?_
 rintro _ _ ⟨b3, rfl, rfl⟩
 refine SL.val (Val.assign rfl) rfl rfl ?_
 refine SL.nil (SE.seq ?_)
 refine SC.seq ?_
 refine SC.seq (SC.region ?_)
 refine SL.val (Val.fieldAddr tabOk rfl rfl rfl rfl rfl) rfl rfl ?_
 refine SL.val (Val.to (C := ddsA g.deeds) (Val.load1 tabOk rfl rfl (by repeat first|assumption|exact o0_|exact o1_|apply o2_) List.not_mem_nil (by rfl)) rfl) rfl rfl ?_
 refine SL.val (Val.lenSl (m := g.deeds.length) rfl Try.underlying39 (List.length_map _)) rfl rfl ?_
 refine SL.val (Val.assign rfl) rfl rfl ?_
 refine SL.nil (SE.seq ?_)
 refine SC.seq (SC.region ?_)
 refine SL.val (Val.move rfl) rfl rfl ?_
 refine SL.val (Val.gtI rfl rfl) rfl rfl ?_
 refine SL.nil (SE.seq ?_)
 refine SC.condP rfl ?_ ?_
 rotate_left
 ·intro hc10
  have hnil : g.deeds = [] := List.length_eq_zero_iff.1 (by omega)
  refine SC.skip ?_
  refine SE.seq ?_
  refine SC.seq (SC.region ?_)
  refine SL.val (Val.fieldAddr tabOk rfl rfl rfl rfl rfl) rfl rfl ?_
  refine SL.val (Val.to (C := int g.cur) (Val.load1 tabOk rfl rfl (by repeat first|assumption|exact o0_|exact o1_|apply o2_) List.not_mem_nil (by rfl)) rfl) rfl rfl ?_
  refine SL.val (Val.neI rfl rfl) rfl rfl ?_
  refine SL.val (Val.assign rfl) rfl rfl ?_
  refine SL.nil (SE.seq ?_)
  refine SC.ret ?_
  refine SE.fin (rs := [.tmp 4]) rfl (RV.tmp rfl RV.nil) (()) (by repeat first|exact s0_ _|exact s1_ _|apply s2_|apply s3_) (by simp [It.rids]) ?_
  refine congrArg (fun b => Abs.v (Value.bool b)) ?_
  unfold gapF
  first
   | (rw [lastSeq_last hlt]; simp_all; done)
   | (rw [hnil]; simp [lastSeq, gapB, eq_comm]; done)
 intro hc10
 have hlt : g.deeds.length - 1 < g.deeds.length := by omega
 refine SC.seq ?_
 refine SC.draw [] (.q 0 (.q 1 (.q 2 (.q 3 (.q 4 (.q 5 (.q 6 (.q 7 (.q 8 (.q 9 (.q 10 (.q 11 (.q 12 (.e 13 (.q 14 (.q 15 (.q 16 .nil))))))))))))))))) (by kernel_rfl) (by kernel_rfl) ?_
 refine SX.val rfl (Val.fieldAddr tabOk rfl rfl rfl rfl rfl) (by simp) rfl rfl ?_
 refine SX.hx (by first|(simp[mids,It.mids,ownPc];done)|(intro k hk;simp[mids,It.mids,ownPc] at hk ⊢;grind)) fun hx9 => ?_
 refine SX.val rfl (Val.to (C := ddsA g.deeds) (Val.load1 tabOk rfl rfl (by repeat first|assumption|exact o0_|exact o1_|apply o2_) List.not_mem_nil (by rfl)) rfl) hx9 rfl rfl ?_
 refine SX.val rfl (Val.move rfl) (by simp) rfl rfl ?_
 refine SX.val rfl (Val.subNat (i := g.deeds.length) (j := 1) rfl rfl rfl (by omega) (by simp only [InR, lo, hi]; omega)) hx9 rfl rfl ?_
 refine SX.val rfl (Val.indexSl (q := g.deeds.length - 1) (cs := (g.deeds[g.deeds.length - 1]'hlt).abs) tabOk Try.underlying39 rfl rfl rfl rfl (at_map hlt) rfl rfl) hx9 rfl rfl ?_
 first
  | refine SX.val rfl (Val.fieldAddr tabOk rfl rfl rfl rfl rfl) (by simp) rfl rfl ?_
  | refine SX.val rfl (Val.fieldAddrR tabOk rfl rfl rfl rfl rfl) (by simp) rfl rfl ?_
 first
  | refine SX.val rfl (Val.load1R tabOk rfl rfl rfl) (by simp) rfl rfl ?_
  | refine SX.val rfl (Val.load1 tabOk rfl rfl (by repeat first|assumption|exact o0_|exact o1_|apply o2_) List.not_mem_nil (by rfl)) (by simp) rfl rfl ?_
 refine SX.val rfl (Val.fieldAddr tabOk rfl rfl rfl rfl rfl) (by simp) rfl rfl ?_
 refine SX.val rfl (Val.to (C := int g.cur) (Val.load1 tabOk rfl rfl (by repeat first|assumption|exact o0_|exact o1_|apply o2_) List.not_mem_nil (by rfl)) rfl) hx9 rfl rfl ?_
 refine SX.val rfl (Val.neI rfl rfl) (by simp) rfl rfl ?_
 refine SX.val rfl (Val.move rfl) (by simp) rfl rfl ?_
 refine SX.bothP (t := 21) rfl ?_ ?_
 ·intro hc21
  iterate 2 refine SX.skip rfl rfl rfl ?_
  refine SX.skip' rfl rfl rfl ?_
  refine SX.skip rfl rfl rfl ?_
  refine SX.val rfl (Val.pickT rfl rfl) (by simp) rfl rfl ?_
  refine SX.val rfl (Val.assign rfl) (by simp) rfl rfl ?_
  refine SX.nil (SE.seq ?_)
  refine SC.ret ?_
  refine SE.then_ nofun ?_
  refine SE.fin (rs := [.tmp 4]) rfl (RV.tmp rfl RV.nil) (()) (by repeat first|exact s0_ _|exact s1_ _|apply s2_|apply s3_) (by simp [It.rids]) ?_
  refine congrArg (fun b => Abs.v (Value.bool b)) ?_
  unfold gapF
  first
   | (rw [lastSeq_last hlt]; simp_all; done)
   | (rw [hnil]; simp [lastSeq, gapB, eq_comm]; done)
 intro hc21
 refine SX.val rfl (Val.fieldAddr tabOk rfl rfl rfl rfl rfl) (by simp) rfl rfl ?_
 refine SX.val rfl (Val.to (C := ddsA g.deeds) (Val.load1 tabOk rfl rfl (by repeat first|assumption|exact o0_|exact o1_|apply o2_) List.not_mem_nil (by rfl)) rfl) hx9 rfl rfl ?_
 refine SX.call rfl (gap_s (l := g.deeds) hgi.deeds) (by simp [mids, It.mids]) Casts.refl (by kernel_rfl) rfl rfl rfl ?_
 refine ap_ ?_
 intro _
 refine SX.val rfl (Val.notB rfl) (by simp) rfl rfl ?_
 refine SX.val rfl (Val.pickF rfl rfl) (by simp) rfl rfl ?_
 refine SX.val rfl (Val.assign rfl) (by simp) rfl rfl ?_
 refine SX.nil (SE.seq ?_)
 refine SC.ret ?_
 refine SE.then_ nofun ?_
 refine SE.fin (rs := [.tmp 4]) rfl (RV.tmp rfl RV.nil) (()) (by repeat first|exact s0_ _|exact s1_ _|apply s2_|apply s3_) (by simp [It.rids]) ?_
 refine congrArg (fun b => Abs.v (Value.bool b)) ?_
 unfold gapF
 first
  | (rw [lastSeq_last hlt]; simp_all; done)
  | (rw [hnil]; simp [lastSeq, gapB, eq_comm]; done)
end
end Go.Proofs.Ytiaeochlepkleaa.A
/-
  The second engine: 'for k := range m', with entries struck in the rounds: the map and its iterator as one piece.
-/
namespace Go.Proofs.Ytiaeochlepkleaa.A
open Go.RowKit

/-- The map m in block b, ranged by the iterator in block r: of its entries 'rest' is still to come; 'cur' came last. -/
structure Rng {α β : Type} (w : World) (b r : Nat) (K : α → Value) (V : β → Value) (Good : α → Prop) (m rest : List (α × β)) (cur : Option (α × β)) (es : Array MapEntry) (clock since : Nat) (seen : Array Nat) (c0 : Nat) : Prop where
  hb : w.heap[b]? = some (.map es clock)
  he : es.toList.map (fun e => (e.key, e.val)) = m.map (fun p => (K p.1, V p.2))
  nd : (m.map (·.1)).Nodup
  good : ∀ p ∈ m, Good p.1
  born : ∀ e ∈ es.toList, e.born < clock
  bnd : (es.toList.map (·.born)).Nodup
  hr : w.heap[r]? = some (.mapIter (some b) since seen c0)
  old : ∀ e ∈ es.toList, e.born < since
  le : since ≤ c0
  le2 : since ≤ clock
  left : ∀ p, p ∈ rest ↔ ∃ (j : Nat) (e : MapEntry), m[j]? = some p ∧ es.toList[j]? = some e ∧ seen.contains e.born = false
  last : ∀ p, cur = some p → c0 = clock ∧ ∃ (e : MapEntry) (s' : Array Nat), e ∈ es.toList ∧ e.key = K p.1 ∧ e.val = V p.2 ∧ seen = s'.push e.born
def rngPc {α β : Type} (b r : Nat) (K : α → Value) (V : β → Value) (Good : α → Prop) (m rest : List (α × β)) (cur : Option (α × β)) : Pc where
  ids := [b, r]
  p := fun _ w => r ≠ b ∧ ∃ es clock since seen c0, Rng w b r K V Good m rest cur es clock since seen c0
  carry := fun _ _ _ _ _ hs ⟨hn, es, clock, since, seen, c0, h⟩ => ⟨hn, es, clock, since, seen, c0, { h with hb := (hs b (by simp)).trans h.hb, hr := (hs r (by simp)).trans h.hr }⟩
  lt := fun _ w ⟨_, es, clock, since, seen, c0, h⟩ k hk => by
    simp at hk
    rcases hk with rfl | rfl
    · exact heap_lt h.hb
    · exact heap_lt h.hr
theorem ex_map {w : World} {b : Nat} {o : Obj} (hb : b < w.heap.size) : Ext [b] w (Go.ChangeMaps.setBlock w b o) :=
  ⟨rfl, rfl, rfl, by simp [Go.ChangeMaps.setBlock], fun k _ hn => by
    have : b ≠ k := fun h => hn (by simp [h])
    simp [Go.ChangeMaps.setBlock, Array.getElem?_setIfInBounds_ne this]⟩
theorem sb_same {w : World} {b : Nat} {o : Obj} (hb : b < w.heap.size) : (Go.ChangeMaps.setBlock w b o).heap[b]? = some o := by
  simp [Go.ChangeMaps.setBlock, Array.getElem?_setIfInBounds_self, hb]
theorem sb_other {w : World} {b k : Nat} {o : Obj} (h : b ≠ k) : (Go.ChangeMaps.setBlock w b o).heap[k]? = w.heap[k]? := by
  simp [Go.ChangeMaps.setBlock, Array.getElem?_setIfInBounds_ne h]
section
variable {α β : Type} {w : World} {b r : Nat} {K : α → Value} {V : β → Value} {Good : α → Prop} {m rest : List (α × β)} {cur : Option (α × β)} {es : Array MapEntry} {clock since : Nat} {seen : Array Nat} {c0 : Nat}
theorem enc_len {es : List MapEntry} (h : es.map (fun e => (e.key, e.val)) = m.map (fun p => (K p.1, V p.2))) : es.length = m.length := by
  have h3 := congrArg List.length h
  simpa using h3
theorem enc_at {es : List MapEntry} (h : es.map (fun e => (e.key, e.val)) = m.map (fun p => (K p.1, V p.2))) {j : Nat} {e : MapEntry} {p : α × β} (he : es[j]? = some e) (hp : m[j]? = some p) : e.key = K p.1 ∧ e.val = V p.2 := by
  have h1 : (es.map (fun e => (e.key, e.val)))[j]? = (m.map (fun p => (K p.1, V p.2)))[j]? := by rw [h]
  rw [List.getElem?_map, List.getElem?_map, he, hp] at h1
  simpa using h1
theorem nd_at {l : List (α × β)} (h : (l.map (·.1)).Nodup) {i j : Nat} {p q : α × β} (hi : l[i]? = some p) (hj : l[j]? = some q) : p.1 = q.1 ↔ i = j := by
  have hi2 : (l.map (·.1))[i]? = some p.1 := by rw [List.getElem?_map, hi]; rfl
  have hj2 : (l.map (·.1))[j]? = some q.1 := by rw [List.getElem?_map, hj]; rfl
  constructor
  · intro e
    have hlt : i < (l.map (·.1)).length := (List.getElem?_eq_some_iff.1 hi2).1
    exact (List.getElem?_inj hlt h).1 (by rw [hi2, hj2, e])
  · rintro rfl
    rw [hi] at hj
    cases hj
    rfl
theorem bn_at {l : List MapEntry} (h : (l.map (·.born)).Nodup) {i j : Nat} {p q : MapEntry} (hi : l[i]? = some p) (hj : l[j]? = some q) : p.born = q.born ↔ i = j := by
  have hi2 : (l.map (·.born))[i]? = some p.born := by rw [List.getElem?_map, hi]; rfl
  have hj2 : (l.map (·.born))[j]? = some q.born := by rw [List.getElem?_map, hj]; rfl
  constructor
  · intro e
    have hlt : i < (l.map (·.born)).length := (List.getElem?_eq_some_iff.1 hi2).1
    exact (List.getElem?_inj hlt h).1 (by rw [hi2, hj2, e])
  · rintro rfl
    rw [hi] at hj
    cases hj
    rfl
theorem Rng.sub (h : Rng w b r K V Good m rest cur es clock since seen c0) : ∀ p ∈ rest, p ∈ m := fun p hp => by
  obtain ⟨j, e, h1, _⟩ := (h.left p).1 hp
  exact List.mem_of_getElem? h1
theorem Rng.map (h : Rng w b r K V Good m rest cur es clock since seen c0) : MapOf w b K V Good m := ⟨es, clock, h.hb, h.he, h.nd, h.good, h.born, h.bnd⟩
/-- The step. -/
theorem Rng.next [DecidableEq α] {P : Program} (hne : r ≠ b) (h : Rng w b r K V Good m rest cur es clock since seen c0) (ty : TypeId) :
    (rest = [] ∧ (Instr.next (.pointer (some ⟨r, 0, none⟩)) false ty).run P w = .ok (.tuple #[.bool false]) w) ∨
    ∃ p ∈ rest, ∃ w', (Instr.next (.pointer (some ⟨r, 0, none⟩)) false ty).run P w = .ok (.tuple #[.bool true, K p.1, V p.2]) w' ∧ Ext [b, r] w w' ∧
      ∃ seen' c0', Rng w' b r K V Good m (rest.filter fun q => decide (q.1 ≠ p.1)) (some p) es clock since seen' c0' := by
  have hmem : ∀ e, e ∈ (leftOf es seen).toList ↔ e ∈ es.toList ∧ seen.contains e.born = false := fun e => by
    unfold leftOf
    rw [Array.toList_filter, List.mem_filter]
    cases seen.contains e.born <;> simp
  rcases run_next_at (P := P) w ty r b since c0 seen es clock h.hr h.hb h.old h.le with ⟨h0, hrun⟩ | ⟨e, he, w1, hw1, hrun⟩
  · refine .inl ⟨?_, hrun⟩
    rw [List.eq_nil_iff_forall_not_mem]
    intro p hp
    obtain ⟨j, e, _, h2, h3⟩ := (h.left p).1 hp
    have h4 := (hmem e).2 ⟨List.mem_of_getElem? h2, h3⟩
    have h5 : (leftOf es seen).toList = [] := List.length_eq_zero_iff.1 (by simpa using h0)
    rw [h5] at h4
    cases h4
  · obtain ⟨h1, h2⟩ := (hmem e).1 he
    obtain ⟨j, hj⟩ := List.getElem?_of_mem h1
    have hjl : j < es.toList.length := (List.getElem?_eq_some_iff.1 hj).1
    have hjm : j < m.length := by rw [← enc_len h.he]; exact hjl
    obtain ⟨p, hp⟩ : ∃ p, m[j]? = some p := ⟨_, List.getElem?_eq_getElem hjm⟩
    obtain ⟨hk, hv⟩ := enc_at h.he hj hp
    have hheap : w1.heap = w.heap := by rcases hw1 with rfl | rfl <;> rfl
    have hx1 : Ext [] w w1 := by
      rcases hw1 with rfl | rfl
      · exact Ext.refl _
      · exact (Ext.refl _).drew
    have hrl : r < w1.heap.size := by rw [hheap]; exact heap_lt h.hr
    refine .inr ⟨p, (h.left p).2 ⟨j, e, hp, hj, h2⟩, _, by rw [← hk, ← hv]; exact hrun, ?_, _, _, ⟨?_, h.he, h.nd, h.good, h.born, h.bnd, sb_same hrl, h.old, ?_, ?_, ?_, ?_⟩⟩
    · refine ⟨(ex_map hrl).os.trans hx1.os, (ex_map hrl).tape.trans hx1.tape, (ex_map hrl).output.trans hx1.output, Nat.le_trans hx1.size (ex_map hrl).size, fun k hk2 hn => ?_⟩
      rw [(ex_map hrl).block k (by rw [hheap]; exact hk2) (fun hk3 => hn (by simp at hk3; simp [hk3])), hheap]
    · rw [sb_other hne, hheap]
      exact h.hb
    · exact h.le2
    · exact h.le2
    · intro q
      rw [List.mem_filter, h.left q, decide_eq_true_eq]
      constructor
      · rintro ⟨⟨i, e', h3, h4, h5⟩, h6⟩
        refine ⟨i, e', h3, h4, ?_⟩
        rw [Array.contains_push, h5, Bool.false_or, beq_eq_false_iff_ne]
        intro e6
        exact h6 ((nd_at h.nd h3 hp).2 ((bn_at h.bnd h4 hj).1 e6))
      · rintro ⟨i, e', h3, h4, h5⟩
        rw [Array.contains_push, Bool.or_eq_false_iff, beq_eq_false_iff_ne] at h5
        refine ⟨⟨i, e', h3, h4, h5.1⟩, fun e6 => h5.2 ?_⟩
        exact (bn_at h.bnd h4 hj).2 ((nd_at h.nd h3 hp).1 e6)
    · intro p' hp'
      cases hp'
      exact ⟨rfl, e, seen, h1, hk, hv, rfl⟩
end
section
variable {P : Program} {n : Nat} {W : Wd} {σ τ : Blks} {l : Slots} {X : List Nat} {x y z : Operand} {d : Option Nat} {ty t k e : TypeId} {pos : String} {aft : Array Edge} {g : Option (Nat × Bool)} {b r : Nat} {A B C : Abs}
variable {α β : Type} [DecidableEq α] {K : α → Value} {V : β → Value} {Good : α → Prop} {m rest : List (α × β)} {cur : Option (α × β)} {a : α} {p : α × β} {Q : Exit → Act → World → Prop}
omit [DecidableEq α] in
/-- 'range m'. -/
theorem Eff.rangeMap {τ : Nat → Blks} (ht : P.underlying t = some (.map k e)) (hx : look l x = some (mapV b)) (hu : ∀ r, Upd (.pc (mapPc b K V Good m)) (.pc (rngPc b r K V Good m m none)) σ (τ r)) :
    Eff P n W σ l [b] ⟨d, .range t x, ty, pos, aft, g⟩ fun u τ' => ∃ r : Nat, u = .v (.pointer (some ⟨r, 0, none⟩)) ∧ τ' = τ r := fun ac w hs => by
  have h1 : MapOf w b K V Good m := hs.mem.hold _ (hu 0).mem
  obtain ⟨es, clock, hb, he, hnd, hg, hborn, hbnd⟩ := h1
  have hbl := heap_lt hb
  have hne : w.heap.size ≠ b := by omega
  have hx2 : Ext [b] w (w.alloc (.mapIter (some b) clock #[] clock)) := (Ext.new w _).mono (by simp)
  have hal : ∀ k, k < w.heap.size → (w.alloc (.mapIter (some b) clock #[] clock)).heap[k]? = w.heap[k]? := fun k hk => (Ext.new w _).block k hk (by simp)
  have h4 := hs.mem.upd (hu w.heap.size) (hx2.mono (by simp [It.mids, mapPc])) (by simp [It.mids, rngPc, Ne.symm hne]) (fun k hk => by
      simp [It.mids, rngPc] at hk
      rcases hk with rfl | rfl
      · exact .inl (by simp [It.mids, mapPc])
      · exact .inr (Nat.le_refl _)) rfl (fun _ => ⟨hne, es, clock, clock, #[], clock, (hal b hbl).trans hb, he, hnd, hg, hborn, hbnd, heap_alloc_new w _, hborn, Nat.le_refl _, Nat.le_refl _, fun p => ?_, fun p hp => by cases hp⟩)
  · refine ⟨.pointer (some ⟨w.heap.size, 0, none⟩), _, _, _, ⟨_, rfl, rfl⟩, hx2, rfl, h4.1, h4.2, .inl ?_⟩
    simp [execOp, hs.plain hx, run_range_map w t k e b es clock ht hb, Sem.run_bind, Result.andThen]
  · constructor
    · intro hp
      obtain ⟨j, hj⟩ := List.getElem?_of_mem hp
      have hjl : j < es.toList.length := by rw [enc_len he]; exact (List.getElem?_eq_some_iff.1 hj).1
      exact ⟨j, _, hj, List.getElem?_eq_getElem hjl, by simp⟩
    · rintro ⟨j, e, h1, _⟩
      exact List.mem_of_getElem? h1
/-- One step of it. -/
theorem Eff.nextMap {τ : List (α × β) → Option (α × β) → Blks} (hx : look l x = some (.v (.pointer (some ⟨r, 0, none⟩)))) (hu : ∀ rest' cur', Upd (.pc (rngPc b r K V Good m rest cur)) (.pc (rngPc b r K V Good m rest' cur')) σ (τ rest' cur')) :
    Eff P n W σ l [b, r] ⟨d, .next x false, ty, pos, aft, g⟩ fun u τ' => ∃ (o : Option (α × β)) (rest' : List (α × β)), (o = none → rest = []) ∧ (∀ p, o = some p → p ∈ rest ∧ rest' = rest.filter fun q => decide (q.1 ≠ p.1)) ∧
      u = .tup (.v (.bool o.isSome) :: (match o with | none => [] | some p => [.v (K p.1), .v (V p.2)])) ∧ τ' = τ rest' o := fun ac w hs => by
  obtain ⟨hne, es, clock, since, seen, c0, h⟩ : (rngPc b r K V Good m rest cur).p _ w := hs.mem.hold _ (hu [] none).mem
  have hnd : (It.pc (rngPc b r K V Good m rest cur)).mids.Nodup := by simp [It.mids, rngPc, Ne.symm hne]
  rcases h.next (P := P) hne ty with ⟨h0, hrun⟩ | ⟨p, hp, w', hrun, hx2, seen', c0', h'⟩
  · have h4 := hs.mem.upd (hu rest none) (Ext.refl w) hnd (fun k hk => .inl hk) rfl (fun hc => (rngPc b r K V Good m rest none).carry _ _ _ _ hc (fun _ _ => rfl) ⟨hne, es, clock, since, seen, c0, { h with last := fun p hp => by cases hp }⟩)
    refine ⟨.tuple #[.bool false], w, _, _, ⟨none, rest, fun _ => h0, fun p hp => (by cases hp), rfl, rfl⟩, Ext.refl w, ⟨[.bool false], rfl, _, _, rfl, rfl, rfl⟩, h4.1, h4.2, .inl ?_⟩
    simp [execOp, hs.plain hx, hrun, Sem.run_bind, Result.andThen]
  · have h4 := hs.mem.upd (hu _ (some p)) (hx2.mono (by simp [It.mids, rngPc])) hnd (fun k hk => .inl hk) rfl (fun hc => ⟨hne, es, clock, since, seen', c0', h'⟩)
    refine ⟨.tuple #[.bool true, K p.1, V p.2], w', _, _, ⟨some p, _, fun h => (by cases h), fun q hq => (by cases hq; exact ⟨hp, rfl⟩), rfl, rfl⟩, hx2, ⟨[.bool true, K p.1, V p.2], rfl, _, _, rfl, rfl, _, _, rfl, rfl, _, _, rfl, rfl, rfl⟩, h4.1, h4.2, .inl ?_⟩
    simp [execOp, hs.plain hx, hrun, Sem.run_bind, Result.andThen]
omit [DecidableEq α] in
/-- The entry that came last. -/
theorem Val.entryMap (hx : look l x = some (.v (.pointer (some ⟨r, 0, none⟩)))) (hb : It.pc (rngPc b r K V Good m rest (some p)) ∈ σ) (hX : b ∉ X ∧ r ∉ X) : Val P n W σ l X ⟨d, .entry x, ty, pos, aft, g⟩ (.tup [.v (K p.1), .v (V p.2)]) := fun ac w hs _ => by
  obtain ⟨hne, es, clock, since, seen, c0, h⟩ : (rngPc b r K V Good m rest (some p)).p _ w := hs.mem.hold _ hb
  obtain ⟨rfl, e, s', he, hk, hv, rfl⟩ := h.last p rfl
  refine ⟨.tuple #[K p.1, V p.2], ⟨[K p.1, V p.2], rfl, _, _, rfl, rfl, _, _, rfl, rfl, rfl⟩, fun w' hw' => ?_⟩
  have h1 := run_entry_at (P := P) w' r b since s' es c0 e ((hw'.block r (heap_lt h.hr) hX.2).trans h.hr) ((hw'.block b (heap_lt h.hb) hX.1).trans h.hb) he h.bnd
  rw [hk, hv] at h1
  simp [execOp, hs.plain hx, h1, Sem.run_bind, Result.andThen]
omit [DecidableEq α] in
/-- The range is over. -/
theorem SC.rngDone {c : Code} (hu : Upd (.pc (rngPc b r K V Good m rest cur)) (.pc (mapPc b K V Good m)) σ τ) (q : SC P c (St n W τ l) Q) : SC P c (St n W σ l) Q := fun ac w hs => by
  obtain ⟨hne, es, clock, since, seen, c0, h⟩ : (rngPc b r K V Good m rest cur).p _ w := hs.mem.hold _ hu.mem
  have h4 := hs.mem.upd hu (Ext.refl w) (by simp [It.mids, mapPc]) (fun k hk => .inl (by simp [It.mids, mapPc, rngPc] at hk ⊢; exact .inl hk)) rfl (fun _ => h.map)
  exact q ac w (hs.to h4.1 h4.2)
theorem rest_less (h : p ∈ rest) : (rest.filter fun q => decide (q.1 ≠ p.1)).length < rest.length := List.length_filter_lt_length_iff_exists.2 ⟨p, h, by simp⟩
end
end Go.Proofs.Ytiaeochlepkleaa.A
/-
  Agree: whether two agree.
-/
namespace Go.Proofs.Ytiaeochlepkleaa.A
open Go.RowKit

theorem optSome {α : Type} {o : Option α} (h : o.isSome = true) : ∃ v, o = some v := Option.isSome_iff_exists.1 h
theorem optNone {α : Type} {o : Option α} (h : o.isSome = false) : o = none := by simpa using h
/-- What is done of a map's rows, and what is still to come. -/
theorem todo_step {tm : List (Int × (Value × List Dd))} {P : Int × (Value × List Dd) → Prop} {rest : List (Int × Value)} {e : Int × (Value × List Dd)} (hn : (tm.map (·.1)).Nodup) (h : ∀ d ∈ tm, (d.1, d.2.1) ∈ rest ∨ P d) (he : e ∈ tm) (hp : P e) : ∀ d ∈ tm, (d.1, d.2.1) ∈ (rest.filter fun q => decide (q.1 ≠ e.1)) ∨ P d := by
  intro d hd
  by_cases hk : d.1 = e.1
  · obtain rfl : d = e := by
      obtain ⟨i, hi9, rfl⟩ := List.getElem_of_mem hd
      obtain ⟨j, hj, rfl⟩ := List.getElem_of_mem he
      have := (List.getElem_inj (h₀ := by simpa using hi9) (h₁ := by simpa using hj) hn).1 (by simpa using hk)
      simp [this]
    exact .inr hp
  · rcases h d hd with h1 | h1
    · exact .inl (List.mem_filter.2 ⟨h1, by simpa using hk⟩)
    · exact .inr h1
section
variable {a b : List Dd} {l : List (List Dd)}
end
end Go.Proofs.Ytiaeochlepkleaa.A
/-
  Entries in new memory.
-/
namespace Go.Proofs.Ytiaeochlepkleaa.A
open Go.RowKit

theorem ents_ones (l : List Ent) : ∀ c ∈ l.map entA, ones c = true := by
  intro c hc
  obtain ⟨o, _, rfl⟩ := List.mem_map.1 hc
  rfl
theorem clone_ents_s {xs : List (List Abs)} (h1 : ∀ c ∈ xs, ones c = true) (hn : xs.length ≤ 1000000) : Spec Try.prog 19 [.sl 8 xs] [] (fun _ : Unit => []) (fun _ => .sl 8 xs) := by
 refine spec_of Try.func19 rfl Try.ntmps19 rfl fun G w => ?_
 refine SC.seq (SC.region ?_)
 refine SL.val (Val.assign rfl) rfl rfl ?_
 refine SL.nil (SE.seq ?_)
 refine SC.seq ?_
 refine SC.seq (SC.region ?_)
 refine SL.val (Val.move rfl) rfl rfl ?_
 refine SL.eqNil Try.underlying35 rfl rfl rfl ?_
 intro b hb
 refine SL.nil (SE.seq ?_)
 refine SC.cond rfl ?_ ?_
 ·intro hc4
  have hnil : xs = [] := hb hc4
  subst hnil
  refine SC.seq (SC.region ?_)
  refine SL.val (Val.assign rfl) rfl rfl ?_
  refine SL.nil (SE.seq ?_)
  refine SC.ret ?_
  refine SE.then_ nofun ?_
  refine SE.finC (rs := [.tmp 2]) rfl (RV.tmp rfl RV.nil) (Casts.nils (s := 8) Casts.refl) () (by repeat first|exact s0_ _|exact s1_ _|apply s2_|apply s3_) (by simp [It.rids]) rfl
 intro hc4
 refine SC.skip ?_
 refine SE.seq ?_
 refine SC.seq (SC.region ?_)
 refine SL.eff (Eff.buildOwn tabOk Try.underlying35 rfl rfl rfl rfl rfl rfl rfl) rfl rfl ?_
 rintro _ _ ⟨r5, rfl, rfl⟩
 refine SL.val (Val.move rfl) rfl rfl ?_
 refine SL.eff (Eff.appendE (zs := xs) tabOk [] rfl Try.underlying35 rfl rfl rfl rfl rfl rfl h1 (by unfold maxLen; simp only [List.length_nil]; omega) (by rw [show Try.prog.bytesOf 50 = 80 by kernel_rfl]; simp only [List.length_nil]; omega)) rfl rfl ?_
 rintro _ _ ⟨r7, rfl, rfl⟩
 refine SL.val (Val.assign rfl) rfl rfl ?_
 refine SL.nil (SE.seq ?_)
 refine SC.ret ?_
 refine SE.freeze [] (t := 2) rfl rfl ?_
 refine SE.fin (rs := [.tmp 2]) rfl (RV.tmp rfl RV.nil) (()) (by repeat first|exact s0_ _|exact s1_ _|apply s2_|apply s3_) (by simp [It.rids]) ?_
 exact rfl
end Go.Proofs.Ytiaeochlepkleaa.A
/-
  Agree: what they tell together.
-/
namespace Go.Proofs.Ytiaeochlepkleaa.A
open Go.RowKit

section
variable {a b : List Dd} {l : List (List Dd)}
set_option maxHeartbeats 2000000 in
theorem merge_s (hi9 : ∀ d ∈ l.flatten, DdIns d) (hbl : ∀ d ∈ l.flatten, d.batch.length ≤ 1000) (hn : l.flatten.length ≤ 1000) : Spec Try.prog 30 [ddssA l] [] (fun _ : Unit => []) (fun _ => .tup [histA (mergeF l).1, boo (mergeF l).2]) := by
 refine spec_of Try.func30 rfl Try.ntmps30 rfl fun G w => ?_
 refine SC.seq (SC.region ?_)
 iterate 2 refine SL.val (Val.assign rfl) rfl rfl ?_
 refine SL.nil (SE.seq ?_)
 refine SC.seq (SC.region ?_)
 refine SL.val (Val.move rfl) rfl rfl ?_
 refine SL.call (numbers_s (l := l) hi9 hn) Casts.refl (by kernel_rfl) rfl rfl rfl ?_
 refine After.make2 (by repeat (first | exact Reads.nil | (refine Reads.blk ?_ ?_; focus ((repeat first|assumption|exact m0_|apply m1_); done)) | (refine Reads.rd ?_ ?_; focus ((repeat first|assumption|exact m0_|apply m1_); done)) | (refine Reads.pc ?_ ?_; focus ((repeat first|assumption|exact m0_|apply m1_); done)) | (refine Reads.rdpc ?_ ?_; focus ((repeat first|assumption|exact m0_|apply m1_); done)))) (fun _ => rfl) ?_
 intro nl
 refine SL.val (Val.assign rfl) rfl rfl ?_
 refine SL.nil (SE.seq ?_)
 refine SC.seq ?_
 refine SC.seq (SC.region ?_)
 refine SL.val (Val.move rfl) rfl rfl ?_
 refine SL.eff (Eff.rangeMap (K := intK) (V := id) (Good := intOk) (m := rawM nl.1.2) Try.underlying73 rfl (fun _ => (by repeat first|assumption|exact Upd.here|apply Upd.there))) rfl rfl ?_
 rintro _ _ ⟨r12, rfl, rfl⟩
 refine SL.nil (SE.seq ?_)
 refine SC.block ?_
 refine SC.loop (ι := List (Int × Value) × Option (Int × Value)) (fun y => [facts (facM ddsA nl.1.2), .pc (rngPc nl.1.1 r12 intK id intOk (rawM nl.1.2) y.1 y.2)]) (fun y => [(4, mapV nl.1.1), (12, ptr r12)]) (fun y => (∀ p ∈ y.1, p ∈ rawM nl.1.2) ∧ (∀ e ∈ nl.1.2, (e.1, e.2.1) ∈ y.1 ∨ oneB e.2.2)) (fun y => y.1.length) (rawM nl.1.2, none) (⟨fun p hp => hp, fun e he => .inl (List.mem_map.2 ⟨e, he, rfl⟩)⟩) (by exact ⟨rfl, rfl, trivial⟩) (by repeat first|exact s0_ _|exact s1_ _|apply s2_|apply s3_) ?_
 intro y hy
 refine SC.seq (SC.region ?_)
 refine SL.eff (Eff.nextMap (K := intK) (V := id) (Good := intOk) (m := rawM nl.1.2) (rest := y.1) (cur := y.2) rfl (fun _ _ => (by repeat first|assumption|exact Upd.here|apply Upd.there))) rfl rfl ?_
 rintro _ _ ⟨o, rest', ho, hpo, rfl, rfl⟩
 refine SL.val (Val.extract rfl rfl) rfl rfl ?_
 refine SL.nil (SE.seq ?_)
 refine SC.seq ?_
 refine SC.cond rfl ?_ ?_
 ·intro hc14
  obtain ⟨p, rfl⟩ := optSome hc14
  obtain ⟨hpm, hre⟩ := hpo p rfl
  subst hre
  have hls := rest_less hpm
  obtain ⟨e, he0, hep⟩ := List.mem_map.1 (hy.1 p hpm)
  subst hep
  refine SC.skip ?_
  refine SE.seq ?_
  refine SC.block ?_
  refine SC.seq (SC.region ?_)
  refine SL.val (Val.entryMap rfl (by repeat first|assumption|exact m0_|apply m1_) ⟨List.not_mem_nil, List.not_mem_nil⟩) rfl rfl ?_
  refine SL.val (Val.fact (A := ddsA e.2.2) (u := e.2.1) (L := facM ddsA nl.1.2) (Val.extract rfl rfl) (.inl (by repeat first|assumption|exact m0_|apply m1_)) (List.mem_map.2 ⟨e, he0, rfl⟩)) rfl rfl ?_
  refine SL.val (Val.assign rfl) rfl rfl ?_
  refine SL.nil (SE.seq ?_)
  refine SC.seq (SC.region ?_)
  refine SL.val (Val.move rfl) rfl rfl ?_
  refine SL.call (same_s (l := e.2.2) (fun d hd => by rw [nl.2.entry he0] at hd; exact ⟨hi9 d (rowOf_mem.1 hd).1, by have := hbl d (rowOf_mem.1 hd).1; omega⟩)) Casts.refl (by kernel_rfl) rfl rfl rfl ?_
  refine ap_ ?_
  intro _
  refine SL.val (Val.notP rfl) rfl rfl ?_
  refine SL.nil (SE.seq ?_)
  refine SC.condP rfl ?_ ?_
  rotate_left
  ·intro hc19
   refine SC.skip ?_
   refine SE.inBlock ?_
   refine SE.round ((y.1.filter fun q => decide (q.1 ≠ (e.1, e.2.1).1)), some (e.1, e.2.1)) (by exact hls) (⟨fun q hq => hy.1 q ((List.mem_filter.1 hq).1), todo_step (P := fun e => oneB e.2.2) nl.2.nd hy.2 he0 (by simpa using hc19)⟩) (by exact ⟨rfl, rfl, trivial⟩) (by repeat first|exact s0_ _|exact s1_ _|apply s2_|apply s3_)
  intro hc19
  refine SC.seq (SC.region ?_)
  iterate 2 refine SL.val (Val.assign rfl) rfl rfl ?_
  refine SL.nil (SE.seq ?_)
  refine SC.ret ?_
  refine SE.ret ?_
  refine SE.then_ nofun ?_
  refine SE.ret ?_
  refine SE.then_ nofun ?_
  refine SE.finC (rs := [.tmp 2, .tmp 3]) rfl (RV.tmp rfl (RV.tmp rfl RV.nil)) (Casts.nils (s := 1) Casts.refl) (()) (by repeat first|exact s0_ _|exact s1_ _|apply s2_|apply s3_) (by simp [It.rids]) ?_
  rw [show mergeF l = ([], false) from if_neg (fun h => by have h9 := allSame_rows.1 h e.1; rw [← nl.2.entry he0] at h9; simp_all)]
  rfl
 intro hc14
 have ho2 := optNone hc14
 subst ho2
 have hr0 := ho rfl
 have hall : allSame l := by
  rw [allSame_rows]
  intro k
  by_cases hk : ∃ e ∈ nl.1.2, e.1 = k
  ·obtain ⟨e, he, rfl⟩ := hk
   rw [← nl.2.entry he]
   rcases hy.2 e he with h2 | h2
   ·rw [hr0] at h2; cases h2
   ·exact h2
  ·rw [nl.2.none (fun e he h2 => hk ⟨e, he, h2⟩)]
   exact fun x hx => by cases hx
 refine SC.exit ?_
 refine SE.then_ nofun ?_
 refine SE.then_ nofun ?_
 refine SE.exit ?_
 refine SE.seq ?_
 refine SC.seq (SC.region ?_)
 refine SL.val (Val.assign rfl) rfl rfl ?_
 refine SL.nil (SE.seq ?_)
 refine SC.seq ?_
 refine SC.seq (SC.region ?_)
 refine SL.val (Val.assign rfl) rfl rfl ?_
 refine SL.nil (SE.seq ?_)
 refine SC.block ?_
 refine SC.rngDone (by repeat first|assumption|exact Upd.here|apply Upd.there) ?_
 refine SC.own0 35 1 ?_
 refine SC.loop (ι := List (List Ent) × Value) (fun u => [own 35 1 u.2 ((u.1).map fun b => [entsR b]), facts (facM ddsA nl.1.2), .pc (mapPc nl.1.1 intK id intOk (rawM nl.1.2))]) (fun u => [(4, mapV nl.1.1), (7, .v u.2), (8, int ((u.1.length : Int) + 1))]) (fun u => HistUp l.flatten u.1) (fun u => l.flatten.length + 1 - u.1.length) ([], .slice none 0 0) (HistUp.nil) (by exact ⟨rfl, rfl, rfl, trivial⟩) (by repeat first|exact s0_ _|exact s1_ _|apply s2_|apply s3_) ?_
 intro u hu
 refine SC.seq ?_
 refine SC.seq ?_
 have hul := hu.le
 refine SC.region ?_
 iterate 2 refine SL.val (Val.move rfl) rfl rfl ?_
 refine SL.val (Val.to (C := ddsA (rowOf l.flatten ((u.1.length : Int) + 1))) (Val.mapGetT (a := ((u.1.length : Int) + 1)) (tm := nl.1.2) (enc := ddsA) (z0 := []) (zv := .slice none 0 0) (L := facM ddsA nl.1.2) (int_fit Try.underlying2) Try.underlying73 zero_sl (fun _ _ => rep_nil rfl) rfl (by repeat first|assumption|exact o0_|exact o1_|apply o2_) (.inl (by repeat first|assumption|exact m0_|apply m1_)) (fun _ h => h) List.not_mem_nil rfl is_v (i64_in (show i64ok _ by unfold i64ok; omega))) (by rw [nl.2.get ((u.1.length : Int) + 1)])) rfl rfl ?_
 refine SL.val (Val.to (C := int ((rowOf l.flatten ((u.1.length : Int) + 1)).length : Nat)) (Val.lenSl (m := (rowOf l.flatten ((u.1.length : Int) + 1)).length) rfl Try.underlying39 (List.length_map _)) rfl) rfl rfl ?_
 refine SL.val (Val.gtI rfl rfl) rfl rfl ?_
 refine SL.nil (SE.seq ?_)
 refine SC.condP rfl ?_ ?_
 rotate_left
 ·intro hc24
  have hre : (rowOf l.flatten ((u.1.length : Int) + 1)) = [] := List.length_eq_zero_iff.1 (by omega)
  have hdo := hu.done hre
  refine SC.exit ?_
  refine SE.then_ nofun ?_
  refine SE.then_ nofun ?_
  refine SE.exit ?_
  refine SE.seq ?_
  refine SC.seq (SC.region ?_)
  refine SL.val (Val.move rfl) rfl rfl ?_
  iterate 2 refine SL.val (Val.assign rfl) rfl rfl ?_
  refine SL.nil (SE.seq ?_)
  refine SC.ret ?_
  refine SE.freeze [] (t := 2) rfl rfl ?_
  refine SE.fin (rs := [.tmp 2, .tmp 3]) rfl (RV.tmp rfl (RV.tmp rfl RV.nil)) (()) (by repeat first|exact s0_ _|exact s1_ _|apply s2_|apply s3_) (by simp [It.rids]) ?_
  rw [show mergeF l = (histF l.flatten, true) from if_pos hall, ← hdo]
  rfl
 intro hc24
 obtain ⟨d, hd⟩ : ∃ d, (rowOf l.flatten ((u.1.length : Int) + 1)).head? = some d := by
  cases hh : (rowOf l.flatten ((u.1.length : Int) + 1)).head? with
  | some d => exact ⟨d, rfl⟩
  | none =>
   rw [List.head?_eq_none_iff] at hh
   rw [hh] at hc24
   exact absurd hc24 (by decide)
 have hdm : d ∈ l.flatten := (rowOf_mem.1 (List.mem_of_mem_head? hd)).1
 have hmo := hu.more hd
 have hml := hmo.le
 rw [List.length_append, List.length_singleton] at hml
 refine SC.skip ?_
 refine SE.seq ?_
 refine SC.seq ?_
 refine SC.block ?_
 refine SC.region ?_
 iterate 3 refine SL.val (Val.move rfl) rfl rfl ?_
 refine SL.val (Val.to (C := ddsA (rowOf l.flatten ((u.1.length : Int) + 1))) (Val.mapGetT (a := ((u.1.length : Int) + 1)) (tm := nl.1.2) (enc := ddsA) (z0 := []) (zv := .slice none 0 0) (L := facM ddsA nl.1.2) (int_fit Try.underlying2) Try.underlying73 zero_sl (fun _ _ => rep_nil rfl) rfl (by repeat first|assumption|exact o0_|exact o1_|apply o2_) (.inl (by repeat first|assumption|exact m0_|apply m1_)) (fun _ h => h) List.not_mem_nil rfl is_v (i64_in (show i64ok _ by unfold i64ok; omega))) (by rw [nl.2.get ((u.1.length : Int) + 1)])) rfl rfl ?_
 refine SL.val (Val.indexSl (q := 0) (cs := d.abs) tabOk Try.underlying39 rfl rfl rfl rfl (by rw [List.getElem?_map, ← List.head?_eq_getElem?, hd]; rfl) rfl rfl) rfl rfl ?_
 first
  | refine SL.val (Val.fieldAddr tabOk rfl rfl rfl rfl rfl) rfl rfl ?_
  | refine SL.val (Val.fieldAddrR tabOk rfl rfl rfl rfl rfl) rfl rfl ?_
 refine SL.val (Val.to (C := entsR d.batch) (Val.load1R tabOk rfl rfl rfl) rfl) rfl rfl ?_
 refine SL.call (clone_ents_s (ents_ones d.batch) (by rw [List.length_map]; have := hbl d hdm; omega)) Casts.refl (by kernel_rfl) rfl rfl rfl ?_
 refine ap_ ?_
 intro _
 refine SL.eff (Eff.buildSl tabOk Try.underlying64 rfl rfl rfl rfl rfl rfl rfl) rfl rfl ?_
 rintro _ _ ⟨rfl, rfl⟩
 refine SL.eff (Eff.appendE (zs := (u.1 ++ [d.batch]).map fun b => [entsR b]) tabOk [] (by simp only [List.map_append]; rfl) Try.underlying64 rfl rfl rfl rfl rfl rfl (by intro c hc; rw [List.mem_singleton] at hc; subst hc; rfl) (by unfold maxLen; simp only [List.length_map, List.length_append, List.length_cons, List.length_nil]; omega) (by rw [show Try.prog.bytesOf 35 = 24 by kernel_rfl]; simp only [List.length_map, List.length_append, List.length_cons, List.length_nil]; omega)) rfl rfl ?_
 rintro _ _ ⟨r36, rfl, rfl⟩
 refine SL.val (Val.assign rfl) rfl rfl ?_
 refine SL.nil ?_
 refine SE.inBlock ?_
 refine SE.seq ?_
 refine SC.region ?_
 refine SL.val (Val.move rfl) rfl rfl ?_
 refine SL.val (Val.to (C := int (((u.1 ++ [d.batch]).length : Int) + 1)) (Val.addI rfl rfl (by simp only [InR, lo, hi]; omega)) (by refine congrArg int ?_; simp)) rfl rfl ?_
 refine SL.val (Val.assign rfl) rfl rfl ?_
 refine SL.nil ?_
 refine SE.round (u.1 ++ [d.batch], r36) (by simp only [List.length_append, List.length_singleton]; omega) (hmo) (by exact ⟨rfl, rfl, rfl, trivial⟩) (by repeat first|exact s0_ _|exact s1_ _|apply s2_|apply s3_)
end
end Go.Proofs.Ytiaeochlepkleaa.A
/-
  Watch: what is asked one behind the other.
-/
namespace Go.Proofs.Ytiaeochlepkleaa.A
open Go.RowKit

def ruleK : Nat → Nat
  | 0 => 25
  | 1 => 26
  | 2 => 27
  | _ => 28
def ruleE : Nat → Int
  | 0 => 14
  | 1 => 5
  | 2 => 10
  | _ => 2
def ruleA (z : Nat) : List Abs := [.fn (.func (ruleK z)) [] [], int (ruleE z)]
def rulesL : List (List Abs) := [ruleA 0, ruleA 1, ruleA 2, ruleA 3]
theorem rulesL_get {z : Nat} (h : z < 4) : rulesL[z]? = some (ruleA z) := by
  obtain rfl | rfl | rfl | rfl : z = 0 ∨ z = 1 ∨ z = 2 ∨ z = 3 := by omega
  all_goals rfl
noncomputable def ruleB (f : Int → Option Gl) : Nat → Gl → Bool
  | 0, g => marksF g
  | 1, g => backO (f g.who) g
  | 2, g => otherO (f g.who) g
  | _, g => gapF g
theorem ruleK_goes (z : Nat) : goesIn Try.prog (ruleK z) = true := by
  unfold ruleK
  split <;> kernel_rfl
section
variable {g : Gl} {xs l : List Gl} {p : Gl → Bool} {k : Nat} {caps : List Abs} {σ : Blks} {bw bm br bc : Nat} {tm : List (Int × (Value × Gl))}
theorem rule_h (hgo : GlOk g) (hw : ∀ d ∈ (((aget tm g.who).map (·.2)).getD Gl.zero).deeds, DdIns d ∧ d.batch.length ≤ 1000) (z : Nat) : Spec Try.prog (ruleK z) [ptr bw, glA g] [.rd bw 44 [mapV bm], .rdpc (factsPc (facM glA tm)), .rdpc (mapPc bm intK id intOk (rawM tm))] (fun _ : Unit => []) (fun _ => boo (ruleB (fun k => (aget tm k).map (·.2)) z g)) := by
  have hd := hgo.dn
  match z with
  | 0 => exact wmarks_s hgo.ins
  | 1 => exact wback_s hgo.ins
  | 2 => exact wother_s hgo.ins hw
  | _ + 3 => exact wgap_s hgo.ins (by omega)
theorem apart_ins (hl : ∀ x ∈ l, GlOk x) : (∀ d ∈ (l.map (·.deeds)).flatten, DdIns d) ∧ (∀ d ∈ (l.map (·.deeds)).flatten, d.batch.length ≤ 1000) ∧ (l.map (·.deeds)).flatten.length ≤ 30 * l.length := by
  refine ⟨fun d hd => ?_, fun d hd => ?_, ?_⟩
  · obtain ⟨r, hr, hd⟩ := List.mem_flatten.1 hd
    obtain ⟨x, hx, rfl⟩ := List.mem_map.1 hr
    exact (hl x hx).ins.deeds d hd
  · obtain ⟨r, hr, hd⟩ := List.mem_flatten.1 hd
    obtain ⟨x, hx, rfl⟩ := List.mem_map.1 hr
    exact Nat.le_trans ((hl x hx).bn d hd) (by decide)
  · induction l with
    | nil => exact Nat.le_refl _
    | cons x l ih =>
      have h1 := ih fun y hy => hl y (List.mem_cons_of_mem _ hy)
      have h2 := (hl x List.mem_cons_self).dn
      simp only [List.map_cons, List.flatten_cons, List.length_append, List.length_cons]
      omega
theorem rules_s  : Spec Try.prog 14 [] [] (fun _ : Unit => []) (fun _ => .sl 2 rulesL) := by
 refine spec_of Try.func14 rfl Try.ntmps14 rfl fun G w => ?_
 refine SC.seq (SC.region ?_)
 refine SL.val (Val.assign rfl) rfl rfl ?_
 refine SL.nil (SE.seq ?_)
 refine SC.seq (SC.region ?_)
 refine SL.val (Val.buildS tabOk rfl rfl rfl rfl) rfl rfl ?_
 refine SL.val (Val.buildS tabOk rfl rfl rfl rfl) rfl rfl ?_
 refine SL.val (Val.buildS tabOk rfl rfl rfl rfl) rfl rfl ?_
 refine SL.val (Val.buildS tabOk rfl rfl rfl rfl) rfl rfl ?_
 refine SL.eff (Eff.buildOwn (xs := rulesL) tabOk Try.underlying52 rfl rfl rfl rfl rfl rfl rfl) rfl rfl ?_
 rintro _ _ ⟨r5, rfl, rfl⟩
 refine SL.val (Val.assign rfl) rfl rfl ?_
 refine SL.nil (SE.seq ?_)
 refine SC.ret ?_
 refine SE.freeze [] (t := 0) rfl rfl ?_
 refine SE.fin (rs := [.tmp 0]) rfl (RV.tmp rfl RV.nil) (()) (by repeat first|exact s0_ _|exact s1_ _|apply s2_|apply s3_) (by simp [It.rids]) ?_
 exact rfl
theorem gindex_s (hb : goesIn Try.prog k = true) (hr : RdAll σ) (h : ∀ x ∈ xs, Spec Try.prog k (.agg x.abs :: caps) σ (fun _ : Unit => []) (fun _ => boo (p x))) : Spec Try.prog 29 [glsA xs, .fn (.func k) [] caps] σ (fun _ : {q : Int // (q = -1 ∧ ∀ x ∈ xs, p x = false) ∨ ∃ z, ∃ h : z < xs.length, p xs[z] = true ∧ (∀ j (hj : j < xs.length), j < z → p xs[j] = false) ∧ q = (z : Nat)} => []) (fun z => int z.1) := by
 refine spec_of Try.func29 rfl Try.ntmps29 rfl fun G w => ?_
 refine SC.seq (SC.region ?_)
 refine SL.val (Val.assign rfl) rfl rfl ?_
 refine SL.nil (SE.seq ?_)
 refine SC.seq ?_
 refine SC.seq (SC.region ?_)
 refine SL.val (Val.move rfl) rfl rfl ?_
 first
  | refine SL.val (Val.lenSl rfl Try.underlying27 (List.length_map _)) rfl rfl ?_
  | refine SL.val (Val.lenOwn rfl (by repeat first|assumption|exact m0_|apply m1_) Try.underlying27 (List.length_map _)) rfl rfl ?_
  | refine SL.val (Val.lenNil rfl Try.underlying27) rfl rfl ?_
 refine SL.val (Val.move rfl) rfl rfl ?_
 refine SL.nil (SE.seq ?_)
 refine SC.block ?_
 refine SC.rowLe (i := 6) rfl fun hrow => ?_
 rw [List.length_map] at hrow
 unfold maxLen at hrow
 refine SC.loop (ι := Nat) (fun z => σ) (fun z => [(0, glsA xs), (1, .fn (.func k) [] caps), (6, glsA xs), (7, int (xs.length : Nat)), (8, int (z : Nat))]) (fun z => z ≤ xs.length ∧ ∀ j (hj : j < xs.length), j < z → p xs[j] = false) (fun z => xs.length - z) (0) (⟨Nat.zero_le _, fun j hj h => by omega⟩) (by exact ⟨rfl, rfl, rfl, rfl, rfl, trivial⟩) (by repeat first|exact s0_ _|exact s1_ _|apply s2_|apply s3_) ?_
 intro z hz
 refine SC.seq (SC.region ?_)
 refine SL.val (Val.ltI rfl rfl) rfl rfl ?_
 refine SL.nil (SE.seq ?_)
 refine SC.seq ?_
 refine SC.condP rfl ?_ ?_
 rotate_left
 ·intro hc9
  refine SC.exit ?_
  refine SE.then_ nofun ?_
  refine SE.then_ nofun ?_
  refine SE.exit ?_
  refine SE.seq ?_
  refine SC.seq (SC.region ?_)
  refine SL.val (Val.assign rfl) rfl rfl ?_
  refine SL.nil (SE.seq ?_)
  refine SC.ret ?_
  refine SE.fin (rs := [.tmp 4]) rfl (RV.tmp rfl RV.nil) (⟨-1, .inl ⟨rfl, fun x hx => by obtain ⟨j, hj, rfl⟩ := List.getElem_of_mem hx; exact hz.2 j hj (by omega)⟩⟩) (by repeat first|exact s0_ _|exact s1_ _|apply s2_|apply s3_) (by simp [It.rids]) ?_
  exact rfl
 intro hc9
 have hlt : z < xs.length := by omega
 refine SC.skip ?_
 refine SE.seq ?_
 refine SC.seq ?_
 refine SC.block ?_
 refine SC.seq (SC.region ?_)
 refine SL.val (Val.move rfl) rfl rfl ?_
 refine SL.val (Val.assign rfl) rfl rfl ?_
 refine SL.nil (SE.seq ?_)
 refine SC.seq (SC.region ?_)
 iterate 3 refine SL.val (Val.move rfl) rfl rfl ?_
 refine SL.val (Val.indexSl tabOk Try.underlying27 rfl rfl rfl rfl (at_map (by omega)) rfl rfl) rfl rfl ?_
 refine SL.val (Val.loadAR tabOk rfl rfl rfl (by rfl)) rfl rfl ?_
 refine SL.callv (h _ (List.getElem_mem hlt)) rfl Casts.refl hb rfl rfl rfl ?_
 refine After.pure (RdAll.reads hr (fun x hx => by repeat (first | exact hx | apply List.mem_cons_of_mem))) (fun _ => rfl) ?_
 intro _
 refine SL.nil (SE.seq ?_)
 refine SC.cond rfl ?_ ?_
 ·intro hc16
  refine SC.seq (SC.region ?_)
  refine SL.val (Val.move rfl) rfl rfl ?_
  refine SL.val (Val.assign rfl) rfl rfl ?_
  refine SL.nil (SE.seq ?_)
  refine SC.ret ?_
  refine SE.ret ?_
  refine SE.then_ nofun ?_
  refine SE.then_ nofun ?_
  refine SE.ret ?_
  refine SE.then_ nofun ?_
  refine SE.fin (rs := [.tmp 4]) rfl (RV.tmp rfl RV.nil) (⟨(z : Nat), .inr ⟨z, hlt, by simpa using hc16, hz.2, rfl⟩⟩) (by repeat first|exact s0_ _|exact s1_ _|apply s2_|apply s3_) (by simp [It.rids]) ?_
  exact rfl
 intro hc16
 refine SC.skip ?_
 refine SE.inBlock ?_
 refine SE.seq ?_
 refine SC.region ?_
 first
  | refine SL.val (Val.addI rfl rfl (by simp only [InR, lo, hi]; omega)) rfl rfl ?_
  | refine SL.val (Val.addW rfl rfl) rfl rfl ?_
 refine SL.val (Val.move rfl) rfl rfl ?_
 refine SL.nil ?_
 refine SE.round (z + 1) (by first | omega | (dsimp only; omega)) (⟨by omega, fun j hj hjz => by
  rcases Nat.lt_or_ge j z with h1 | h1
  ·exact hz.2 j hj h1
  obtain rfl : j = z := (by omega)
  simpa using hc16⟩) (by exact ⟨rfl, rfl, rfl, rfl, rfl, trivial⟩) (by repeat first|exact s0_ _|exact s1_ _|apply s2_|apply s3_)
theorem gcontains_s (hb : goesIn Try.prog k = true) (hr : RdAll σ) (h : ∀ x ∈ xs, Spec Try.prog k (.agg x.abs :: caps) σ (fun _ : Unit => []) (fun _ => boo (p x))) : Spec Try.prog 15 [glsA xs, .fn (.func k) [] caps] σ (fun _ : Unit => []) (fun _ => boo (xs.any p)) := by
 refine spec_of Try.func15 rfl Try.ntmps15 rfl fun G w => ?_
 refine SC.seq (SC.region ?_)
 refine SL.val (Val.assign rfl) rfl rfl ?_
 refine SL.nil (SE.seq ?_)
 refine SC.seq (SC.region ?_)
 iterate 2 refine SL.val (Val.move rfl) rfl rfl ?_
 refine SL.call (gindex_s hb hr h) Casts.refl (by kernel_rfl) rfl rfl rfl ?_
 refine After.pure (RdAll.reads hr (fun x hx => by repeat (first | exact hx | apply List.mem_cons_of_mem))) (fun _ => rfl) ?_
 intro q0
 refine SL.val (Val.geI rfl rfl) rfl rfl ?_
 refine SL.val (Val.assign rfl) rfl rfl ?_
 refine SL.nil (SE.seq ?_)
 refine SC.ret ?_
 refine SE.fin (rs := [.tmp 4]) rfl (RV.tmp rfl RV.nil) (()) (by repeat first|exact s0_ _|exact s1_ _|apply s2_|apply s3_) (by simp [It.rids]) ?_
 rcases q0.2 with ⟨h1, h2⟩ | ⟨j, hj, h1, _, h3⟩
 ·refine congrArg (fun b => Abs.v (Value.bool b)) ?_
  rw [h1, List.any_eq_false.2 (fun x hx => by rw [h2 x hx]; decide)]
  rfl
 ·refine congrArg (fun b => Abs.v (Value.bool b)) ?_
  rw [h3, List.any_eq_true.2 ⟨_, List.getElem_mem hj, h1⟩]
  exact decide_eq_true (by omega)
theorem odd1_s {e : Int} {q : Bool} (hb : goesIn Try.prog k = true) (h : Spec Try.prog k [ptr bw, glA g] [.rd bw 44 [mapV bm], .rdpc (factsPc (facM glA tm)), .rdpc (mapPc bm intK id intOk (rawM tm))] (fun _ : Unit => []) (fun _ => boo q)) : Spec Try.prog 16 [glA g, ptr br, ptr bc] [.rd br 56 [.fn (.func k) [] [], int e], .rd bc 24 [ptr bw], .rd bw 44 [mapV bm], .rdpc (factsPc (facM glA tm)), .rdpc (mapPc bm intK id intOk (rawM tm))] (fun _ : Unit => []) (fun _ => boo q) := by
 refine spec_of Try.func16 rfl Try.ntmps16 rfl fun G w => ?_
 refine SC.seq (SC.region ?_)
 refine SL.eff (Eff.boxA (cs := g.abs) rfl) rfl rfl ?_
 rintro _ _ ⟨b3, rfl, rfl⟩
 refine SL.val (Val.assign rfl) rfl rfl ?_
 refine SL.nil (SE.seq ?_)
 refine SC.seq (SC.region ?_)
 first
  | refine SL.val (Val.fieldAddr tabOk rfl rfl rfl rfl rfl) rfl rfl ?_
  | refine SL.val (Val.fieldAddrR tabOk rfl rfl rfl rfl rfl) rfl rfl ?_
 refine SL.val (Val.to (C := .fn (.func k) [] []) (Val.load1 tabOk rfl rfl (by repeat first|assumption|exact o0_|exact o1_|apply o2_) List.not_mem_nil (by rfl)) rfl) rfl rfl ?_
 refine SL.val (Val.to (C := ptr bw) (Val.load1 tabOk rfl rfl (by repeat first|assumption|exact o0_|exact o1_|apply o2_) List.not_mem_nil (by rfl)) rfl) rfl rfl ?_
 refine SL.val (Val.to (C := glA g) (Val.loadP tabOk rfl rfl rfl (by repeat first|assumption|exact o0_|exact o1_|apply o2_) List.not_mem_nil (lb_ (by rfl))) rfl) rfl rfl ?_
 refine SL.callv (h) rfl Casts.refl hb rfl rfl rfl ?_
 refine ap_ ?_
 intro _
 refine SL.val (Val.assign rfl) rfl rfl ?_
 refine SL.nil (SE.seq ?_)
 refine SC.ret ?_
 refine SE.fin (rs := [.tmp 4]) rfl (RV.tmp rfl RV.nil) (()) (by repeat first|exact s0_ _|exact s1_ _|apply s2_|apply s3_) (by simp [It.rids]) ?_
 exact rfl
theorem apart_s (hl : ∀ x ∈ l, GlOk x) (hn : l.length ≤ 8) : Spec Try.prog 17 [glsA l] [] (fun _ : Unit => []) (fun _ => boo (decide (¬ allSame (l.map (·.deeds))))) := by
 refine spec_of Try.func17 rfl Try.ntmps17 rfl fun G w => ?_
 refine SC.seq (SC.region ?_)
 refine SL.val (Val.assign rfl) rfl rfl ?_
 refine SL.nil (SE.seq ?_)
 refine SC.seq (SC.region ?_)
 refine SL.val (Val.assign rfl) rfl rfl ?_
 refine SL.nil (SE.seq ?_)
 refine SC.seq ?_
 refine SC.seq (SC.region ?_)
 refine SL.val (Val.move rfl) rfl rfl ?_
 first
  | refine SL.val (Val.lenSl rfl Try.underlying27 (List.length_map _)) rfl rfl ?_
  | refine SL.val (Val.lenOwn rfl (by repeat first|assumption|exact m0_|apply m1_) Try.underlying27 (List.length_map _)) rfl rfl ?_
  | refine SL.val (Val.lenNil rfl Try.underlying27) rfl rfl ?_
 refine SL.val (Val.move rfl) rfl rfl ?_
 refine SL.nil (SE.seq ?_)
 refine SC.block ?_
 refine SC.rowLe (i := 8) rfl fun hrow => ?_
 rw [List.length_map] at hrow
 unfold maxLen at hrow
 refine SC.own0 39 1 ?_
 refine SC.loop (ι := Nat × Value) (fun z => [own 39 1 z.2 (((l.take z.1).map fun x => x.deeds).map fun d => [ddsA d])]) (fun z => [(3, .v z.2), (8, glsA l), (9, int (l.length : Nat)), (10, int (z.1 : Nat))]) (fun z => z.1 ≤ l.length) (fun z => l.length - z.1) (0, .slice none 0 0) (Nat.zero_le _) (by exact ⟨rfl, rfl, rfl, rfl, trivial⟩) (by repeat first|exact s0_ _|exact s1_ _|apply s2_|apply s3_) ?_
 intro z hz
 refine SC.seq (SC.region ?_)
 refine SL.val (Val.ltI rfl rfl) rfl rfl ?_
 refine SL.nil (SE.seq ?_)
 refine SC.seq ?_
 refine SC.condP rfl ?_ ?_
 rotate_left
 ·intro hc11
  have hta : l.take z.1 = l := List.take_of_length_le (by omega)
  refine SC.exit ?_
  refine SE.then_ nofun ?_
  refine SE.then_ nofun ?_
  refine SE.exit ?_
  refine SE.seq ?_
  refine SC.seq ?_
  rw [hta]
  refine SC.freeze [] (t := 3) rfl rfl ?_
  refine SC.region ?_
  refine SL.val (Val.move rfl) rfl rfl ?_
  refine SL.call (merge_s (l := l.map (·.deeds)) (apart_ins hl).1 (apart_ins hl).2.1 (by have := (apart_ins hl).2.2; omega)) Casts.refl (by kernel_rfl) rfl rfl rfl ?_
  refine ap_ ?_
  intro _
  refine SL.val (Val.move rfl) rfl rfl ?_
  refine SL.val (Val.extract rfl rfl) rfl rfl ?_
  refine SL.val (Val.extract rfl rfl) rfl rfl ?_
  iterate 2 refine SL.val (Val.assign rfl) rfl rfl ?_
  refine SL.nil (SE.seq ?_)
  refine SC.seq (SC.region ?_)
  refine SL.val (Val.move rfl) rfl rfl ?_
  refine SL.val (Val.notB rfl) rfl rfl ?_
  refine SL.val (Val.assign rfl) rfl rfl ?_
  refine SL.nil (SE.seq ?_)
  refine SC.ret ?_
  refine SE.fin (rs := [.tmp 2]) rfl (RV.tmp rfl RV.nil) (()) (by repeat first|exact s0_ _|exact s1_ _|apply s2_|apply s3_) (by simp [It.rids]) ?_
  refine congrArg (fun b => Abs.v (Value.bool b)) ?_
  unfold mergeF
  by_cases h : allSame (l.map (·.deeds)) <;> simp [h]
 intro hc11
 have hlt : z.1 < l.length := by omega
 refine SC.skip ?_
 refine SE.seq ?_
 refine SC.seq ?_
 refine SC.block ?_
 refine SC.seq (SC.region ?_)
 refine SL.val (Val.indexSl tabOk Try.underlying27 rfl rfl rfl rfl (at_map (by omega)) rfl rfl) rfl rfl ?_
 refine SL.val (Val.loadAR tabOk rfl rfl rfl (by rfl)) rfl rfl ?_
 refine SL.eff (Eff.alloc tabOk rfl) rfl rfl ?_
 rintro _ _ ⟨b5, rfl, rfl⟩
 refine SL.eff (Eff.store (L' := (l[z.1]'hlt).abs) tabOk rfl rfl rfl (by repeat first|assumption|exact Upd.here|apply Upd.there) rfl (lb_ (by rfl)) rfl (by exact putL_whole rfl)) rfl rfl ?_
 rintro _ _ ⟨rfl, rfl⟩
 refine SL.nil (SE.seq ?_)
 refine SC.region ?_
 refine SL.val (Val.move rfl) rfl rfl ?_
 refine SL.val (Val.fieldAddr tabOk rfl rfl rfl rfl rfl) rfl rfl ?_
 refine SL.val (Val.to (C := ddsA (l[z.1]'hlt).deeds) (Val.load1 tabOk rfl rfl (by repeat first|assumption|exact o0_|exact o1_|apply o2_) List.not_mem_nil (by rfl)) rfl) rfl rfl ?_
 refine SL.eff (Eff.buildSl tabOk Try.underlying63 rfl rfl rfl rfl rfl rfl rfl) rfl rfl ?_
 rintro _ _ ⟨rfl, rfl⟩
 refine SL.eff (Eff.appendE (zs := ((l.take (z.1 + 1)).map fun x => x.deeds).map fun d => [ddsA d]) tabOk [_] (by rw [List.take_succ_eq_append_getElem hlt, List.map_append, List.map_append]; rfl) Try.underlying63 rfl rfl rfl rfl rfl rfl (by intro c hc; rw [List.mem_singleton] at hc; subst hc; rfl) (by unfold maxLen; simp only [List.length_map, List.length_take, List.length_cons, List.length_nil]; omega) (by rw [show Try.prog.bytesOf 39 = 24 by kernel_rfl]; simp only [List.length_map, List.length_take, List.length_cons, List.length_nil]; omega)) rfl rfl ?_
 rintro _ _ ⟨r18, rfl, rfl⟩
 refine SL.val (Val.assign rfl) rfl rfl ?_
 refine SL.nil ?_
 refine SE.inBlock ?_
 refine SE.seq ?_
 refine SC.region ?_
 first
  | refine SL.val (Val.addI rfl rfl (by simp only [InR, lo, hi]; omega)) rfl rfl ?_
  | refine SL.val (Val.addW rfl rfl) rfl rfl ?_
 refine SL.val (Val.move rfl) rfl rfl ?_
 refine SL.nil ?_
 refine SE.round (z.1 + 1, r18) (by first | omega | (dsimp only; omega)) ((by dsimp only; omega)) (by exact ⟨rfl, rfl, rfl, rfl, trivial⟩) (by repeat first|exact s0_ _|exact s1_ _|apply s2_|apply s3_)
end
end Go.Proofs.Ytiaeochlepkleaa.A
/-
  The second engine: one cell of an element of a row of one's own: its address, read, and stored into.
-/
namespace Go.Proofs.Ytiaeochlepkleaa.A
open Go.RowKit

section
variable {P : Program} {n : Nat} {W : Wd} {σ τ : Blks} {l : Slots} {X : List Nat} {x y : Operand} {d : Option Nat} {ty t e e' : TypeId} {pos : String} {aft : Array Edge} {g : Option (Nat × Bool)} {v : Value} {A : Abs} {tab : List (Nat × TI)} {xs : List (List Abs)} {s q jj : Nat} {cs : List Abs} {K : List Nat} {w : World}
/-- The address of a field of an element. -/
theorem Val.fieldOwn (hT : TabOk P tab) {sz fo ft f : Nat} {gs : List (Nat × Nat)} {zs : List Value} {j : TI} (ht : ti tab t = some ⟨sz, .struct gs, zs⟩) (hx : look l x = some (.v (eptr v (q * s)))) (hb : isOwn σ e' s v xs) (hpos : Nat.blt 0 s = true) (hq : xs[q]? = some cs) (hfo : gs[f]? = some (fo, ft)) (hj : ti tab ft = some j) (hs0 : Nat.beq j.size 0 = false) :
    Val P n W σ l X ⟨d, .fieldAddr t x f, ty, pos, aft, g⟩ (.v (eptr v (q * s + fo))) := Val.mk' fun a w hs _ => by
  obtain ⟨us, h1, h2⟩ := hs.mem.ownR hb
  obtain ⟨b, off, c, hvv, hbl, vs, h3, h4, h5⟩ := own_at h1 h2 (by simpa [Nat.blt_eq] using hpos) hq
  refine ⟨_, rfl, fun w' _ => ?_⟩
  rw [hvv]
  show Proofs.Ytiaeochlepkleaa.Val _ _ _ _ _ (.pointer (some ⟨b, off + (q * s + fo), none⟩))
  rw [← Nat.add_assoc]
  exact Proofs.Ytiaeochlepkleaa.Val.fieldAddr hT ht (by rw [hs.at2 hx, hs.plain hx, hvv]; rfl) hfo hj hs0
theorem Val.loadOwnJ (hT : TabOk P tab) {sz : Nat} {zs : List Value} (ht : ti tab t = some ⟨sz, .one, zs⟩) (hx : look l x = some (.v (eptr v (q * s + jj)))) (hb : isOwn σ e' s v xs) (hpos : Nat.blt 0 s = true) (hq : xs[q]? = some cs) (hv : cs[jj]? = some A) : Val P n W σ l [] ⟨d, .load t x, ty, pos, aft, g⟩ A := Val.mk' fun a w hs hX => by
  obtain ⟨us, h1, h2⟩ := hs.mem.ownR hb
  obtain ⟨b, off, c, hvv, hbl, vs, h3, h4, h5⟩ := own_at h1 h2 (by simpa [Nat.blt_eq] using hpos) hq
  obtain ⟨u, h6, h7⟩ := reps_get h4 hv
  refine ⟨u, h7, fun w' hw' => Proofs.Ytiaeochlepkleaa.Val.load1C (b := b) (o := off + (q * s + jj)) hT ht (by rw [hs.at2 hx, hs.plain hx, hvv]; rfl) fun w1 e => by subst e; exact cell_later hw' (by simp) (by rw [← Nat.add_assoc]; exact h5 jj u h6)⟩
theorem reps_set1 {u : Value} (hu : rep K w A u) : ∀ {cs : List Abs} {vs : List Value} {j : Nat}, reps K w cs vs → reps K w (cs.set j A) (vs.set j u)
  | [], _, _, h => by
    have h : _ = [] := h
    subst h
    rfl
  | c :: cs, _, 0, ⟨u1, us, h1, h2, h3⟩ => by
    subst h1
    exact ⟨u, us, rfl, hu, h3⟩
  | c :: cs, _, j + 1, ⟨u1, us, h1, h2, h3⟩ => by
    subst h1
    exact ⟨u1, _, rfl, h2, reps_set1 hu h3⟩
theorem repss_set1 {u : Value} (hu : rep K w A u) : ∀ {xs : List (List Abs)} {us : List Value} {q : Nat}, repss K w s xs us → xs[q]? = some cs → jj < s → repss K w s (xs.set q (cs.set jj A)) (us.set (q * s + jj) u)
  | [], _, _, _, h, _ => by simp at h
  | c :: xs, _, 0, ⟨u1, u2, h1, h2, h3, h4⟩, h, hj => by
    subst h1
    have h : c = cs := by simpa using h
    subst h
    refine ⟨u1.set jj u, u2, ?_, by simpa using h2, reps_set1 hu h3, h4⟩
    rw [Nat.zero_mul, Nat.zero_add, List.set_append_left _ _ (by omega)]
  | c :: xs, _, q + 1, ⟨u1, u2, h1, h2, h3, h4⟩, h, hj => by
    subst h1
    have h5 := repss_set1 hu h4 (q := q) (by simpa using h) hj
    refine ⟨u1, _, ?_, h2, h3, h5⟩
    rw [List.set_append_right _ _ (by rw [Nat.succ_mul]; omega)]
    congr 2
    rw [Nat.succ_mul]
    omega
/-- One cell of an element of a row of the call's own is another one then. -/
theorem Eff.setOwnJ (hT : TabOk P tab) {sz : Nat} {zs : List Value} (ht : ti tab t = some ⟨sz, .one, zs⟩) (hsz : Nat.beq sz 1 = true) (hx : look l x = some (.v (eptr v (q * s + jj)))) (hy : look l y = some A) (h1 : A.one = true) (hq : xs[q]? = some cs) (hj : Nat.blt jj s = true) (hu : Upd (own e s v xs) (own e s v (xs.set q (cs.set jj A))) σ τ) :
    Eff P n W σ l v.ownBlock.toList ⟨d, .store t x y, ty, pos, aft, g⟩ fun u τ' => u = .v undef ∧ τ' = τ := fun ac w hst => by
  have hj : jj < s := by simpa [Nat.blt_eq] using hj
  have hsz := Nat.eq_of_beq_eq_true hsz
  subst hsz
  obtain ⟨us, hown, hr⟩ : (ownPc e s v xs).p _ w := hst.mem.hold _ hu.mem
  have hry := hst.eval hy
  have hone := Abs.one_rep hry h1
  have hql : q < xs.length := (List.getElem?_eq_some_iff.1 hq).1
  rcases hown.2 with ⟨h, h0⟩ | ⟨gb, cap, cur, hv, hbase, hg, hn, hcap, hsz, htk⟩
  · omega
  · subst hv
    have h2 := (hT t _ ht).isAgg (w := w)
    have h3 := (hT t _ ht).sizeOf (w := w)
    have hb1 : q * s + s ≤ xs.length * s := by rw [← Nat.succ_mul]; exact Nat.mul_le_mul_right _ hql
    have hb2 : xs.length * s ≤ cap * s := Nat.mul_le_mul_right _ hn
    have hcl1 : cellsL (ac.eval y) = [ac.eval y] := by
      cases hv9 : ac.eval y <;> first | rfl | (rw [hv9] at hone; cases hone)
    have hrun := run_storeCells_at (P := P) gb (0 + (q * s + jj)) e (cellsL (ac.eval y)) 0 cur w hg (by rw [hcl1, List.length_singleton]; omega) (by rw [hcl1]; intro u hu; rw [List.mem_singleton.1 hu]; exact hone)
    have e0 : 0 + (q * s + jj) + 0 = q * s + jj := by omega
    rw [e0] at hrun
    have hcl : cur.toList.length = cur.size := by simp
    have hle : (cellsL (ac.eval y)).length = 1 := by rw [hcl1]; rfl
    have hxx : Ext (Value.ownBlock (.slice (some ⟨gb, 0, none⟩) xs.length cap)).toList w (w.setRow gb (cur.toList.take (q * s + jj) ++ cellsL (ac.eval y) ++ cur.toList.drop (q * s + jj + (cellsL (ac.eval y)).length)).toArray) := (Ext.refl w).setRow (.inl (by simp [Value.ownBlock])) _
    have hnew : (cur.toList.take (q * s + jj) ++ cellsL (ac.eval y) ++ cur.toList.drop (q * s + jj + (cellsL (ac.eval y)).length)).take (xs.length * s) = us.set (q * s + jj) (ac.eval y) := by
      rw [← htk, hle, hcl1]
      apply List.ext_getElem?
      intro j
      simp only [List.getElem?_take, List.getElem?_append, List.length_append, List.length_take, List.getElem?_drop, List.getElem?_set, List.length_singleton, hcl]
      grind
    have hm := hst.mem.upd hu hxx own_nodup (fun k hk => .inl hk) rfl fun hca => ⟨us.set (q * s + jj) (ac.eval y), ⟨?_, .inr ⟨gb, cap, _, by rw [List.length_set], hbase, setRow_heap w gb cur _ e (0, 0) hg, by rw [List.length_set]; exact hn, hcap, ?_, ?_⟩⟩, repss_carry hca _ _ _ (repss_set1 hry hr hq hj)⟩
    · refine ⟨undef, _, _, _, ⟨rfl, rfl⟩, hxx, rfl, hm.1, hm.2, .inr ⟨rfl, ?_⟩⟩
      have hcs := cellsL_eq (ac.eval y)
      have hle2 : (cellsL (ac.eval y)).length = 1 := hle
      have hx2 : ac.eval x = .pointer (some ⟨gb, 0 + (q * s + jj), none⟩) := hst.plain hx
      simp [execOp, hx2, Instr.storeAt, Instr.sureAddr, storeVar, Sem.run_bind, hcs, h3, hle2, hrun, Result.andThen]
      first | rfl | (simp only [Nat.zero_add] at hrun; simp [hle2, hrun])
    · rw [List.length_set, hown.1, List.length_set]
    · simp only [List.size_toArray, List.length_append, List.length_take, List.length_drop]
      omega
    · rw [List.length_set]
      simpa using hnew
end
end Go.Proofs.Ytiaeochlepkleaa.A
