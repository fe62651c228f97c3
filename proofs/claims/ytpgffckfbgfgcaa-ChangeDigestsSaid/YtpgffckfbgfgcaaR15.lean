/-
  Packed out of the texts: K1.
-/
import Derived.Test.YtpgffckfbgfgcaaR14
/-
  Changes: the program's Same, digests by a book; ChangeDigests: the walk.
-/
set_option maxRecDepth 100000
set_option linter.unusedSimpArgs false
set_option linter.unusedVariables false
namespace Go.Proofs.Ytpgffckfbgfgcaa.A
open Go.RowKit

section
variable {ps qs : List Pnt} {fs gs : List Prf} {p q : Prf} {c d : Chg}
set_option maxHeartbeats 2000000 in
theorem pequal_s (hn : ps.length < 9223372036854775807) (h1 : ∀ p ∈ ps, InR .i64 p.seq) (h2 : ∀ p ∈ qs, InR .i64 p.seq) : Spec Try.prog 134 [pntsA ps, pntsA qs] [] (fun _ : Unit => []) (fun _ => boo (yes (ps = qs))) := by
  refine spec_of Try.func134 rfl Try.ntmps134 rfl fun G w => ?_
  refine SC.seq (SC.region ?_)
  refine SL.val (Val.assign rfl) rfl rfl ?_
  refine SL.nil (SE.seq ?_)
  refine SC.seq ?_
  refine SC.seq (SC.region ?_)
  refine SL.val (Val.move rfl) rfl rfl ?_
  first
    | refine SL.val (Val.lenSl rfl Try.underlying49 (List.length_map _)) rfl rfl ?_
    | refine SL.val (Val.lenOwn rfl (by repeat first|assumption|exact m0|apply m1) Try.underlying49 (List.length_map _)) rfl rfl ?_
    | refine SL.val (Val.lenNil rfl Try.underlying49) rfl rfl ?_
  refine SL.val (Val.move rfl) rfl rfl ?_
  first
    | refine SL.val (Val.lenSl rfl Try.underlying49 (List.length_map _)) rfl rfl ?_
    | refine SL.val (Val.lenOwn rfl (by repeat first|assumption|exact m0|apply m1) Try.underlying49 (List.length_map _)) rfl rfl ?_
    | refine SL.val (Val.lenNil rfl Try.underlying49) rfl rfl ?_
  refine SL.val (Val.neI rfl rfl) rfl rfl ?_
  refine SL.nil (SE.seq ?_)
  refine SC.condP rfl ?_ ?_
  · intro hc10
    refine SC.seq (SC.region ?_)
    refine SL.val (Val.assign rfl) rfl rfl ?_
    refine SL.nil (SE.seq ?_)
    refine SC.ret ?_
    refine SE.then_ (by intro h; cases h) ?_
    refine SE.fin (rs := [.tmp 4]) rfl (RV.tmp rfl RV.nil) (()) (by repeat first|exact s0 _|exact s1 _|apply s2|apply s3) (by simp [It.rids]) ?_
    refine boo_no fun h => ?_
    subst h
    exact hc10 rfl
  intro hc10
  have hle : ps.length = qs.length := by omega
  refine SC.skip ?_
  refine SE.seq ?_
  refine SC.seq ?_
  refine SC.seq (SC.region ?_)
  refine SL.val (Val.move rfl) rfl rfl ?_
  first
    | refine SL.val (Val.lenSl rfl Try.underlying49 (List.length_map _)) rfl rfl ?_
    | refine SL.val (Val.lenOwn rfl (by repeat first|assumption|exact m0|apply m1) Try.underlying49 (List.length_map _)) rfl rfl ?_
    | refine SL.val (Val.lenNil rfl Try.underlying49) rfl rfl ?_
  refine SL.val (Val.move rfl) rfl rfl ?_
  refine SL.nil (SE.seq ?_)
  refine SC.block ?_
  refine SC.loop (ι := Nat) (fun z => []) (fun z => [(0, pntsA ps), (1, pntsA qs), (12, int (ps.length : Nat)), (13, int (z : Nat))]) (fun z => z ≤ ps.length ∧ ps.take z = qs.take z) (fun z => ps.length - z) (0) (⟨Nat.zero_le _, by simp⟩) (by exact ⟨rfl, rfl, rfl, rfl, trivial⟩) (by repeat first|exact s0 _|exact s1 _|apply s2|apply s3) ?_
  intro z hz
  refine SC.seq (SC.region ?_)
  refine SL.val (Val.ltI rfl rfl) rfl rfl ?_
  refine SL.nil (SE.seq ?_)
  refine SC.seq ?_
  refine SC.condP rfl ?_ ?_
  rotate_left
  · intro hc14
    refine SC.exit ?_
    refine SE.then_ (by intro h; cases h) ?_
    refine SE.then_ (by intro h; cases h) ?_
    refine SE.exit ?_
    refine SE.seq ?_
    refine SC.seq (SC.region ?_)
    refine SL.val (Val.assign rfl) rfl rfl ?_
    refine SL.nil (SE.seq ?_)
    refine SC.ret ?_
    refine SE.fin (rs := [.tmp 4]) rfl (RV.tmp rfl RV.nil) (()) (by repeat first|exact s0 _|exact s1 _|apply s2|apply s3) (by simp [It.rids]) ?_
    refine boo_yes ⟨fun _ => ?_, fun _ => rfl⟩
    have h9 := hz.2
    rw [List.take_of_length_le (by omega), List.take_of_length_le (by omega)] at h9
    exact h9
  intro hc14
  have hlt : z < ps.length := by omega
  have hlt2 : z < qs.length := by omega
  refine SC.skip ?_
  refine SE.seq ?_
  refine SC.seq ?_
  refine SC.block ?_
  refine SC.seq (SC.region ?_)
  refine SL.val (Val.move rfl) rfl rfl ?_
  refine SL.val (Val.assign rfl) rfl rfl ?_
  refine SL.nil (SE.seq ?_)
  refine SC.seq ?_
  refine SC.draw [] (.q 0 (.q 1 (.q 2 (.q 3 (.q 4 (.q 5 (.q 6 (.q 7 (.q 8 .nil))))))))) (by kernel_rfl) (by kernel_rfl) ?_
  refine SX.val rfl (Val.move rfl) (by simp) rfl rfl ?_
  refine SX.val rfl (Val.move rfl) (by simp) rfl rfl ?_
  refine SX.val rfl (Val.indexSl tabOk Try.underlying49 rfl rfl rfl rfl (at_map (by omega)) rfl rfl) (by simp) rfl rfl ?_
  refine SX.val rfl (Val.loadAR tabOk rfl rfl rfl (Pnt.size _)) (by first | (simp [mids, It.mids, ownPc, bkPc]; done) | (intro k hk; simp [mids, It.mids, ownPc, bkPc] at hk ⊢; grind)) rfl rfl ?_
  refine SX.val rfl (Val.move rfl) (by simp) rfl rfl ?_
  refine SX.val rfl (Val.move rfl) (by simp) rfl rfl ?_
  refine SX.val rfl (Val.indexSl tabOk Try.underlying49 rfl rfl rfl rfl (at_map (by omega)) rfl rfl) (by simp) rfl rfl ?_
  refine SX.val rfl (Val.loadAR tabOk rfl rfl rfl (Pnt.size _)) (by first | (simp [mids, It.mids, ownPc, bkPc]; done) | (intro k hk; simp [mids, It.mids, ownPc, bkPc] at hk ⊢; grind)) rfl rfl ?_
  refine SX.val rfl (Val.neA rfl rfl (pnt_plains _) (pnt_plains _) (by kernel_rfl) (neqP (h1 _ (List.getElem_mem hlt)) (h2 _ (List.getElem_mem hlt2)))) (by first | (simp [mids, It.mids, ownPc, bkPc]; done) | (intro k hk; simp [mids, It.mids, ownPc, bkPc] at hk ⊢; grind)) rfl rfl ?_
  refine SX.nil (SE.seq ?_)
  refine SC.condP rfl ?_ ?_
  rotate_left
  · intro hc24
    refine SC.skip ?_
    refine SE.inBlock ?_
    refine SE.seq ?_
    refine SC.region ?_
    first
      | refine SL.val (Val.addI rfl rfl (by simp only [InR, lo, hi]; omega)) rfl rfl ?_
      | refine SL.val (Val.addW rfl rfl) rfl rfl ?_
    refine SL.val (Val.move rfl) rfl rfl ?_
    refine SL.nil ?_
    refine SE.round (z + 1) (by first | omega | (dsimp only; omega)) (⟨hlt, take_succ_eq hz.2 hlt hlt2 (by simpa using hc24)⟩) (by exact ⟨rfl, rfl, rfl, rfl, trivial⟩) (by repeat first|exact s0 _|exact s1 _|apply s2|apply s3)
  intro hc24
  refine SC.seq (SC.region ?_)
  refine SL.val (Val.assign rfl) rfl rfl ?_
  refine SL.nil (SE.seq ?_)
  refine SC.ret ?_
  refine SE.ret ?_
  refine SE.then_ (by intro h; cases h) ?_
  refine SE.then_ (by intro h; cases h) ?_
  refine SE.ret ?_
  refine SE.then_ (by intro h; cases h) ?_
  refine SE.fin (rs := [.tmp 4]) rfl (RV.tmp rfl RV.nil) (()) (by repeat first|exact s0 _|exact s1 _|apply s2|apply s3) (by simp [It.rids]) ?_
  refine boo_no fun h => ?_
  subst h
  exact hc24 rfl
theorem psame1_s (hl : p.batch.length ≤ 1000000) (h1 : p.Lits) (h2 : q.Lits) : Spec Try.prog 133 [.agg p.abs, .agg q.abs] [] (fun _ : Unit => []) (fun _ => boo (yes (p = q))) := by
  refine spec_of Try.func133 rfl Try.ntmps133 rfl fun G w => ?_
  refine SC.seq (SC.region ?_)
  refine SL.eff (Eff.boxA rfl) rfl rfl ?_
  rintro _ _ ⟨b2, rfl, rfl⟩
  refine SL.eff (Eff.boxA rfl) rfl rfl ?_
  rintro _ _ ⟨b3, rfl, rfl⟩
  refine SL.val (Val.assign rfl) rfl rfl ?_
  refine SL.nil (SE.seq ?_)
  refine SC.seq (SC.region ?_)
  refine SL.val (Val.fieldAddr tabOk rfl rfl rfl rfl rfl) rfl rfl ?_
  refine SL.val (Val.load1 tabOk rfl rfl (by first|(apply Or.inl;(repeat first|assumption|exact m0|apply m1);done)|(apply Or.inr;(repeat first|assumption|exact m0|apply m1);done)) List.not_mem_nil (by rfl)) rfl rfl ?_
  refine SL.val (Val.fieldAddr tabOk rfl rfl rfl rfl rfl) rfl rfl ?_
  refine SL.val (Val.load1 tabOk rfl rfl (by first|(apply Or.inl;(repeat first|assumption|exact m0|apply m1);done)|(apply Or.inr;(repeat first|assumption|exact m0|apply m1);done)) List.not_mem_nil (by rfl)) rfl rfl ?_
  refine SL.val (Val.eqI rfl rfl) rfl rfl ?_
  refine SL.val (Val.move rfl) rfl rfl ?_
  refine SL.bothP (t := 10) rfl ?_ ?_
  rotate_left
  · intro hc10
    iterate 5 refine SL.skip rfl rfl ?_
    refine SL.val (Val.pickF rfl rfl) rfl rfl ?_
    refine SL.val (Val.move rfl) rfl rfl ?_
    iterate 5 refine SL.skip rfl rfl ?_
    refine SL.val (Val.pickF rfl rfl) rfl rfl ?_
    refine SL.val (Val.assign rfl) rfl rfl ?_
    refine SL.nil (SE.seq ?_)
    refine SC.ret ?_
    refine SE.fin (rs := [.tmp 4]) rfl (RV.tmp rfl RV.nil) (()) (by repeat first|exact s0 _|exact s1 _|apply s2|apply s3) (by simp [It.rids]) ?_
    first
      | (refine boo_no fun h => ?_; subst h; first | exact hc10 rfl | exact hc17 rfl)
      | (refine boo_yes ⟨fun h => Prf.same hc10 hc17 (of_decide_eq_true h), fun h => ?_⟩; subst h; exact decide_eq_true rfl)
  intro hc10
  refine SL.val (Val.fieldAddr tabOk rfl rfl rfl rfl rfl) rfl rfl ?_
  refine SL.val (Val.load1 tabOk rfl rfl (by first|(apply Or.inl;(repeat first|assumption|exact m0|apply m1);done)|(apply Or.inr;(repeat first|assumption|exact m0|apply m1);done)) List.not_mem_nil (by rfl)) rfl rfl ?_
  refine SL.val (Val.fieldAddr tabOk rfl rfl rfl rfl rfl) rfl rfl ?_
  refine SL.val (Val.load1 tabOk rfl rfl (by first|(apply Or.inl;(repeat first|assumption|exact m0|apply m1);done)|(apply Or.inr;(repeat first|assumption|exact m0|apply m1);done)) List.not_mem_nil (by rfl)) rfl rfl ?_
  refine SL.val (Val.eqI rfl rfl) rfl rfl ?_
  refine SL.val (Val.pickT rfl rfl) rfl rfl ?_
  refine SL.val (Val.move rfl) rfl rfl ?_
  refine SL.bothP (t := 17) rfl ?_ ?_
  rotate_left
  · intro hc17
    iterate 5 refine SL.skip rfl rfl ?_
    refine SL.val (Val.pickF rfl rfl) rfl rfl ?_
    refine SL.val (Val.assign rfl) rfl rfl ?_
    refine SL.nil (SE.seq ?_)
    refine SC.ret ?_
    refine SE.fin (rs := [.tmp 4]) rfl (RV.tmp rfl RV.nil) (()) (by repeat first|exact s0 _|exact s1 _|apply s2|apply s3) (by simp [It.rids]) ?_
    first
      | (refine boo_no fun h => ?_; subst h; first | exact hc10 rfl | exact hc17 rfl)
      | (refine boo_yes ⟨fun h => Prf.same hc10 hc17 (of_decide_eq_true h), fun h => ?_⟩; subst h; exact decide_eq_true rfl)
  intro hc17
  refine SL.val (Val.fieldAddr tabOk rfl rfl rfl rfl rfl) rfl rfl ?_
  refine SL.val (Val.load1 tabOk rfl rfl (by first|(apply Or.inl;(repeat first|assumption|exact m0|apply m1);done)|(apply Or.inr;(repeat first|assumption|exact m0|apply m1);done)) List.not_mem_nil (by rfl)) rfl rfl ?_
  refine SL.val (Val.fieldAddr tabOk rfl rfl rfl rfl rfl) rfl rfl ?_
  refine SL.val (Val.load1 tabOk rfl rfl (by first|(apply Or.inl;(repeat first|assumption|exact m0|apply m1);done)|(apply Or.inr;(repeat first|assumption|exact m0|apply m1);done)) List.not_mem_nil (by rfl)) rfl rfl ?_
  refine SL.call (bsame_s (es := p.batch) (fs := q.batch) hl h1.all h2.all) Casts.refl (by kernel_rfl) rfl rfl rfl ?_
  refine After.pure (by repeat first|exact .nil|refine .blk (by repeat first|assumption|exact m0|apply m1) ?_|refine .rd (by repeat first|assumption|exact m0|apply m1) ?_|refine .pc (by repeat first|assumption|exact m0|apply m1) ?_|refine .rdpc (by repeat first|assumption|exact m0|apply m1) ?_) (fun _ => rfl) ?_
  intro _
  refine SL.val (Val.pickT rfl rfl) rfl rfl ?_
  refine SL.val (Val.assign rfl) rfl rfl ?_
  refine SL.nil (SE.seq ?_)
  refine SC.ret ?_
  refine SE.fin (rs := [.tmp 4]) rfl (RV.tmp rfl RV.nil) (()) (by repeat first|exact s0 _|exact s1 _|apply s2|apply s3) (by simp [It.rids]) ?_
  first
    | (refine boo_no fun h => ?_; subst h; first | exact hc10 rfl | exact hc17 rfl)
    | (refine boo_yes ⟨fun h => Prf.same hc10 hc17 (of_decide_eq_true h), fun h => ?_⟩; subst h; exact decide_eq_true rfl)
set_option maxHeartbeats 2000000 in
theorem aequal_s (hl : Long fs) (h1 : ∀ p ∈ fs, p.Lits) (h2 : ∀ p ∈ gs, p.Lits) : Spec Try.prog 135 [prfsA fs, prfsA gs, .fn (.func 133) [] []] [] (fun _ : Unit => []) (fun _ => boo (yes (fs = gs))) := by
  have hn := hl.1
  refine spec_of Try.func135 rfl Try.ntmps135 rfl fun G w => ?_
  refine SC.seq (SC.region ?_)
  refine SL.val (Val.assign rfl) rfl rfl ?_
  refine SL.nil (SE.seq ?_)
  refine SC.seq ?_
  refine SC.seq (SC.region ?_)
  refine SL.val (Val.move rfl) rfl rfl ?_
  first
    | refine SL.val (Val.lenSl rfl Try.underlying50 (List.length_map _)) rfl rfl ?_
    | refine SL.val (Val.lenOwn rfl (by repeat first|assumption|exact m0|apply m1) Try.underlying50 (List.length_map _)) rfl rfl ?_
    | refine SL.val (Val.lenNil rfl Try.underlying50) rfl rfl ?_
  refine SL.val (Val.move rfl) rfl rfl ?_
  first
    | refine SL.val (Val.lenSl rfl Try.underlying50 (List.length_map _)) rfl rfl ?_
    | refine SL.val (Val.lenOwn rfl (by repeat first|assumption|exact m0|apply m1) Try.underlying50 (List.length_map _)) rfl rfl ?_
    | refine SL.val (Val.lenNil rfl Try.underlying50) rfl rfl ?_
  refine SL.val (Val.neI rfl rfl) rfl rfl ?_
  refine SL.nil (SE.seq ?_)
  refine SC.condP rfl ?_ ?_
  · intro hc14
    refine SC.seq (SC.region ?_)
    refine SL.val (Val.assign rfl) rfl rfl ?_
    refine SL.nil (SE.seq ?_)
    refine SC.ret ?_
    refine SE.then_ (by intro h; cases h) ?_
    refine SE.fin (rs := [.tmp 6]) rfl (RV.tmp rfl RV.nil) (()) (by repeat first|exact s0 _|exact s1 _|apply s2|apply s3) (by simp [It.rids]) ?_
    refine boo_no fun h => ?_
    subst h
    exact hc14 rfl
  intro hc14
  have hle : fs.length = gs.length := by omega
  refine SC.skip ?_
  refine SE.seq ?_
  refine SC.seq ?_
  refine SC.seq (SC.region ?_)
  refine SL.val (Val.move rfl) rfl rfl ?_
  first
    | refine SL.val (Val.lenSl rfl Try.underlying50 (List.length_map _)) rfl rfl ?_
    | refine SL.val (Val.lenOwn rfl (by repeat first|assumption|exact m0|apply m1) Try.underlying50 (List.length_map _)) rfl rfl ?_
    | refine SL.val (Val.lenNil rfl Try.underlying50) rfl rfl ?_
  refine SL.val (Val.move rfl) rfl rfl ?_
  refine SL.nil (SE.seq ?_)
  refine SC.block ?_
  refine SC.loop (ι := Nat) (fun z => []) (fun z => [(0, prfsA fs), (1, prfsA gs), (2, .fn (.func 133) [] []), (15, prfsA fs), (16, int (fs.length : Nat)), (17, int (z : Nat))]) (fun z => z ≤ fs.length ∧ fs.take z = gs.take z) (fun z => fs.length - z) (0) (⟨Nat.zero_le _, by simp⟩) (by exact ⟨rfl, rfl, rfl, rfl, rfl, rfl, trivial⟩) (by repeat first|exact s0 _|exact s1 _|apply s2|apply s3) ?_
  intro z hz
  refine SC.seq (SC.region ?_)
  refine SL.val (Val.ltI rfl rfl) rfl rfl ?_
  refine SL.nil (SE.seq ?_)
  refine SC.seq ?_
  refine SC.condP rfl ?_ ?_
  rotate_left
  · intro hc18
    refine SC.exit ?_
    refine SE.then_ (by intro h; cases h) ?_
    refine SE.then_ (by intro h; cases h) ?_
    refine SE.exit ?_
    refine SE.seq ?_
    refine SC.seq (SC.region ?_)
    refine SL.val (Val.assign rfl) rfl rfl ?_
    refine SL.nil (SE.seq ?_)
    refine SC.ret ?_
    refine SE.fin (rs := [.tmp 6]) rfl (RV.tmp rfl RV.nil) (()) (by repeat first|exact s0 _|exact s1 _|apply s2|apply s3) (by simp [It.rids]) ?_
    refine boo_yes ⟨fun _ => ?_, fun _ => rfl⟩
    have h9 := hz.2
    rw [List.take_of_length_le (by omega), List.take_of_length_le (by omega)] at h9
    exact h9
  intro hc18
  have hlt : z < fs.length := by omega
  have hlt2 : z < gs.length := by omega
  refine SC.skip ?_
  refine SE.seq ?_
  refine SC.seq ?_
  refine SC.block ?_
  refine SC.seq (SC.region ?_)
  refine SL.val (Val.move rfl) rfl rfl ?_
  refine SL.val (Val.indexSl tabOk Try.underlying50 rfl rfl rfl rfl (at_map (by omega)) rfl rfl) rfl rfl ?_
  first
    | refine SL.val (Val.loadAR tabOk rfl rfl rfl (by rfl)) rfl rfl ?_
    | refine SL.val (Val.loadPR tabOk rfl rfl rfl (Nat.le_of_ble_eq_true (by rfl))) rfl rfl ?_
  refine SL.eff (Eff.alloc tabOk rfl) rfl rfl ?_
  rintro _ _ ⟨b8, rfl, rfl⟩
  refine SL.val (Val.assign rfl) rfl rfl ?_
  refine SL.eff (Eff.store tabOk rfl rfl rfl (by repeat first|assumption|exact Upd.here|apply Upd.there) (by rfl) (Nat.le_of_ble_eq_true (by rfl)) (by rfl) (by rfl)) rfl rfl ?_
  rintro _ _ ⟨rfl, rfl⟩
  refine SL.nil (SE.seq ?_)
  refine SC.seq (SC.region ?_)
  refine SL.val (Val.move rfl) rfl rfl ?_
  refine SL.val (Val.move rfl) rfl rfl ?_
  refine SL.val (Val.indexSl tabOk Try.underlying50 rfl rfl rfl rfl (at_map (by omega)) rfl rfl) rfl rfl ?_
  first
    | refine SL.val (Val.loadAR tabOk rfl rfl rfl (by rfl)) rfl rfl ?_
    | refine SL.val (Val.loadPR tabOk rfl rfl rfl (Nat.le_of_ble_eq_true (by rfl))) rfl rfl ?_
  refine SL.eff (Eff.alloc tabOk rfl) rfl rfl ?_
  rintro _ _ ⟨b9, rfl, rfl⟩
  refine SL.eff (Eff.store tabOk rfl rfl rfl (by repeat first|assumption|exact Upd.here|apply Upd.there) (by rfl) (Nat.le_of_ble_eq_true (by rfl)) (by rfl) (by rfl)) rfl rfl ?_
  rintro _ _ ⟨rfl, rfl⟩
  refine SL.nil (SE.seq ?_)
  refine SC.seq (SC.region ?_)
  refine SL.val (Val.move rfl) rfl rfl ?_
  first
    | refine SL.val (Val.loadA tabOk rfl rfl rfl (by first|(apply Or.inl;(repeat first|assumption|exact m0|apply m1);done)|(apply Or.inr;(repeat first|assumption|exact m0|apply m1);done)) List.not_mem_nil (by rfl)) rfl rfl ?_
    | refine SL.val (Val.loadP tabOk rfl rfl rfl (by first|(apply Or.inl;(repeat first|assumption|exact m0|apply m1);done)|(apply Or.inr;(repeat first|assumption|exact m0|apply m1);done)) List.not_mem_nil (Nat.le_of_ble_eq_true (by rfl))) rfl rfl ?_
  first
    | refine SL.val (Val.loadA tabOk rfl rfl rfl (by first|(apply Or.inl;(repeat first|assumption|exact m0|apply m1);done)|(apply Or.inr;(repeat first|assumption|exact m0|apply m1);done)) List.not_mem_nil (by rfl)) rfl rfl ?_
    | refine SL.val (Val.loadP tabOk rfl rfl rfl (by first|(apply Or.inl;(repeat first|assumption|exact m0|apply m1);done)|(apply Or.inr;(repeat first|assumption|exact m0|apply m1);done)) List.not_mem_nil (Nat.le_of_ble_eq_true (by rfl))) rfl rfl ?_
  refine SL.callv (psame1_s (p := (fs[z]'hlt)) (q := (gs[z]'hlt2)) (hl.2 _ (List.getElem_mem hlt)) (h1 _ (List.getElem_mem hlt)) (h2 _ (List.getElem_mem hlt2))) rfl Casts.refl (by kernel_rfl) rfl rfl rfl ?_
  refine After.pure (by repeat first|exact .nil|refine .blk (by repeat first|assumption|exact m0|apply m1) ?_|refine .rd (by repeat first|assumption|exact m0|apply m1) ?_|refine .pc (by repeat first|assumption|exact m0|apply m1) ?_|refine .rdpc (by repeat first|assumption|exact m0|apply m1) ?_) (fun _ => rfl) ?_
  intro _
  refine SL.val (Val.notB rfl) rfl rfl ?_
  refine SL.nil (SE.seq ?_)
  refine SC.cond rfl ?_ ?_
  rotate_left
  · intro hc30
    refine SC.skip ?_
    refine SE.inBlock ?_
    refine SE.seq ?_
    refine SC.region ?_
    first
      | refine SL.val (Val.addI rfl rfl (by simp only [InR, lo, hi]; omega)) rfl rfl ?_
      | refine SL.val (Val.addW rfl rfl) rfl rfl ?_
    refine SL.val (Val.move rfl) rfl rfl ?_
    refine SL.nil ?_
    refine SE.round (z + 1) (by first | omega | (dsimp only; omega)) (⟨hlt, take_succ_eq hz.2 hlt hlt2 (yes_iff.1 (by simpa using hc30))⟩) (by exact ⟨rfl, rfl, rfl, rfl, rfl, rfl, trivial⟩) (by repeat first|exact s0 _|exact s1 _|apply s2|apply s3)
  intro hc30
  refine SC.seq (SC.region ?_)
  refine SL.val (Val.assign rfl) rfl rfl ?_
  refine SL.nil (SE.seq ?_)
  refine SC.ret ?_
  refine SE.ret ?_
  refine SE.then_ (by intro h; cases h) ?_
  refine SE.then_ (by intro h; cases h) ?_
  refine SE.ret ?_
  refine SE.then_ (by intro h; cases h) ?_
  refine SE.fin (rs := [.tmp 6]) rfl (RV.tmp rfl RV.nil) (()) (by repeat first|exact s0 _|exact s1 _|apply s2|apply s3) (by simp [It.rids]) ?_
  refine boo_no fun h => ?_
  subst h
  exact absurd rfl (no_iff.1 (by simpa using hc30 : yes ((fs[z]'hlt) = (fs[z]'hlt)) = false))
set_option maxHeartbeats 2000000 in
theorem psame_s (hp : c.points.length < 9223372036854775807) (ha : Long c.prepared) (hb : Long c.proposed) (h1 : c.Lits) (h2 : d.Lits) : Spec Try.prog 40 [.agg c.abs, .agg d.abs] [] (fun _ : Unit => []) (fun _ => boo (yes (c = d))) := by
  refine spec_of Try.func40 rfl Try.ntmps40 rfl fun G w => ?_
  refine SC.seq (SC.region ?_)
  refine SL.eff (Eff.boxA rfl) rfl rfl ?_
  rintro _ _ ⟨b2, rfl, rfl⟩
  refine SL.eff (Eff.boxA rfl) rfl rfl ?_
  rintro _ _ ⟨b3, rfl, rfl⟩
  refine SL.val (Val.assign rfl) rfl rfl ?_
  refine SL.nil (SE.seq ?_)
  refine SC.seq (SC.region ?_)
  refine SL.val (Val.assign rfl) rfl rfl ?_
  refine SL.nil (SE.seq ?_)
  refine SC.seq (SC.region ?_)
  refine SL.val (Val.fieldAddr tabOk rfl rfl rfl rfl rfl) rfl rfl ?_
  refine SL.val (Val.load1 tabOk rfl rfl (by first|(apply Or.inl;(repeat first|assumption|exact m0|apply m1);done)|(apply Or.inr;(repeat first|assumption|exact m0|apply m1);done)) List.not_mem_nil (by rfl)) rfl rfl ?_
  refine SL.val (Val.fieldAddr tabOk rfl rfl rfl rfl rfl) rfl rfl ?_
  refine SL.val (Val.load1 tabOk rfl rfl (by first|(apply Or.inl;(repeat first|assumption|exact m0|apply m1);done)|(apply Or.inr;(repeat first|assumption|exact m0|apply m1);done)) List.not_mem_nil (by rfl)) rfl rfl ?_
  refine SL.val (Val.eqI rfl rfl) rfl rfl ?_
  refine SL.val (Val.move rfl) rfl rfl ?_
  refine SL.bothP (t := 11) rfl ?_ ?_
  rotate_left
  · intro hc11
    iterate 5 refine SL.skip rfl rfl ?_
    refine SL.val (Val.pickF rfl rfl) rfl rfl ?_
    refine SL.val (Val.move rfl) rfl rfl ?_
    iterate 5 refine SL.skip rfl rfl ?_
    refine SL.val (Val.pickF rfl rfl) rfl rfl ?_
    refine SL.val (Val.move rfl) rfl rfl ?_
    iterate 6 refine SL.skip rfl rfl ?_
    refine SL.val (Val.pickF rfl rfl) rfl rfl ?_
    refine SL.val (Val.move rfl) rfl rfl ?_
    iterate 6 refine SL.skip rfl rfl ?_
    refine SL.val (Val.pickF rfl rfl) rfl rfl ?_
    refine SL.val (Val.assign rfl) rfl rfl ?_
    refine SL.nil (SE.seq ?_)
    refine SC.ret ?_
    refine SE.fin (rs := [.tmp 4]) rfl (RV.tmp rfl RV.nil) (()) (by repeat first|exact s0 _|exact s1 _|apply s2|apply s3) (by simp [It.rids]) ?_
    first
      | (refine boo_no fun h => ?_; subst h; first | exact hc11 rfl | exact hc18 rfl | exact absurd rfl (no_iff.1 hc25) | exact absurd rfl (no_iff.1 hc33))
      | (refine boo_yes ⟨fun h => Chg.same hc11 hc18 (yes_iff.1 hc25) (yes_iff.1 hc33) (yes_iff.1 h), fun h => ?_⟩; subst h; exact yes_iff.2 rfl)
  intro hc11
  refine SL.val (Val.fieldAddr tabOk rfl rfl rfl rfl rfl) rfl rfl ?_
  refine SL.val (Val.load1 tabOk rfl rfl (by first|(apply Or.inl;(repeat first|assumption|exact m0|apply m1);done)|(apply Or.inr;(repeat first|assumption|exact m0|apply m1);done)) List.not_mem_nil (by rfl)) rfl rfl ?_
  refine SL.val (Val.fieldAddr tabOk rfl rfl rfl rfl rfl) rfl rfl ?_
  refine SL.val (Val.load1 tabOk rfl rfl (by first|(apply Or.inl;(repeat first|assumption|exact m0|apply m1);done)|(apply Or.inr;(repeat first|assumption|exact m0|apply m1);done)) List.not_mem_nil (by rfl)) rfl rfl ?_
  refine SL.val (Val.eqI rfl rfl) rfl rfl ?_
  refine SL.val (Val.pickT rfl rfl) rfl rfl ?_
  refine SL.val (Val.move rfl) rfl rfl ?_
  refine SL.bothP (t := 18) rfl ?_ ?_
  rotate_left
  · intro hc18
    iterate 5 refine SL.skip rfl rfl ?_
    refine SL.val (Val.pickF rfl rfl) rfl rfl ?_
    refine SL.val (Val.move rfl) rfl rfl ?_
    iterate 6 refine SL.skip rfl rfl ?_
    refine SL.val (Val.pickF rfl rfl) rfl rfl ?_
    refine SL.val (Val.move rfl) rfl rfl ?_
    iterate 6 refine SL.skip rfl rfl ?_
    refine SL.val (Val.pickF rfl rfl) rfl rfl ?_
    refine SL.val (Val.assign rfl) rfl rfl ?_
    refine SL.nil (SE.seq ?_)
    refine SC.ret ?_
    refine SE.fin (rs := [.tmp 4]) rfl (RV.tmp rfl RV.nil) (()) (by repeat first|exact s0 _|exact s1 _|apply s2|apply s3) (by simp [It.rids]) ?_
    first
      | (refine boo_no fun h => ?_; subst h; first | exact hc11 rfl | exact hc18 rfl | exact absurd rfl (no_iff.1 hc25) | exact absurd rfl (no_iff.1 hc33))
      | (refine boo_yes ⟨fun h => Chg.same hc11 hc18 (yes_iff.1 hc25) (yes_iff.1 hc33) (yes_iff.1 h), fun h => ?_⟩; subst h; exact yes_iff.2 rfl)
  intro hc18
  refine SL.val (Val.fieldAddr tabOk rfl rfl rfl rfl rfl) rfl rfl ?_
  refine SL.val (Val.load1 tabOk rfl rfl (by first|(apply Or.inl;(repeat first|assumption|exact m0|apply m1);done)|(apply Or.inr;(repeat first|assumption|exact m0|apply m1);done)) List.not_mem_nil (by rfl)) rfl rfl ?_
  refine SL.val (Val.fieldAddr tabOk rfl rfl rfl rfl rfl) rfl rfl ?_
  refine SL.val (Val.load1 tabOk rfl rfl (by first|(apply Or.inl;(repeat first|assumption|exact m0|apply m1);done)|(apply Or.inr;(repeat first|assumption|exact m0|apply m1);done)) List.not_mem_nil (by rfl)) rfl rfl ?_
  refine SL.call (pequal_s (ps := c.points) (qs := d.points) hp h1.pts h2.pts) Casts.refl (by kernel_rfl) rfl rfl rfl ?_
  refine After.pure (by repeat first|exact .nil|refine .blk (by repeat first|assumption|exact m0|apply m1) ?_|refine .rd (by repeat first|assumption|exact m0|apply m1) ?_|refine .pc (by repeat first|assumption|exact m0|apply m1) ?_|refine .rdpc (by repeat first|assumption|exact m0|apply m1) ?_) (fun _ => rfl) ?_
  intro _
  refine SL.val (Val.pickT rfl rfl) rfl rfl ?_
  refine SL.val (Val.move rfl) rfl rfl ?_
  refine SL.both (t := 25) rfl ?_ ?_
  rotate_left
  · intro hc25
    iterate 6 refine SL.skip rfl rfl ?_
    refine SL.val (Val.pickF rfl rfl) rfl rfl ?_
    refine SL.val (Val.move rfl) rfl rfl ?_
    iterate 6 refine SL.skip rfl rfl ?_
    refine SL.val (Val.pickF rfl rfl) rfl rfl ?_
    refine SL.val (Val.assign rfl) rfl rfl ?_
    refine SL.nil (SE.seq ?_)
    refine SC.ret ?_
    refine SE.fin (rs := [.tmp 4]) rfl (RV.tmp rfl RV.nil) (()) (by repeat first|exact s0 _|exact s1 _|apply s2|apply s3) (by simp [It.rids]) ?_
    first
      | (refine boo_no fun h => ?_; subst h; first | exact hc11 rfl | exact hc18 rfl | exact absurd rfl (no_iff.1 hc25) | exact absurd rfl (no_iff.1 hc33))
      | (refine boo_yes ⟨fun h => Chg.same hc11 hc18 (yes_iff.1 hc25) (yes_iff.1 hc33) (yes_iff.1 h), fun h => ?_⟩; subst h; exact yes_iff.2 rfl)
  intro hc25
  refine SL.val (Val.fieldAddr tabOk rfl rfl rfl rfl rfl) rfl rfl ?_
  refine SL.val (Val.load1 tabOk rfl rfl (by first|(apply Or.inl;(repeat first|assumption|exact m0|apply m1);done)|(apply Or.inr;(repeat first|assumption|exact m0|apply m1);done)) List.not_mem_nil (by rfl)) rfl rfl ?_
  refine SL.val (Val.fieldAddr tabOk rfl rfl rfl rfl rfl) rfl rfl ?_
  refine SL.val (Val.load1 tabOk rfl rfl (by first|(apply Or.inl;(repeat first|assumption|exact m0|apply m1);done)|(apply Or.inr;(repeat first|assumption|exact m0|apply m1);done)) List.not_mem_nil (by rfl)) rfl rfl ?_
  refine SL.val (Val.move rfl) rfl rfl ?_
  refine SL.call (aequal_s (fs := c.prepared) (gs := d.prepared) ha h1.prep h2.prep) Casts.refl (by kernel_rfl) rfl rfl rfl ?_
  refine After.pure (by repeat first|exact .nil|refine .blk (by repeat first|assumption|exact m0|apply m1) ?_|refine .rd (by repeat first|assumption|exact m0|apply m1) ?_|refine .pc (by repeat first|assumption|exact m0|apply m1) ?_|refine .rdpc (by repeat first|assumption|exact m0|apply m1) ?_) (fun _ => rfl) ?_
  intro _
  refine SL.val (Val.pickT rfl rfl) rfl rfl ?_
  refine SL.val (Val.move rfl) rfl rfl ?_
  refine SL.both (t := 33) rfl ?_ ?_
  rotate_left
  · intro hc33
    iterate 6 refine SL.skip rfl rfl ?_
    refine SL.val (Val.pickF rfl rfl) rfl rfl ?_
    refine SL.val (Val.assign rfl) rfl rfl ?_
    refine SL.nil (SE.seq ?_)
    refine SC.ret ?_
    refine SE.fin (rs := [.tmp 4]) rfl (RV.tmp rfl RV.nil) (()) (by repeat first|exact s0 _|exact s1 _|apply s2|apply s3) (by simp [It.rids]) ?_
    first
      | (refine boo_no fun h => ?_; subst h; first | exact hc11 rfl | exact hc18 rfl | exact absurd rfl (no_iff.1 hc25) | exact absurd rfl (no_iff.1 hc33))
      | (refine boo_yes ⟨fun h => Chg.same hc11 hc18 (yes_iff.1 hc25) (yes_iff.1 hc33) (yes_iff.1 h), fun h => ?_⟩; subst h; exact yes_iff.2 rfl)
  intro hc33
  refine SL.val (Val.fieldAddr tabOk rfl rfl rfl rfl rfl) rfl rfl ?_
  refine SL.val (Val.load1 tabOk rfl rfl (by first|(apply Or.inl;(repeat first|assumption|exact m0|apply m1);done)|(apply Or.inr;(repeat first|assumption|exact m0|apply m1);done)) List.not_mem_nil (by rfl)) rfl rfl ?_
  refine SL.val (Val.fieldAddr tabOk rfl rfl rfl rfl rfl) rfl rfl ?_
  refine SL.val (Val.load1 tabOk rfl rfl (by first|(apply Or.inl;(repeat first|assumption|exact m0|apply m1);done)|(apply Or.inr;(repeat first|assumption|exact m0|apply m1);done)) List.not_mem_nil (by rfl)) rfl rfl ?_
  refine SL.val (Val.move rfl) rfl rfl ?_
  refine SL.call (aequal_s (fs := c.proposed) (gs := d.proposed) hb h1.prop h2.prop) Casts.refl (by kernel_rfl) rfl rfl rfl ?_
  refine After.pure (by repeat first|exact .nil|refine .blk (by repeat first|assumption|exact m0|apply m1) ?_|refine .rd (by repeat first|assumption|exact m0|apply m1) ?_|refine .pc (by repeat first|assumption|exact m0|apply m1) ?_|refine .rdpc (by repeat first|assumption|exact m0|apply m1) ?_) (fun _ => rfl) ?_
  intro _
  refine SL.val (Val.pickT rfl rfl) rfl rfl ?_
  refine SL.val (Val.assign rfl) rfl rfl ?_
  refine SL.nil (SE.seq ?_)
  refine SC.ret ?_
  refine SE.fin (rs := [.tmp 4]) rfl (RV.tmp rfl RV.nil) (()) (by repeat first|exact s0 _|exact s1 _|apply s2|apply s3) (by simp [It.rids]) ?_
  first
    | (refine boo_no fun h => ?_; subst h; first | exact hc11 rfl | exact hc18 rfl | exact absurd rfl (no_iff.1 hc25) | exact absurd rfl (no_iff.1 hc33))
    | (refine boo_yes ⟨fun h => Chg.same hc11 hc18 (yes_iff.1 hc25) (yes_iff.1 hc33) (yes_iff.1 h), fun h => ?_⟩; subst h; exact yes_iff.2 rfl)
variable {bp bd bt : Nat} {Dm : DMap} {Tm : TMap}
set_option maxHeartbeats 2000000 in
theorem cdigest_s (hf : c.Few) (hl : c.bytes.length ≤ maxLen) (hm : Dm.length < 1000000) (hpl : pl Dm (k8 102, c.bytes) < 9223372036854775808) : Spec Try.prog 41 [.ifc 25 (.v (.pointer (some ⟨bp, 0, none⟩))), .agg c.abs] [.pc (bkPc bp bd bt Dm Tm)] (fun _ : Unit => [.pc (bkPc bp bd bt (pm Dm (k8 102, c.bytes)) Tm)]) (fun _ => .agg (digA (numB (k8 102) (pl Dm (k8 102, c.bytes))))) := by
  refine spec_of Try.func41 rfl Try.ntmps41 rfl fun G w => ?_
  refine SC.seq (SC.region ?_)
  refine SL.eff (Eff.boxA rfl) rfl rfl ?_
  rintro _ _ ⟨b3, rfl, rfl⟩
  refine SL.eff (Eff.alloc tabOk rfl) rfl rfl ?_
  rintro _ _ ⟨b4, rfl, rfl⟩
  refine SL.nil (SE.seq ?_)
  refine SC.seq ?_
  refine SC.draw [b4, bp, bd, bt] (.q 0 (.q 3 (.q 4 (.q 5 (.e 1 (.e 2 (.e 6 (.e 7 .nil)))))))) (by kernel_rfl) (by kernel_rfl) ?_
  refine SX.val rfl (Val.move rfl) (by first | (simp [mids, It.mids, ownPc, bkPc]; done) | (intro k hk; simp [mids, It.mids, ownPc, bkPc] at hk ⊢; grind)) rfl rfl ?_
  refine SX.val rfl (Val.makeFunc rfl rfl) (by first | (simp [mids, It.mids, ownPc, bkPc]; done) | (intro k hk; simp [mids, It.mids, ownPc, bkPc] at hk ⊢; grind)) rfl rfl ?_
  refine SX.val rfl (Val.nilMethod rfl (fun w => by kernel_rfl)) (by first | (simp [mids, It.mids, ownPc, bkPc]; done) | (intro k hk; simp [mids, It.mids, ownPc, bkPc] at hk ⊢; grind)) rfl rfl ?_
  refine SX.val rfl (Val.move rfl) (by first | (simp [mids, It.mids, ownPc, bkPc]; done) | (intro k hk; simp [mids, It.mids, ownPc, bkPc] at hk ⊢; grind)) rfl rfl ?_
  first
    | refine SX.valE rfl (Val.loadA tabOk rfl rfl rfl (by first|(apply Or.inl;(repeat first|assumption|exact m0|apply m1);done)|(apply Or.inr;(repeat first|assumption|exact m0|apply m1);done)) List.not_mem_nil (by rfl)) rfl rfl ?_
    | refine SX.valE rfl (Val.loadP tabOk rfl rfl rfl (by first|(apply Or.inl;(repeat first|assumption|exact m0|apply m1);done)|(apply Or.inr;(repeat first|assumption|exact m0|apply m1);done)) List.not_mem_nil (Nat.le_of_ble_eq_true (by rfl))) rfl rfl ?_
  refine SX.call rfl (bytes_s (c := c) hf) (by simp [mids, It.mids]) Casts.refl (by kernel_rfl) rfl rfl rfl ?_
  refine After.pure (by repeat first|exact .nil|refine .blk (by repeat first|assumption|exact m0|apply m1) ?_|refine .rd (by repeat first|assumption|exact m0|apply m1) ?_|refine .pc (by repeat first|assumption|exact m0|apply m1) ?_|refine .rdpc (by repeat first|assumption|exact m0|apply m1) ?_) (fun _ => rfl) ?_
  intro _
  refine SX.invokeR rfl (bkdigest_s (p := bp) (bd := bd) (bt := bt) (D := Dm) (T := Tm) (k := 102) (l := c.bytes) hl hm hpl) (by simp [mids, It.mids, bkPc]) rfl Casts.refl (fun _ _ _ => by kernel_rfl) rfl rfl rfl ?_
  refine After.one rfl (by repeat first|assumption|exact m0|apply m1) (fun _ => rfl) ?_
  intro _
  refine ⟨_, (by repeat first|assumption|exact Upd.here|apply Upd.there), ?_⟩
  refine SX.eff rfl (Eff.store (L' := digA (numB (k8 102) (pl Dm (k8 102, c.bytes)))) tabOk rfl rfl rfl (by repeat first|assumption|exact Upd.here|apply Upd.there) (by simp only [cellsA, digA, List.length_map]; rw [numB_length]) (Nat.le_of_ble_eq_true (by rfl)) (by show ones (digA _) = true; rw [ones_iff]; intro a ha; obtain ⟨b, _, rfl⟩ := List.mem_map.1 ha; rfl) (by exact putL_all (by simp only [cellsA, digA, List.length_map]; rw [numB_length]; rfl))) (by simp) rfl rfl ?_
  rintro _ _ ⟨rfl, rfl⟩
  refine SX.nil (SE.seq ?_)
  refine SC.ret ?_
  refine SE.fin (rs := [.cell 4 30]) rfl (RV.cell rfl (RV.cellA tabOk rfl rfl (by first|(apply Or.inl;(repeat first|assumption|exact m0|apply m1);done)|(apply Or.inr;(repeat first|assumption|exact m0|apply m1);done)) (by simp only [digA, List.length_map]; rw [numB_length])) RV.nil) () (by repeat first|exact s0 _|exact s1 _|apply s2|apply s3) (by simp [It.rids]) rfl
/-- Two texts that are digested one behind the other, by a new book. -/
theorem pl_new {α : Type} [DecidableEq α] (x y : α) : pl ([] : List (α × Nat)) x = 1 ∧ (pl (pm [] x) y = 1 ↔ y = x) ∧ pl (pm [] x) y ≤ 2 ∧ (pm [] x).length = 1 := by
  have h : pm [] x = [(x, 1)] := by simp [pm, aget, aput]
  refine ⟨rfl, (Inv1.start x).pl y, ?_, by rw [h]; rfl⟩
  rw [h]
  unfold pl aget
  by_cases hxy : x = y <;> simp [hxy]
theorem two_digests (k : Nat) (hk : k < 256) (x y : List UInt8) : numB k (pl ([] : DMap) (k, x)) = numB k (pl (pm ([] : DMap) (k, x)) (k, y)) ↔ x = y := by
  obtain ⟨h1, h2, h3, _⟩ := pl_new (k, x) (k, y)
  rw [h1]
  constructor
  · intro h
    have h4 := (numB_inj hk hk (by omega) (by omega) h).2
    have h5 := h2.1 h4.symm
    simp only [Prod.mk.injEq, true_and] at h5
    exact h5.symm
  · intro h
    rw [h2.2 (by rw [h])]
theorem digests_same (hc : c.Lits) (hd : d.Lits) (h1 : c.Right 4) (h2 : d.Right 4) (l1 : c.bytes.length < 4294967296) (l2 : d.bytes.length < 4294967296) (h : c.bytes = d.bytes) : c = d := by
  have e1 := chg_back hc ((check_right (by omega)).2 h1) l1
  have e2 := chg_back hd ((check_right (by omega)).2 h2) l2
  rw [h, e2] at e1
  exact (congrArg Prod.fst e1).symm
set_option maxHeartbeats 4000000 in
theorem digests_s (hc : c.Lits) (hd : d.Lits) : Spec Try.prog 6 [.agg c.abs, .agg d.abs] [] (fun _ : Unit => []) (fun _ => boo true) := by
  refine spec_of Try.func6 rfl Try.ntmps6 rfl fun G w => ?_
  refine SC.seq (SC.region ?_)
  refine SL.eff (Eff.boxA rfl) rfl rfl ?_
  rintro _ _ ⟨b2, rfl, rfl⟩
  refine SL.eff (Eff.boxA rfl) rfl rfl ?_
  rintro _ _ ⟨b3, rfl, rfl⟩
  refine SL.val (Val.assign rfl) rfl rfl ?_
  refine SL.nil (SE.seq ?_)
  refine SC.seq ?_
  refine SC.seq (SC.region ?_)
  refine SL.call (fixed18_s) Casts.refl (by kernel_rfl) rfl rfl rfl ?_
  refine After.pure (by repeat first|exact .nil|refine .blk (by repeat first|assumption|exact m0|apply m1) ?_|refine .rd (by repeat first|assumption|exact m0|apply m1) ?_|refine .pc (by repeat first|assumption|exact m0|apply m1) ?_|refine .rdpc (by repeat first|assumption|exact m0|apply m1) ?_) (fun _ => rfl) ?_
  intro _
  refine SL.val (Val.notT rfl) rfl rfl ?_
  refine SL.nil (SE.seq ?_)
  refine SC.condF rfl ?_
  refine SC.skip ?_
  refine SE.seq ?_
  refine SC.seq ?_
  refine SC.seq (SC.region ?_)
  first
    | refine SL.val (Val.loadA tabOk rfl rfl rfl (by first|(apply Or.inl;(repeat first|assumption|exact m0|apply m1);done)|(apply Or.inr;(repeat first|assumption|exact m0|apply m1);done)) List.not_mem_nil (by rfl)) rfl rfl ?_
    | refine SL.val (Val.loadP tabOk rfl rfl rfl (by first|(apply Or.inl;(repeat first|assumption|exact m0|apply m1);done)|(apply Or.inr;(repeat first|assumption|exact m0|apply m1);done)) List.not_mem_nil (Nat.le_of_ble_eq_true (by rfl))) rfl rfl ?_
  refine SL.call (few_s (c := c)) Casts.refl (by kernel_rfl) rfl rfl rfl ?_
  refine After.pure (by repeat first|exact .nil|refine .blk (by repeat first|assumption|exact m0|apply m1) ?_|refine .rd (by repeat first|assumption|exact m0|apply m1) ?_|refine .pc (by repeat first|assumption|exact m0|apply m1) ?_|refine .rdpc (by repeat first|assumption|exact m0|apply m1) ?_) (fun _ => rfl) ?_
  intro fc
  refine SL.val (Val.notB rfl) rfl rfl ?_
  refine SL.val (Val.move rfl) rfl rfl ?_
  refine SL.both (t := 13) rfl ?_ ?_
  · intro hc13
    iterate 3 refine SL.skip rfl rfl ?_
    refine SL.val (Val.pickT rfl rfl) rfl rfl ?_
    refine SL.nil (SE.seq ?_)
    refine SC.condT rfl ?_
    refine SC.seq (SC.region ?_)
    refine SL.val (Val.assign rfl) rfl rfl ?_
    refine SL.nil (SE.seq ?_)
    refine SC.ret ?_
    refine SE.then_ (by intro h; cases h) ?_
    refine SE.fin (rs := [.tmp 4]) rfl (RV.tmp rfl RV.nil) (()) (by repeat first|exact s0 _|exact s1 _|apply s2|apply s3) (by simp [It.rids]) ?_
    exact rfl
  intro hc13
  first
    | refine SL.val (Val.loadA tabOk rfl rfl rfl (by first|(apply Or.inl;(repeat first|assumption|exact m0|apply m1);done)|(apply Or.inr;(repeat first|assumption|exact m0|apply m1);done)) List.not_mem_nil (by rfl)) rfl rfl ?_
    | refine SL.val (Val.loadP tabOk rfl rfl rfl (by first|(apply Or.inl;(repeat first|assumption|exact m0|apply m1);done)|(apply Or.inr;(repeat first|assumption|exact m0|apply m1);done)) List.not_mem_nil (Nat.le_of_ble_eq_true (by rfl))) rfl rfl ?_
  refine SL.call (few_s (c := d)) Casts.refl (by kernel_rfl) rfl rfl rfl ?_
  refine After.pure (by repeat first|exact .nil|refine .blk (by repeat first|assumption|exact m0|apply m1) ?_|refine .rd (by repeat first|assumption|exact m0|apply m1) ?_|refine .pc (by repeat first|assumption|exact m0|apply m1) ?_|refine .rdpc (by repeat first|assumption|exact m0|apply m1) ?_) (fun _ => rfl) ?_
  intro fd
  refine SL.val (Val.notB rfl) rfl rfl ?_
  refine SL.val (Val.pickF rfl rfl) rfl rfl ?_
  refine SL.nil (SE.seq ?_)
  refine SC.cond rfl ?_ ?_
  · intro hc17
    refine SC.seq (SC.region ?_)
    refine SL.val (Val.assign rfl) rfl rfl ?_
    refine SL.nil (SE.seq ?_)
    refine SC.ret ?_
    refine SE.then_ (by intro h; cases h) ?_
    refine SE.fin (rs := [.tmp 4]) rfl (RV.tmp rfl RV.nil) (()) (by repeat first|exact s0 _|exact s1 _|apply s2|apply s3) (by simp [It.rids]) ?_
    exact rfl
  intro hc17
  have ac := fc.2 (by simpa using hc13)
  have ad := fd.2 (by simpa using hc17)
  have lc := ac.bytes
  have ld := ad.bytes
  refine SC.skip ?_
  refine SE.seq ?_
  refine SC.seq (SC.region ?_)
  refine SL.call (bknew_s) Casts.refl (by kernel_rfl) rfl rfl rfl ?_
  refine After.make (by repeat first|exact .nil|refine .blk (by repeat first|assumption|exact m0|apply m1) ?_|refine .rd (by repeat first|assumption|exact m0|apply m1) ?_|refine .pc (by repeat first|assumption|exact m0|apply m1) ?_|refine .rdpc (by repeat first|assumption|exact m0|apply m1) ?_) (fun _ => rfl) ?_
  intro z0
  refine SL.val (Val.assign rfl) rfl rfl ?_
  refine SL.nil (SE.seq ?_)
  refine SC.seq (SC.region ?_)
  first
    | refine SL.val (Val.loadA tabOk rfl rfl rfl (by first|(apply Or.inl;(repeat first|assumption|exact m0|apply m1);done)|(apply Or.inr;(repeat first|assumption|exact m0|apply m1);done)) List.not_mem_nil (by rfl)) rfl rfl ?_
    | refine SL.val (Val.loadP tabOk rfl rfl rfl (by first|(apply Or.inl;(repeat first|assumption|exact m0|apply m1);done)|(apply Or.inr;(repeat first|assumption|exact m0|apply m1);done)) List.not_mem_nil (Nat.le_of_ble_eq_true (by rfl))) rfl rfl ?_
  first
    | refine SL.val (Val.loadA tabOk rfl rfl rfl (by first|(apply Or.inl;(repeat first|assumption|exact m0|apply m1);done)|(apply Or.inr;(repeat first|assumption|exact m0|apply m1);done)) List.not_mem_nil (by rfl)) rfl rfl ?_
    | refine SL.val (Val.loadP tabOk rfl rfl rfl (by first|(apply Or.inl;(repeat first|assumption|exact m0|apply m1);done)|(apply Or.inr;(repeat first|assumption|exact m0|apply m1);done)) List.not_mem_nil (Nat.le_of_ble_eq_true (by rfl))) rfl rfl ?_
  refine SL.call (rsame_s (c := c) (d := d) ac.sized.pts ac.sized.prep ac.sized.prop hc hd) Casts.refl (by kernel_rfl) rfl rfl rfl ?_
  refine After.pure (by repeat first|exact .nil|refine .blk (by repeat first|assumption|exact m0|apply m1) ?_|refine .rd (by repeat first|assumption|exact m0|apply m1) ?_|refine .pc (by repeat first|assumption|exact m0|apply m1) ?_|refine .rdpc (by repeat first|assumption|exact m0|apply m1) ?_) (fun _ => rfl) ?_
  intro _
  refine SL.val (Val.assign rfl) rfl rfl ?_
  refine SL.nil (SE.seq ?_)
  refine SC.seq ?_
  refine SC.seq (SC.region ?_)
  first
    | refine SL.val (Val.loadA tabOk rfl rfl rfl (by first|(apply Or.inl;(repeat first|assumption|exact m0|apply m1);done)|(apply Or.inr;(repeat first|assumption|exact m0|apply m1);done)) List.not_mem_nil (by rfl)) rfl rfl ?_
    | refine SL.val (Val.loadP tabOk rfl rfl rfl (by first|(apply Or.inl;(repeat first|assumption|exact m0|apply m1);done)|(apply Or.inr;(repeat first|assumption|exact m0|apply m1);done)) List.not_mem_nil (Nat.le_of_ble_eq_true (by rfl))) rfl rfl ?_
  first
    | refine SL.val (Val.loadA tabOk rfl rfl rfl (by first|(apply Or.inl;(repeat first|assumption|exact m0|apply m1);done)|(apply Or.inr;(repeat first|assumption|exact m0|apply m1);done)) List.not_mem_nil (by rfl)) rfl rfl ?_
    | refine SL.val (Val.loadP tabOk rfl rfl rfl (by first|(apply Or.inl;(repeat first|assumption|exact m0|apply m1);done)|(apply Or.inr;(repeat first|assumption|exact m0|apply m1);done)) List.not_mem_nil (Nat.le_of_ble_eq_true (by rfl))) rfl rfl ?_
  refine SL.call (psame_s (c := c) (d := d) ac.sized.pts ac.sized.prep ac.sized.prop hc hd) Casts.refl (by kernel_rfl) rfl rfl rfl ?_
  refine After.pure (by repeat first|exact .nil|refine .blk (by repeat first|assumption|exact m0|apply m1) ?_|refine .rd (by repeat first|assumption|exact m0|apply m1) ?_|refine .pc (by repeat first|assumption|exact m0|apply m1) ?_|refine .rdpc (by repeat first|assumption|exact m0|apply m1) ?_) (fun _ => rfl) ?_
  intro _
  refine SL.val (Val.move rfl) rfl rfl ?_
  refine SL.val (Val.neB rfl rfl (by kernel_rfl)) rfl rfl ?_
  refine SL.nil (SE.seq ?_)
  refine SC.cond rfl (by intro hc26; exfalso; simp at hc26) ?_
  intro hc26
  refine SC.skip ?_
  refine SE.seq ?_
  refine SC.seq ?_
  obtain ⟨g1, g2, g3, g4⟩ := pl_new (k8 102, c.bytes) (k8 102, d.bytes)
  refine SC.known (p := b2 ∉ [z0.1, z0.2.1, z0.2.2] ∧ b3 ∉ [z0.1, z0.2.1, z0.2.2]) (fun _ _ h => by
      have h1 := h.mem.nodup
      simp [mids, It.mids, bkPc] at h1
      simp only [List.mem_cons, List.not_mem_nil, or_false]
      omega) fun hX => ?_
  obtain ⟨hX2, hX3⟩ := hX
  refine SC.draw [z0.1, z0.2.1, z0.2.2] (.q 0 (.q 1 (.q 2 (.q 4 (.q 5 (.q 6 (.e 3 (.e 7 (.q 8 (.q 9 .nil)))))))))) (by kernel_rfl) (by kernel_rfl) ?_
  refine SX.val rfl (Val.move rfl) (by first | (simp [mids, It.mids, ownPc, bkPc]; done) | (intro k hk; simp [mids, It.mids, ownPc, bkPc] at hk ⊢; grind)) rfl rfl ?_
  refine SX.val rfl (Val.makeIface rfl (fun _ _ => by kernel_rfl)) (by first | (simp [mids, It.mids, ownPc, bkPc]; done) | (intro k hk; simp [mids, It.mids, ownPc, bkPc] at hk ⊢; grind)) rfl rfl ?_
  first
    | refine SX.val rfl (Val.loadA tabOk rfl rfl rfl (by first|(apply Or.inl;(repeat first|assumption|exact m0|apply m1);done)|(apply Or.inr;(repeat first|assumption|exact m0|apply m1);done)) (by assumption) (by rfl)) (by first | (simp [mids, It.mids, ownPc, bkPc]; done) | (intro k hk; simp [mids, It.mids, ownPc, bkPc] at hk ⊢; grind)) rfl rfl ?_
    | refine SX.val rfl (Val.loadP tabOk rfl rfl rfl (by first|(apply Or.inl;(repeat first|assumption|exact m0|apply m1);done)|(apply Or.inr;(repeat first|assumption|exact m0|apply m1);done)) (by assumption) (Nat.le_of_ble_eq_true (by rfl))) (by first | (simp [mids, It.mids, ownPc, bkPc]; done) | (intro k hk; simp [mids, It.mids, ownPc, bkPc] at hk ⊢; grind)) rfl rfl ?_
  refine SX.val rfl (Val.move rfl) (by first | (simp [mids, It.mids, ownPc, bkPc]; done) | (intro k hk; simp [mids, It.mids, ownPc, bkPc] at hk ⊢; grind)) rfl rfl ?_
  refine SX.val rfl (Val.makeIface rfl (fun _ _ => by kernel_rfl)) (by first | (simp [mids, It.mids, ownPc, bkPc]; done) | (intro k hk; simp [mids, It.mids, ownPc, bkPc] at hk ⊢; grind)) rfl rfl ?_
  first
    | refine SX.val rfl (Val.loadA tabOk rfl rfl rfl (by first|(apply Or.inl;(repeat first|assumption|exact m0|apply m1);done)|(apply Or.inr;(repeat first|assumption|exact m0|apply m1);done)) (by assumption) (by rfl)) (by first | (simp [mids, It.mids, ownPc, bkPc]; done) | (intro k hk; simp [mids, It.mids, ownPc, bkPc] at hk ⊢; grind)) rfl rfl ?_
    | refine SX.val rfl (Val.loadP tabOk rfl rfl rfl (by first|(apply Or.inl;(repeat first|assumption|exact m0|apply m1);done)|(apply Or.inr;(repeat first|assumption|exact m0|apply m1);done)) (by assumption) (Nat.le_of_ble_eq_true (by rfl))) (by first | (simp [mids, It.mids, ownPc, bkPc]; done) | (intro k hk; simp [mids, It.mids, ownPc, bkPc] at hk ⊢; grind)) rfl rfl ?_
  refine SX.call rfl (cdigest_s (c := c) (bp := z0.1) (bd := z0.2.1) (bt := z0.2.2) (Dm := []) (Tm := []) (ac.few hc) (by have := ac.bytes; unfold maxLen; omega) (by simp) (by rw [g1]; omega)) (by simp [mids, It.mids, bkPc]) Casts.refl (by kernel_rfl) rfl rfl rfl ?_
  refine After.one rfl (by repeat first|assumption|exact m0|apply m1) (fun _ => rfl) ?_
  intro _
  refine ⟨_, (by repeat first|assumption|exact Upd.here|apply Upd.there), ?_⟩
  refine SX.call rfl (cdigest_s (c := d) (bp := z0.1) (bd := z0.2.1) (bt := z0.2.2) (Dm := pm [] (k8 102, c.bytes)) (Tm := []) (ad.few hd) (by have := ad.bytes; unfold maxLen; omega) (by rw [g4]; omega) (by omega)) (by simp [mids, It.mids, bkPc]) Casts.refl (by kernel_rfl) rfl rfl rfl ?_
  refine After.one rfl (by repeat first|assumption|exact m0|apply m1) (fun _ => rfl) ?_
  intro _
  refine ⟨_, (by repeat first|assumption|exact Upd.here|apply Upd.there), ?_⟩
  refine SX.val rfl (Val.eqA rfl rfl (plains_dig _) (plains_dig _) (by kernel_rfl) (eqlB Try.underlying30 (by kernel_rfl) (by kernel_rfl) _ _ (numB_length _ _) (numB_length _ _) _ rfl)) (by first | (simp [mids, It.mids, ownPc, bkPc]; done) | (intro k hk; simp [mids, It.mids, ownPc, bkPc] at hk ⊢; grind)) rfl rfl ?_
  refine SX.val rfl (Val.assign rfl) (by first | (simp [mids, It.mids, ownPc, bkPc]; done) | (intro k hk; simp [mids, It.mids, ownPc, bkPc] at hk ⊢; grind)) rfl rfl ?_
  refine SX.nil (SE.seq ?_)
  refine SC.seq ?_
  refine SC.seq (SC.region ?_)
  first
    | refine SL.val (Val.loadA tabOk rfl rfl rfl (by first|(apply Or.inl;(repeat first|assumption|exact m0|apply m1);done)|(apply Or.inr;(repeat first|assumption|exact m0|apply m1);done)) List.not_mem_nil (by rfl)) rfl rfl ?_
    | refine SL.val (Val.loadP tabOk rfl rfl rfl (by first|(apply Or.inl;(repeat first|assumption|exact m0|apply m1);done)|(apply Or.inr;(repeat first|assumption|exact m0|apply m1);done)) List.not_mem_nil (Nat.le_of_ble_eq_true (by rfl))) rfl rfl ?_
  refine SL.call (right_s (c := c) (n := 4) ac.sized.prep ac.sized.prop ac.sized.pts ac.fit.lprep ac.fit.lprop) Casts.refl (by kernel_rfl) rfl rfl rfl ?_
  refine After.pure (by repeat first|exact .nil|refine .blk (by repeat first|assumption|exact m0|apply m1) ?_|refine .rd (by repeat first|assumption|exact m0|apply m1) ?_|refine .pc (by repeat first|assumption|exact m0|apply m1) ?_|refine .rdpc (by repeat first|assumption|exact m0|apply m1) ?_) (fun _ => rfl) ?_
  intro _
  refine SL.val (Val.notB rfl) rfl rfl ?_
  refine SL.val (Val.move rfl) rfl rfl ?_
  refine SL.both (t := 39) rfl ?_ ?_
  · intro hc39
    iterate 3 refine SL.skip rfl rfl ?_
    refine SL.val (Val.pickT rfl rfl) rfl rfl ?_
    refine SL.nil (SE.seq ?_)
    refine SC.condT rfl ?_
    refine SC.seq (SC.region ?_)
    refine SL.val (Val.move rfl) rfl rfl ?_
    refine SL.val (Val.notB rfl) rfl rfl ?_
    refine SL.val (Val.move rfl) rfl rfl ?_
    refine SL.both (t := 46) rfl ?_ ?_
    · intro hc46
      refine SL.skip rfl rfl ?_
      refine SL.val (Val.pickT rfl rfl) rfl rfl ?_
      refine SL.val (Val.assign rfl) rfl rfl ?_
      refine SL.nil (SE.seq ?_)
      refine SC.ret ?_
      refine SE.then_ (by intro h; cases h) ?_
      refine SE.fin (rs := [.tmp 4]) rfl (RV.tmp rfl RV.nil) (()) (by repeat first|exact s0 _|exact s1 _|apply s2|apply s3) (by simp [It.rids]) ?_
      first
        | rfl
        | (refine congrArg (fun b => Abs.v (Value.bool b)) (decide_eq_true ?_)
           have hcd : c = d := yes_iff.1 (by simpa using hc46)
           subst hcd
           exact (two_digests (k8 102) (by decide) c.bytes c.bytes).2 rfl)
    intro hc46
    refine SL.val (Val.move rfl) rfl rfl ?_
    refine SL.val (Val.pickF rfl rfl) rfl rfl ?_
    refine SL.val (Val.assign rfl) rfl rfl ?_
    refine SL.nil (SE.seq ?_)
    refine SC.ret ?_
    refine SE.then_ (by intro h; cases h) ?_
    refine SE.fin (rs := [.tmp 4]) rfl (RV.tmp rfl RV.nil) (()) (by repeat first|exact s0 _|exact s1 _|apply s2|apply s3) (by simp [It.rids]) ?_
    first
      | rfl
      | (refine congrArg (fun b => Abs.v (Value.bool b)) (decide_eq_true ?_)
         have hcd : c = d := yes_iff.1 (by simpa using hc46)
         subst hcd
         exact (two_digests (k8 102) (by decide) c.bytes c.bytes).2 rfl)
  intro hc39
  first
    | refine SL.val (Val.loadA tabOk rfl rfl rfl (by first|(apply Or.inl;(repeat first|assumption|exact m0|apply m1);done)|(apply Or.inr;(repeat first|assumption|exact m0|apply m1);done)) List.not_mem_nil (by rfl)) rfl rfl ?_
    | refine SL.val (Val.loadP tabOk rfl rfl rfl (by first|(apply Or.inl;(repeat first|assumption|exact m0|apply m1);done)|(apply Or.inr;(repeat first|assumption|exact m0|apply m1);done)) List.not_mem_nil (Nat.le_of_ble_eq_true (by rfl))) rfl rfl ?_
  refine SL.call (right_s (c := d) (n := 4) ad.sized.prep ad.sized.prop ad.sized.pts ad.fit.lprep ad.fit.lprop) Casts.refl (by kernel_rfl) rfl rfl rfl ?_
  refine After.pure (by repeat first|exact .nil|refine .blk (by repeat first|assumption|exact m0|apply m1) ?_|refine .rd (by repeat first|assumption|exact m0|apply m1) ?_|refine .pc (by repeat first|assumption|exact m0|apply m1) ?_|refine .rdpc (by repeat first|assumption|exact m0|apply m1) ?_) (fun _ => rfl) ?_
  intro _
  refine SL.val (Val.notB rfl) rfl rfl ?_
  refine SL.val (Val.pickF rfl rfl) rfl rfl ?_
  refine SL.nil (SE.seq ?_)
  refine SC.cond rfl ?_ ?_
  rotate_left
  · intro hc43
    refine SC.skip ?_
    refine SE.seq ?_
    refine SC.seq (SC.region ?_)
    refine SL.val (Val.move rfl) rfl rfl ?_
    refine SL.val (Val.move rfl) rfl rfl ?_
    refine SL.val (Val.eqB rfl rfl (by kernel_rfl)) rfl rfl ?_
    refine SL.val (Val.assign rfl) rfl rfl ?_
    refine SL.nil (SE.seq ?_)
    refine SC.ret ?_
    refine SE.fin (rs := [.tmp 4]) rfl (RV.tmp rfl RV.nil) (()) (by repeat first|exact s0 _|exact s1 _|apply s2|apply s3) (by simp [It.rids]) ?_
    refine congrArg (fun b => Abs.v (Value.bool b)) ?_
    have r1 : c.Right 4 := yes_iff.1 (by simpa using hc39)
    have r2 : d.Right 4 := yes_iff.1 (by simpa using hc43)
    have hiff := two_digests (k8 102) (by decide) c.bytes d.bytes
    by_cases hcd : c = d
    · subst hcd
      rw [yes_iff.2 (rfl : c = c), decide_eq_true (hiff.2 rfl)]
      rfl
    · rw [no_iff.2 hcd, decide_eq_false (fun h => hcd (digests_same hc hd r1 r2 (by omega) (by omega) (hiff.1 h)))]
      rfl
  intro hc43
  refine SC.seq (SC.region ?_)
  refine SL.val (Val.move rfl) rfl rfl ?_
  refine SL.val (Val.notB rfl) rfl rfl ?_
  refine SL.val (Val.move rfl) rfl rfl ?_
  refine SL.both (t := 46) rfl ?_ ?_
  · intro hc46
    refine SL.skip rfl rfl ?_
    refine SL.val (Val.pickT rfl rfl) rfl rfl ?_
    refine SL.val (Val.assign rfl) rfl rfl ?_
    refine SL.nil (SE.seq ?_)
    refine SC.ret ?_
    refine SE.then_ (by intro h; cases h) ?_
    refine SE.fin (rs := [.tmp 4]) rfl (RV.tmp rfl RV.nil) (()) (by repeat first|exact s0 _|exact s1 _|apply s2|apply s3) (by simp [It.rids]) ?_
    first
      | rfl
      | (refine congrArg (fun b => Abs.v (Value.bool b)) (decide_eq_true ?_)
         have hcd : c = d := yes_iff.1 (by simpa using hc46)
         subst hcd
         exact (two_digests (k8 102) (by decide) c.bytes c.bytes).2 rfl)
  intro hc46
  refine SL.val (Val.move rfl) rfl rfl ?_
  refine SL.val (Val.pickF rfl rfl) rfl rfl ?_
  refine SL.val (Val.assign rfl) rfl rfl ?_
  refine SL.nil (SE.seq ?_)
  refine SC.ret ?_
  refine SE.then_ (by intro h; cases h) ?_
  refine SE.fin (rs := [.tmp 4]) rfl (RV.tmp rfl RV.nil) (()) (by repeat first|exact s0 _|exact s1 _|apply s2|apply s3) (by simp [It.rids]) ?_
  first
    | rfl
    | (refine congrArg (fun b => Abs.v (Value.bool b)) (decide_eq_true ?_)
       have hcd : c = d := yes_iff.1 (by simpa using hc46)
       subst hcd
       exact (two_digests (k8 102) (by decide) c.bytes c.bytes).2 rfl)
end
end Go.Proofs.Ytpgffckfbgfgcaa.A
