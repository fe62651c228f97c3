/-
  Packed out of the texts: C4, A8, Chg1, Chg3.
-/
import Derived.Test.YtpgffckfbgfgcaaV09
/-
  Changes: Check, and the document's.
-/
set_option maxRecDepth 100000
set_option linter.unusedSimpArgs false
set_option linter.unusedVariables false
namespace Go.Proofs.Ytpgffckfbgfgcaa.A
open Go.RowKit

theorem putL_all {L ys : List Abs} (h : ys.length = L.length) : putL L 0 ys = ys := by
  simp [putL, h]
theorem rises_at {α : Type} {p : α → α → Bool} {xs : List α} (h : Rises p xs) {z : Nat} (h0 : 0 < z) (hlt : z < xs.length) : p (xs[z - 1]'(by omega)) xs[z] = true := by
  have := h (z - 1) (by omega)
  simpa [show z - 1 + 1 = z by omega] using this
def Lets (ps : List Prf) : Prop := ∀ p ∈ ps, ∀ e ∈ p.batch, e.core.letter.size ≤ lots
section
variable {c : Chg} {p q : Prf} {ps : List Prf} {n low most : Int}
theorem check_s (h1 : Long c.prepared) (h2 : Long c.proposed) (h3 : c.points.length < 9223372036854775807) : Spec Try.prog 119 [.agg c.abs, int n] [] (fun _ : Unit => []) (fun _ => int (c.check n)) := by
  refine spec_of Try.func119 rfl Try.ntmps119 rfl fun G w => ?_
  refine SC.seq (SC.region ?_)
  refine SL.eff (Eff.boxA rfl) rfl rfl ?_
  rintro _ _ ⟨b2, rfl, rfl⟩
  refine SL.val (Val.assign rfl) rfl rfl ?_
  refine SL.nil (SE.seq ?_)
  refine SC.seq ?_
  refine SC.block ?_
  refine SC.seq (SC.region ?_)
  refine SL.val (Val.move rfl) rfl rfl ?_
  refine SL.val (Val.ltI rfl rfl) rfl rfl ?_
  refine SL.val (Val.move rfl) rfl rfl ?_
  refine SL.bothP (t := 8) rfl ?_ ?_
  · intro hc8
    iterate 2 refine SL.skip rfl rfl ?_
    refine SL.val (Val.pickT rfl rfl) rfl rfl ?_
    refine SL.val (Val.assign rfl) rfl rfl ?_
    refine SL.nil (SE.seq ?_)
    refine SC.condT rfl ?_
    refine SC.seq (SC.region ?_)
    refine SL.val (Val.assign rfl) rfl rfl ?_
    refine SL.nil (SE.seq ?_)
    refine SC.ret ?_
    refine SE.ret ?_
    refine SE.then_ (by intro h; cases h) ?_
    refine SE.fin (rs := [.tmp 4]) rfl (RV.tmp rfl RV.nil) (()) (by repeat first|exact s0 _|exact s1 _|apply s2|apply s3) (by simp [It.rids]) ?_
    refine congrArg int ?_
    unfold Chg.check
    first
      | (rw [if_pos (by omega)])
      | (rw [if_neg (by omega), show yes (c.Right n) = true from yes_iff.2 (by unfold Chg.Right; simp_all [yes_iff]; try omega)]; rfl)
      | (rw [if_neg (by omega), show yes (c.Right n) = false from no_iff.2 (by
          rintro ⟨h1, h2, h3, h4, h5, h6⟩
          have e3 := decide_eq_true h3
          have e4 := yes_iff.2 h4
          have e5 := yes_iff.2 h5
          have e6 := yes_iff.2 h6
          first | omega | simp_all)]; rfl)
  intro hc8
  refine SL.val (Val.move rfl) rfl rfl ?_
  refine SL.val (Val.gtI rfl rfl) rfl rfl ?_
  refine SL.val (Val.pickF rfl rfl) rfl rfl ?_
  refine SL.val (Val.assign rfl) rfl rfl ?_
  refine SL.nil (SE.seq ?_)
  refine SC.condP rfl ?_ ?_
  · intro hc5
    refine SC.seq (SC.region ?_)
    refine SL.val (Val.assign rfl) rfl rfl ?_
    refine SL.nil (SE.seq ?_)
    refine SC.ret ?_
    refine SE.ret ?_
    refine SE.then_ (by intro h; cases h) ?_
    refine SE.fin (rs := [.tmp 4]) rfl (RV.tmp rfl RV.nil) (()) (by repeat first|exact s0 _|exact s1 _|apply s2|apply s3) (by simp [It.rids]) ?_
    refine congrArg int ?_
    unfold Chg.check
    first
      | (rw [if_pos (by omega)])
      | (rw [if_neg (by omega), show yes (c.Right n) = true from yes_iff.2 (by unfold Chg.Right; simp_all [yes_iff]; try omega)]; rfl)
      | (rw [if_neg (by omega), show yes (c.Right n) = false from no_iff.2 (by
          rintro ⟨h1, h2, h3, h4, h5, h6⟩
          have e3 := decide_eq_true h3
          have e4 := yes_iff.2 h4
          have e5 := yes_iff.2 h5
          have e6 := yes_iff.2 h6
          first | omega | simp_all)]; rfl)
  intro hc5
  refine SC.seq (SC.region ?_)
  refine SL.val (Val.fieldAddr tabOk rfl rfl rfl rfl rfl) rfl rfl ?_
  refine SL.val (Val.load1 tabOk rfl rfl (by first|(apply Or.inl;(repeat first|assumption|exact m0|apply m1);done)|(apply Or.inr;(repeat first|assumption|exact m0|apply m1);done)) List.not_mem_nil (by rfl)) rfl rfl ?_
  refine SL.val (Val.ltI rfl rfl) rfl rfl ?_
  refine SL.val (Val.move rfl) rfl rfl ?_
  refine SL.bothP (t := 16) rfl ?_ ?_
  · intro hc16
    iterate 3 refine SL.skip rfl rfl ?_
    refine SL.val (Val.pickT rfl rfl) rfl rfl ?_
    refine SL.val (Val.move rfl) rfl rfl ?_
    iterate 4 refine SL.skip rfl rfl ?_
    refine SL.val (Val.pickT rfl rfl) rfl rfl ?_
    refine SL.val (Val.move rfl) rfl rfl ?_
    iterate 6 refine SL.skip rfl rfl ?_
    refine SL.val (Val.pickT rfl rfl) rfl rfl ?_
    refine SL.val (Val.assign rfl) rfl rfl ?_
    refine SL.nil (SE.seq ?_)
    refine SC.condT rfl ?_
    refine SC.seq (SC.region ?_)
    refine SL.val (Val.assign rfl) rfl rfl ?_
    refine SL.nil (SE.seq ?_)
    refine SC.ret ?_
    refine SE.ret ?_
    refine SE.then_ (by intro h; cases h) ?_
    refine SE.fin (rs := [.tmp 4]) rfl (RV.tmp rfl RV.nil) (()) (by repeat first|exact s0 _|exact s1 _|apply s2|apply s3) (by simp [It.rids]) ?_
    refine congrArg int ?_
    unfold Chg.check
    first
      | (rw [if_pos (by omega)])
      | (rw [if_neg (by omega), show yes (c.Right n) = true from yes_iff.2 (by unfold Chg.Right; simp_all [yes_iff]; try omega)]; rfl)
      | (rw [if_neg (by omega), show yes (c.Right n) = false from no_iff.2 (by
          rintro ⟨h1, h2, h3, h4, h5, h6⟩
          have e3 := decide_eq_true h3
          have e4 := yes_iff.2 h4
          have e5 := yes_iff.2 h5
          have e6 := yes_iff.2 h6
          first | omega | simp_all)]; rfl)
  intro hc16
  refine SL.val (Val.fieldAddr tabOk rfl rfl rfl rfl rfl) rfl rfl ?_
  refine SL.val (Val.load1 tabOk rfl rfl (by first|(apply Or.inl;(repeat first|assumption|exact m0|apply m1);done)|(apply Or.inr;(repeat first|assumption|exact m0|apply m1);done)) List.not_mem_nil (by rfl)) rfl rfl ?_
  refine SL.val (Val.gtI rfl rfl) rfl rfl ?_
  refine SL.val (Val.pickF rfl rfl) rfl rfl ?_
  refine SL.val (Val.move rfl) rfl rfl ?_
  refine SL.bothP (t := 21) rfl ?_ ?_
  · intro hc21
    iterate 4 refine SL.skip rfl rfl ?_
    refine SL.val (Val.pickT rfl rfl) rfl rfl ?_
    refine SL.val (Val.move rfl) rfl rfl ?_
    iterate 6 refine SL.skip rfl rfl ?_
    refine SL.val (Val.pickT rfl rfl) rfl rfl ?_
    refine SL.val (Val.assign rfl) rfl rfl ?_
    refine SL.nil (SE.seq ?_)
    refine SC.condT rfl ?_
    refine SC.seq (SC.region ?_)
    refine SL.val (Val.assign rfl) rfl rfl ?_
    refine SL.nil (SE.seq ?_)
    refine SC.ret ?_
    refine SE.ret ?_
    refine SE.then_ (by intro h; cases h) ?_
    refine SE.fin (rs := [.tmp 4]) rfl (RV.tmp rfl RV.nil) (()) (by repeat first|exact s0 _|exact s1 _|apply s2|apply s3) (by simp [It.rids]) ?_
    refine congrArg int ?_
    unfold Chg.check
    first
      | (rw [if_pos (by omega)])
      | (rw [if_neg (by omega), show yes (c.Right n) = true from yes_iff.2 (by unfold Chg.Right; simp_all [yes_iff]; try omega)]; rfl)
      | (rw [if_neg (by omega), show yes (c.Right n) = false from no_iff.2 (by
          rintro ⟨h1, h2, h3, h4, h5, h6⟩
          have e3 := decide_eq_true h3
          have e4 := yes_iff.2 h4
          have e5 := yes_iff.2 h5
          have e6 := yes_iff.2 h6
          first | omega | simp_all)]; rfl)
  intro hc21
  refine SL.val (Val.fieldAddr tabOk rfl rfl rfl rfl rfl) rfl rfl ?_
  refine SL.val (Val.load1 tabOk rfl rfl (by first|(apply Or.inl;(repeat first|assumption|exact m0|apply m1);done)|(apply Or.inr;(repeat first|assumption|exact m0|apply m1);done)) List.not_mem_nil (by rfl)) rfl rfl ?_
  refine SL.call (mark_s (x := c.low)) Casts.refl (by kernel_rfl) rfl rfl rfl ?_
  refine After.pure (by repeat first|exact .nil|refine .blk (by repeat first|assumption|exact m0|apply m1) ?_|refine .rd (by repeat first|assumption|exact m0|apply m1) ?_|refine .pc (by repeat first|assumption|exact m0|apply m1) ?_|refine .rdpc (by repeat first|assumption|exact m0|apply m1) ?_) (fun _ => rfl) ?_
  intro _
  refine SL.val (Val.notP rfl) rfl rfl ?_
  refine SL.val (Val.pickF rfl rfl) rfl rfl ?_
  refine SL.val (Val.move rfl) rfl rfl ?_
  refine SL.bothP (t := 27) rfl ?_ ?_
  · intro hc27
    iterate 6 refine SL.skip rfl rfl ?_
    refine SL.val (Val.pickT rfl rfl) rfl rfl ?_
    refine SL.val (Val.assign rfl) rfl rfl ?_
    refine SL.nil (SE.seq ?_)
    refine SC.condT rfl ?_
    refine SC.seq (SC.region ?_)
    refine SL.val (Val.assign rfl) rfl rfl ?_
    refine SL.nil (SE.seq ?_)
    refine SC.ret ?_
    refine SE.ret ?_
    refine SE.then_ (by intro h; cases h) ?_
    refine SE.fin (rs := [.tmp 4]) rfl (RV.tmp rfl RV.nil) (()) (by repeat first|exact s0 _|exact s1 _|apply s2|apply s3) (by simp [It.rids]) ?_
    refine congrArg int ?_
    unfold Chg.check
    first
      | (rw [if_pos (by omega)])
      | (rw [if_neg (by omega), show yes (c.Right n) = true from yes_iff.2 (by unfold Chg.Right; simp_all [yes_iff]; try omega)]; rfl)
      | (rw [if_neg (by omega), show yes (c.Right n) = false from no_iff.2 (by
          rintro ⟨h1, h2, h3, h4, h5, h6⟩
          have e3 := decide_eq_true h3
          have e4 := yes_iff.2 h4
          have e5 := yes_iff.2 h5
          have e6 := yes_iff.2 h6
          first | omega | simp_all)]; rfl)
  intro hc27
  refine SL.val (Val.fieldAddr tabOk rfl rfl rfl rfl rfl) rfl rfl ?_
  refine SL.val (Val.load1 tabOk rfl rfl (by first|(apply Or.inl;(repeat first|assumption|exact m0|apply m1);done)|(apply Or.inr;(repeat first|assumption|exact m0|apply m1);done)) List.not_mem_nil (by rfl)) rfl rfl ?_
  refine SL.val (Val.fieldAddr tabOk rfl rfl rfl rfl rfl) rfl rfl ?_
  refine SL.val (Val.load1 tabOk rfl rfl (by first|(apply Or.inl;(repeat first|assumption|exact m0|apply m1);done)|(apply Or.inr;(repeat first|assumption|exact m0|apply m1);done)) List.not_mem_nil (by rfl)) rfl rfl ?_
  refine SL.call (points_s (low := c.low) h3) Casts.refl (by kernel_rfl) rfl rfl rfl ?_
  refine After.pure (by repeat first|exact .nil|refine .blk (by repeat first|assumption|exact m0|apply m1) ?_|refine .rd (by repeat first|assumption|exact m0|apply m1) ?_|refine .pc (by repeat first|assumption|exact m0|apply m1) ?_|refine .rdpc (by repeat first|assumption|exact m0|apply m1) ?_) (fun _ => rfl) ?_
  intro _
  refine SL.val (Val.notB rfl) rfl rfl ?_
  refine SL.val (Val.pickF rfl rfl) rfl rfl ?_
  refine SL.val (Val.assign rfl) rfl rfl ?_
  refine SL.nil (SE.seq ?_)
  refine SC.cond rfl ?_ ?_
  · intro hc12
    refine SC.seq (SC.region ?_)
    refine SL.val (Val.assign rfl) rfl rfl ?_
    refine SL.nil (SE.seq ?_)
    refine SC.ret ?_
    refine SE.ret ?_
    refine SE.then_ (by intro h; cases h) ?_
    refine SE.fin (rs := [.tmp 4]) rfl (RV.tmp rfl RV.nil) (()) (by repeat first|exact s0 _|exact s1 _|apply s2|apply s3) (by simp [It.rids]) ?_
    refine congrArg int ?_
    unfold Chg.check
    first
      | (rw [if_pos (by omega)])
      | (rw [if_neg (by omega), show yes (c.Right n) = true from yes_iff.2 (by unfold Chg.Right; simp_all [yes_iff]; try omega)]; rfl)
      | (rw [if_neg (by omega), show yes (c.Right n) = false from no_iff.2 (by
          rintro ⟨h1, h2, h3, h4, h5, h6⟩
          have e3 := decide_eq_true h3
          have e4 := yes_iff.2 h4
          have e5 := yes_iff.2 h5
          have e6 := yes_iff.2 h6
          first | omega | simp_all)]; rfl)
  intro hc12
  refine SC.seq (SC.region ?_)
  refine SL.val (Val.fieldAddr tabOk rfl rfl rfl rfl rfl) rfl rfl ?_
  refine SL.val (Val.load1 tabOk rfl rfl (by first|(apply Or.inl;(repeat first|assumption|exact m0|apply m1);done)|(apply Or.inr;(repeat first|assumption|exact m0|apply m1);done)) List.not_mem_nil (by rfl)) rfl rfl ?_
  first
    | refine SL.val (Val.loadA tabOk rfl rfl rfl (by first|(apply Or.inl;(repeat first|assumption|exact m0|apply m1);done)|(apply Or.inr;(repeat first|assumption|exact m0|apply m1);done)) List.not_mem_nil (by rfl)) rfl rfl ?_
    | refine SL.val (Val.loadP tabOk rfl rfl rfl (by first|(apply Or.inl;(repeat first|assumption|exact m0|apply m1);done)|(apply Or.inr;(repeat first|assumption|exact m0|apply m1);done)) List.not_mem_nil (Nat.le_of_ble_eq_true (by rfl))) rfl rfl ?_
  refine SL.val (Val.move rfl) rfl rfl ?_
  refine SL.call (proofsA_s (most := 8) (n := n) h1 (by simp_all)) Casts.refl (by kernel_rfl) rfl rfl rfl ?_
  refine After.pure (by repeat first|exact .nil|refine .blk (by repeat first|assumption|exact m0|apply m1) ?_|refine .rd (by repeat first|assumption|exact m0|apply m1) ?_|refine .pc (by repeat first|assumption|exact m0|apply m1) ?_|refine .rdpc (by repeat first|assumption|exact m0|apply m1) ?_) (fun _ => rfl) ?_
  intro _
  refine SL.val (Val.notB rfl) rfl rfl ?_
  refine SL.val (Val.move rfl) rfl rfl ?_
  refine SL.both (t := 42) rfl ?_ ?_
  · intro hc42
    iterate 6 refine SL.skip rfl rfl ?_
    refine SL.val (Val.pickT rfl rfl) rfl rfl ?_
    refine SL.val (Val.assign rfl) rfl rfl ?_
    refine SL.nil (SE.seq ?_)
    refine SC.condT rfl ?_
    refine SC.seq (SC.region ?_)
    refine SL.val (Val.assign rfl) rfl rfl ?_
    refine SL.nil (SE.seq ?_)
    refine SC.ret ?_
    refine SE.ret ?_
    refine SE.then_ (by intro h; cases h) ?_
    refine SE.fin (rs := [.tmp 4]) rfl (RV.tmp rfl RV.nil) (()) (by repeat first|exact s0 _|exact s1 _|apply s2|apply s3) (by simp [It.rids]) ?_
    refine congrArg int ?_
    unfold Chg.check
    first
      | (rw [if_pos (by omega)])
      | (rw [if_neg (by omega), show yes (c.Right n) = true from yes_iff.2 (by unfold Chg.Right; simp_all [yes_iff]; try omega)]; rfl)
      | (rw [if_neg (by omega), show yes (c.Right n) = false from no_iff.2 (by
          rintro ⟨h1, h2, h3, h4, h5, h6⟩
          have e3 := decide_eq_true h3
          have e4 := yes_iff.2 h4
          have e5 := yes_iff.2 h5
          have e6 := yes_iff.2 h6
          first | omega | simp_all)]; rfl)
  intro hc42
  refine SL.val (Val.fieldAddr tabOk rfl rfl rfl rfl rfl) rfl rfl ?_
  refine SL.val (Val.load1 tabOk rfl rfl (by first|(apply Or.inl;(repeat first|assumption|exact m0|apply m1);done)|(apply Or.inr;(repeat first|assumption|exact m0|apply m1);done)) List.not_mem_nil (by rfl)) rfl rfl ?_
  first
    | refine SL.val (Val.loadA tabOk rfl rfl rfl (by first|(apply Or.inl;(repeat first|assumption|exact m0|apply m1);done)|(apply Or.inr;(repeat first|assumption|exact m0|apply m1);done)) List.not_mem_nil (by rfl)) rfl rfl ?_
    | refine SL.val (Val.loadP tabOk rfl rfl rfl (by first|(apply Or.inl;(repeat first|assumption|exact m0|apply m1);done)|(apply Or.inr;(repeat first|assumption|exact m0|apply m1);done)) List.not_mem_nil (Nat.le_of_ble_eq_true (by rfl))) rfl rfl ?_
  refine SL.val (Val.move rfl) rfl rfl ?_
  refine SL.call (proofsB_s (most := 64) (n := n) h2 (by simp_all)) Casts.refl (by kernel_rfl) rfl rfl rfl ?_
  refine After.pure (by repeat first|exact .nil|refine .blk (by repeat first|assumption|exact m0|apply m1) ?_|refine .rd (by repeat first|assumption|exact m0|apply m1) ?_|refine .pc (by repeat first|assumption|exact m0|apply m1) ?_|refine .rdpc (by repeat first|assumption|exact m0|apply m1) ?_) (fun _ => rfl) ?_
  intro _
  refine SL.val (Val.notB rfl) rfl rfl ?_
  refine SL.val (Val.pickF rfl rfl) rfl rfl ?_
  refine SL.val (Val.assign rfl) rfl rfl ?_
  refine SL.nil (SE.seq ?_)
  refine SC.cond rfl ?_ ?_
  · intro hc35
    refine SC.seq (SC.region ?_)
    refine SL.val (Val.assign rfl) rfl rfl ?_
    refine SL.nil (SE.seq ?_)
    refine SC.ret ?_
    refine SE.ret ?_
    refine SE.then_ (by intro h; cases h) ?_
    refine SE.fin (rs := [.tmp 4]) rfl (RV.tmp rfl RV.nil) (()) (by repeat first|exact s0 _|exact s1 _|apply s2|apply s3) (by simp [It.rids]) ?_
    refine congrArg int ?_
    unfold Chg.check
    first
      | (rw [if_pos (by omega)])
      | (rw [if_neg (by omega), show yes (c.Right n) = true from yes_iff.2 (by unfold Chg.Right; simp_all [yes_iff]; try omega)]; rfl)
      | (rw [if_neg (by omega), show yes (c.Right n) = false from no_iff.2 (by
          rintro ⟨h1, h2, h3, h4, h5, h6⟩
          have e3 := decide_eq_true h3
          have e4 := yes_iff.2 h4
          have e5 := yes_iff.2 h5
          have e6 := yes_iff.2 h6
          first | omega | simp_all)]; rfl)
  intro hc35
  refine SC.skip ?_
  refine SE.inBlock ?_
  refine SE.seq ?_
  refine SC.seq (SC.region ?_)
  refine SL.val (Val.assign rfl) rfl rfl ?_
  refine SL.nil (SE.seq ?_)
  refine SC.ret ?_
  refine SE.fin (rs := [.tmp 4]) rfl (RV.tmp rfl RV.nil) (()) (by repeat first|exact s0 _|exact s1 _|apply s2|apply s3) (by simp [It.rids]) ?_
  refine congrArg int ?_
  unfold Chg.check
  first
    | (rw [if_pos (by omega)])
    | (rw [if_neg (by omega), show yes (c.Right n) = true from yes_iff.2 (by unfold Chg.Right; simp_all [yes_iff]; try omega)]; rfl)
    | (rw [if_neg (by omega), show yes (c.Right n) = false from no_iff.2 (by
        rintro ⟨h1, h2, h3, h4, h5, h6⟩
        have e3 := decide_eq_true h3
        have e4 := yes_iff.2 h4
        have e5 := yes_iff.2 h5
        have e6 := yes_iff.2 h6
        first | omega | simp_all)]; rfl)
theorem rproof_s (hl : p.batch.length ≤ 1000000) (hs : ∀ e ∈ p.batch, e.core.letter.size ≤ lots) (hm : isMark c.low) : Spec Try.prog 138 [.agg p.abs, .agg c.abs, int n] [] (fun _ : Unit => []) (fun _ => boo (yes (p.fits c.low c.view n))) := by
  unfold isMark isSeq at hm
  refine spec_of Try.func138 rfl Try.ntmps138 rfl fun G w => ?_
  refine SC.seq (SC.region ?_)
  refine SL.eff (Eff.boxA rfl) rfl rfl ?_
  rintro _ _ ⟨b3, rfl, rfl⟩
  refine SL.eff (Eff.boxA rfl) rfl rfl ?_
  rintro _ _ ⟨b4, rfl, rfl⟩
  refine SL.val (Val.assign rfl) rfl rfl ?_
  refine SL.nil (SE.seq ?_)
  refine SC.seq (SC.region ?_)
  refine SL.val (Val.fieldAddr tabOk rfl rfl rfl rfl rfl) rfl rfl ?_
  refine SL.val (Val.load1 tabOk rfl rfl (by first|(apply Or.inl;(repeat first|assumption|exact m0|apply m1);done)|(apply Or.inr;(repeat first|assumption|exact m0|apply m1);done)) List.not_mem_nil (by rfl)) rfl rfl ?_
  refine SL.val (Val.fieldAddr tabOk rfl rfl rfl rfl rfl) rfl rfl ?_
  refine SL.val (Val.load1 tabOk rfl rfl (by first|(apply Or.inl;(repeat first|assumption|exact m0|apply m1);done)|(apply Or.inr;(repeat first|assumption|exact m0|apply m1);done)) List.not_mem_nil (by rfl)) rfl rfl ?_
  refine SL.val (Val.gtI rfl rfl) rfl rfl ?_
  refine SL.val (Val.move rfl) rfl rfl ?_
  refine SL.bothP (t := 12) rfl ?_ ?_
  rotate_left
  · intro hc12
    iterate 6 refine SL.skip rfl rfl ?_
    refine SL.val (Val.pickF rfl rfl) rfl rfl ?_
    refine SL.val (Val.move rfl) rfl rfl ?_
    iterate 3 refine SL.skip rfl rfl ?_
    refine SL.val (Val.pickF rfl rfl) rfl rfl ?_
    refine SL.val (Val.move rfl) rfl rfl ?_
    iterate 5 refine SL.skip rfl rfl ?_
    refine SL.val (Val.pickF rfl rfl) rfl rfl ?_
    refine SL.val (Val.move rfl) rfl rfl ?_
    iterate 5 refine SL.skip rfl rfl ?_
    refine SL.val (Val.pickF rfl rfl) rfl rfl ?_
    refine SL.val (Val.assign rfl) rfl rfl ?_
    refine SL.nil (SE.seq ?_)
    refine SC.ret ?_
    refine SE.fin (rs := [.tmp 6]) rfl (RV.tmp rfl RV.nil) (()) (by repeat first|exact s0 _|exact s1 _|apply s2|apply s3) (by simp [It.rids]) ?_
    exact boo_yes (by unfold Prf.fits; first | exact ⟨fun h => (by cases h), fun h => by omega⟩ | (rw [decide_eq_true_iff]; omega))
  intro hc12
  refine SL.val (Val.fieldAddr tabOk rfl rfl rfl rfl rfl) rfl rfl ?_
  refine SL.val (Val.load1 tabOk rfl rfl (by first|(apply Or.inl;(repeat first|assumption|exact m0|apply m1);done)|(apply Or.inr;(repeat first|assumption|exact m0|apply m1);done)) List.not_mem_nil (by rfl)) rfl rfl ?_
  refine SL.val (Val.fieldAddr tabOk rfl rfl rfl rfl rfl) rfl rfl ?_
  refine SL.val (Val.load1 tabOk rfl rfl (by first|(apply Or.inl;(repeat first|assumption|exact m0|apply m1);done)|(apply Or.inr;(repeat first|assumption|exact m0|apply m1);done)) List.not_mem_nil (by rfl)) rfl rfl ?_
  first
    | refine SL.val (Val.addI rfl rfl (by simp only [InR, lo, hi]; omega)) rfl rfl ?_
    | refine SL.val (Val.addW rfl rfl) rfl rfl ?_
  refine SL.val (Val.leI rfl rfl) rfl rfl ?_
  refine SL.val (Val.pickT rfl rfl) rfl rfl ?_
  refine SL.val (Val.move rfl) rfl rfl ?_
  refine SL.bothP (t := 20) rfl ?_ ?_
  rotate_left
  · intro hc20
    iterate 3 refine SL.skip rfl rfl ?_
    refine SL.val (Val.pickF rfl rfl) rfl rfl ?_
    refine SL.val (Val.move rfl) rfl rfl ?_
    iterate 5 refine SL.skip rfl rfl ?_
    refine SL.val (Val.pickF rfl rfl) rfl rfl ?_
    refine SL.val (Val.move rfl) rfl rfl ?_
    iterate 5 refine SL.skip rfl rfl ?_
    refine SL.val (Val.pickF rfl rfl) rfl rfl ?_
    refine SL.val (Val.assign rfl) rfl rfl ?_
    refine SL.nil (SE.seq ?_)
    refine SC.ret ?_
    refine SE.fin (rs := [.tmp 6]) rfl (RV.tmp rfl RV.nil) (()) (by repeat first|exact s0 _|exact s1 _|apply s2|apply s3) (by simp [It.rids]) ?_
    exact boo_yes (by unfold Prf.fits; first | exact ⟨fun h => (by cases h), fun h => by omega⟩ | (rw [decide_eq_true_iff]; omega))
  intro hc20
  refine SL.val (Val.fieldAddr tabOk rfl rfl rfl rfl rfl) rfl rfl ?_
  refine SL.val (Val.load1 tabOk rfl rfl (by first|(apply Or.inl;(repeat first|assumption|exact m0|apply m1);done)|(apply Or.inr;(repeat first|assumption|exact m0|apply m1);done)) List.not_mem_nil (by rfl)) rfl rfl ?_
  refine SL.val (Val.geI rfl rfl) rfl rfl ?_
  refine SL.val (Val.pickT rfl rfl) rfl rfl ?_
  refine SL.val (Val.move rfl) rfl rfl ?_
  refine SL.bothP (t := 25) rfl ?_ ?_
  rotate_left
  · intro hc25
    iterate 5 refine SL.skip rfl rfl ?_
    refine SL.val (Val.pickF rfl rfl) rfl rfl ?_
    refine SL.val (Val.move rfl) rfl rfl ?_
    iterate 5 refine SL.skip rfl rfl ?_
    refine SL.val (Val.pickF rfl rfl) rfl rfl ?_
    refine SL.val (Val.assign rfl) rfl rfl ?_
    refine SL.nil (SE.seq ?_)
    refine SC.ret ?_
    refine SE.fin (rs := [.tmp 6]) rfl (RV.tmp rfl RV.nil) (()) (by repeat first|exact s0 _|exact s1 _|apply s2|apply s3) (by simp [It.rids]) ?_
    exact boo_yes (by unfold Prf.fits; first | exact ⟨fun h => (by cases h), fun h => by omega⟩ | (rw [decide_eq_true_iff]; omega))
  intro hc25
  refine SL.val (Val.fieldAddr tabOk rfl rfl rfl rfl rfl) rfl rfl ?_
  refine SL.val (Val.load1 tabOk rfl rfl (by first|(apply Or.inl;(repeat first|assumption|exact m0|apply m1);done)|(apply Or.inr;(repeat first|assumption|exact m0|apply m1);done)) List.not_mem_nil (by rfl)) rfl rfl ?_
  refine SL.val (Val.fieldAddr tabOk rfl rfl rfl rfl rfl) rfl rfl ?_
  refine SL.val (Val.load1 tabOk rfl rfl (by first|(apply Or.inl;(repeat first|assumption|exact m0|apply m1);done)|(apply Or.inr;(repeat first|assumption|exact m0|apply m1);done)) List.not_mem_nil (by rfl)) rfl rfl ?_
  refine SL.val (Val.ltI rfl rfl) rfl rfl ?_
  refine SL.val (Val.pickT rfl rfl) rfl rfl ?_
  refine SL.val (Val.move rfl) rfl rfl ?_
  refine SL.bothP (t := 32) rfl ?_ ?_
  rotate_left
  · intro hc32
    iterate 5 refine SL.skip rfl rfl ?_
    refine SL.val (Val.pickF rfl rfl) rfl rfl ?_
    refine SL.val (Val.assign rfl) rfl rfl ?_
    refine SL.nil (SE.seq ?_)
    refine SC.ret ?_
    refine SE.fin (rs := [.tmp 6]) rfl (RV.tmp rfl RV.nil) (()) (by repeat first|exact s0 _|exact s1 _|apply s2|apply s3) (by simp [It.rids]) ?_
    exact boo_yes (by unfold Prf.fits; first | exact ⟨fun h => (by cases h), fun h => by omega⟩ | (rw [decide_eq_true_iff]; omega))
  intro hc32
  refine SL.val (Val.fieldAddr tabOk rfl rfl rfl rfl rfl) rfl rfl ?_
  refine SL.val (Val.load1 tabOk rfl rfl (by first|(apply Or.inl;(repeat first|assumption|exact m0|apply m1);done)|(apply Or.inr;(repeat first|assumption|exact m0|apply m1);done)) List.not_mem_nil (by rfl)) rfl rfl ?_
  refine SL.val (Val.move rfl) rfl rfl ?_
  refine SL.call (rbcheck_s (es := p.batch) (n := n) hl hs) Casts.refl (by kernel_rfl) rfl rfl rfl ?_
  refine After.pure (by repeat first|exact .nil|refine .blk (by repeat first|assumption|exact m0|apply m1) ?_|refine .rd (by repeat first|assumption|exact m0|apply m1) ?_|refine .pc (by repeat first|assumption|exact m0|apply m1) ?_|refine .rdpc (by repeat first|assumption|exact m0|apply m1) ?_) (fun _ => rfl) ?_
  intro _
  refine SL.val (Val.eqI rfl rfl) rfl rfl ?_
  refine SL.val (Val.pickT rfl rfl) rfl rfl ?_
  refine SL.val (Val.assign rfl) rfl rfl ?_
  refine SL.nil (SE.seq ?_)
  refine SC.ret ?_
  refine SE.fin (rs := [.tmp 6]) rfl (RV.tmp rfl RV.nil) (()) (by repeat first|exact s0 _|exact s1 _|apply s2|apply s3) (by simp [It.rids]) ?_
  exact boo_yes (by unfold Prf.fits; first | exact ⟨fun h => (by cases h), fun h => by omega⟩ | (rw [decide_eq_true_iff]; omega))
set_option maxHeartbeats 4000000 in
theorem right_s (h1 : Long c.prepared) (h2 : Long c.proposed) (h3 : c.points.length < 9223372036854775807) (g1 : Lets c.prepared) (g2 : Lets c.proposed) : Spec Try.prog 42 [.agg c.abs, int n] [] (fun _ : Unit => []) (fun _ => boo (yes (c.Right n))) := by
  refine spec_of Try.func42 rfl Try.ntmps42 rfl fun G w => ?_
  refine SC.seq (SC.region ?_)
  refine SL.eff (Eff.boxA rfl) rfl rfl ?_
  rintro _ _ ⟨b2, rfl, rfl⟩
  refine SL.val (Val.assign rfl) rfl rfl ?_
  refine SL.nil (SE.seq ?_)
  refine SC.seq ?_
  refine SC.seq ?_
  refine SC.draw [] (.q 0 (.q 1 (.q 2 (.q 3 (.q 4 (.q 5 (.e 6 (.q 7 (.q 8 (.q 9 (.q 10 (.q 11 (.e 12 (.q 13 (.q 14 (.q 15 (.q 16 (.q 17 (.q 18 (.q 19 (.q 20 (.q 21 (.q 22 (.q 23 (.q 24 (.q 25 (.q 26 (.q 27 (.q 28 (.q 29 (.q 30 (.q 31 (.q 32 (.q 33 (.q 34 (.q 35 (.q 36 (.q 37 (.q 38 (.q 39 (.q 40 (.q 41 (.q 42 (.q 43 (.q 44 (.q 45 (.q 46 (.q 47 (.q 48 .nil))))))))))))))))))))))))))))))))))))))))))))))))) (by kernel_rfl) (by kernel_rfl) ?_
  refine SX.val rfl (Val.fieldAddr tabOk rfl rfl rfl rfl rfl) (by simp) rfl rfl ?_
  refine SX.val rfl (Val.load1 tabOk rfl rfl (by first|(apply Or.inl;(repeat first|assumption|exact m0|apply m1);done)|(apply Or.inr;(repeat first|assumption|exact m0|apply m1);done)) List.not_mem_nil (by rfl)) (by simp) rfl rfl ?_
  refine SX.val rfl (Val.ltI rfl rfl) (by simp) rfl rfl ?_
  refine SX.val rfl (Val.move rfl) (by simp) rfl rfl ?_
  refine SX.bothP (t := 15) rfl ?_ ?_
  · intro hc15
    iterate 2 refine SX.skip rfl rfl rfl ?_
    refine SX.skip' rfl rfl rfl ?_
    refine SX.skip rfl rfl rfl ?_
    refine SX.val rfl (Val.pickT rfl rfl) (by simp) rfl rfl ?_
    refine SX.val rfl (Val.move rfl) (by simp) rfl rfl ?_
    iterate 2 refine SX.skip rfl rfl rfl ?_
    refine SX.skip' rfl rfl rfl ?_
    refine SX.skip rfl rfl rfl ?_
    refine SX.val rfl (Val.pickT rfl rfl) (by simp) rfl rfl ?_
    refine SX.val rfl (Val.move rfl) (by simp) rfl rfl ?_
    iterate 4 refine SX.skip rfl rfl rfl ?_
    refine SX.val rfl (Val.pickT rfl rfl) (by simp) rfl rfl ?_
    refine SX.val rfl (Val.move rfl) (by simp) rfl rfl ?_
    iterate 4 refine SX.skip rfl rfl rfl ?_
    refine SX.val rfl (Val.pickT rfl rfl) (by simp) rfl rfl ?_
    refine SX.val rfl (Val.move rfl) (by simp) rfl rfl ?_
    iterate 8 refine SX.skip rfl rfl rfl ?_
    refine SX.val rfl (Val.pickT rfl rfl) (by simp) rfl rfl ?_
    refine SX.val rfl (Val.move rfl) (by simp) rfl rfl ?_
    iterate 4 refine SX.skip rfl rfl rfl ?_
    refine SX.val rfl (Val.pickT rfl rfl) (by simp) rfl rfl ?_
    refine SX.val rfl (Val.move rfl) (by simp) rfl rfl ?_
    iterate 4 refine SX.skip rfl rfl rfl ?_
    refine SX.val rfl (Val.pickT rfl rfl) (by simp) rfl rfl ?_
    refine SX.nil (SE.seq ?_)
    refine SC.condT rfl ?_
    refine SC.seq (SC.region ?_)
    refine SL.val (Val.assign rfl) rfl rfl ?_
    refine SL.nil (SE.seq ?_)
    refine SC.ret ?_
    refine SE.then_ (by intro h; cases h) ?_
    refine SE.fin (rs := [.tmp 4]) rfl (RV.tmp rfl RV.nil) (()) (by repeat first|exact s0 _|exact s1 _|apply s2|apply s3) (by simp [It.rids]) ?_
    refine boo_no fun h => ?_
    obtain ⟨h4, h5, h6, ⟨h7, h8, h9, h10, h11⟩, ⟨h12, h13, h14⟩, ⟨h15, h16, h17⟩⟩ := h
    have h00 : 0 < c.points.length := by omega
    have h18 := h9 _ (List.getElem?_eq_getElem h00)
    have h19 : isSeq c.view := ⟨by omega, by omega⟩
    first | omega | simp_all
  intro hc15
  refine SX.val rfl (Val.fieldAddr tabOk rfl rfl rfl rfl rfl) (by simp) rfl rfl ?_
  refine SX.val rfl (Val.load1 tabOk rfl rfl (by first|(apply Or.inl;(repeat first|assumption|exact m0|apply m1);done)|(apply Or.inr;(repeat first|assumption|exact m0|apply m1);done)) List.not_mem_nil (by rfl)) (by simp) rfl rfl ?_
  refine SX.call rfl (rview_s (x := c.view)) (by simp [mids, It.mids]) Casts.refl (by kernel_rfl) rfl rfl rfl ?_
  refine After.pure (by repeat first|exact .nil|refine .blk (by repeat first|assumption|exact m0|apply m1) ?_|refine .rd (by repeat first|assumption|exact m0|apply m1) ?_|refine .pc (by repeat first|assumption|exact m0|apply m1) ?_|refine .rdpc (by repeat first|assumption|exact m0|apply m1) ?_) (fun _ => rfl) ?_
  intro _
  refine SX.val rfl (Val.notP rfl) (by simp) rfl rfl ?_
  refine SX.val rfl (Val.pickF rfl rfl) (by simp) rfl rfl ?_
  refine SX.val rfl (Val.move rfl) (by simp) rfl rfl ?_
  refine SX.bothP (t := 21) rfl ?_ ?_
  · intro hc21
    iterate 2 refine SX.skip rfl rfl rfl ?_
    refine SX.skip' rfl rfl rfl ?_
    refine SX.skip rfl rfl rfl ?_
    refine SX.val rfl (Val.pickT rfl rfl) (by simp) rfl rfl ?_
    refine SX.val rfl (Val.move rfl) (by simp) rfl rfl ?_
    iterate 4 refine SX.skip rfl rfl rfl ?_
    refine SX.val rfl (Val.pickT rfl rfl) (by simp) rfl rfl ?_
    refine SX.val rfl (Val.move rfl) (by simp) rfl rfl ?_
    iterate 4 refine SX.skip rfl rfl rfl ?_
    refine SX.val rfl (Val.pickT rfl rfl) (by simp) rfl rfl ?_
    refine SX.val rfl (Val.move rfl) (by simp) rfl rfl ?_
    iterate 8 refine SX.skip rfl rfl rfl ?_
    refine SX.val rfl (Val.pickT rfl rfl) (by simp) rfl rfl ?_
    refine SX.val rfl (Val.move rfl) (by simp) rfl rfl ?_
    iterate 4 refine SX.skip rfl rfl rfl ?_
    refine SX.val rfl (Val.pickT rfl rfl) (by simp) rfl rfl ?_
    refine SX.val rfl (Val.move rfl) (by simp) rfl rfl ?_
    iterate 4 refine SX.skip rfl rfl rfl ?_
    refine SX.val rfl (Val.pickT rfl rfl) (by simp) rfl rfl ?_
    refine SX.nil (SE.seq ?_)
    refine SC.condT rfl ?_
    refine SC.seq (SC.region ?_)
    refine SL.val (Val.assign rfl) rfl rfl ?_
    refine SL.nil (SE.seq ?_)
    refine SC.ret ?_
    refine SE.then_ (by intro h; cases h) ?_
    refine SE.fin (rs := [.tmp 4]) rfl (RV.tmp rfl RV.nil) (()) (by repeat first|exact s0 _|exact s1 _|apply s2|apply s3) (by simp [It.rids]) ?_
    refine boo_no fun h => ?_
    obtain ⟨h4, h5, h6, ⟨h7, h8, h9, h10, h11⟩, ⟨h12, h13, h14⟩, ⟨h15, h16, h17⟩⟩ := h
    have h00 : 0 < c.points.length := by omega
    have h18 := h9 _ (List.getElem?_eq_getElem h00)
    have h19 : isSeq c.view := ⟨by omega, by omega⟩
    first | omega | simp_all
  intro hc21
  refine SX.val rfl (Val.fieldAddr tabOk rfl rfl rfl rfl rfl) (by simp) rfl rfl ?_
  refine SX.val rfl (Val.load1 tabOk rfl rfl (by first|(apply Or.inl;(repeat first|assumption|exact m0|apply m1);done)|(apply Or.inr;(repeat first|assumption|exact m0|apply m1);done)) List.not_mem_nil (by rfl)) (by simp) rfl rfl ?_
  refine SX.call rfl (rmark_s (x := c.low)) (by simp [mids, It.mids]) Casts.refl (by kernel_rfl) rfl rfl rfl ?_
  refine After.pure (by repeat first|exact .nil|refine .blk (by repeat first|assumption|exact m0|apply m1) ?_|refine .rd (by repeat first|assumption|exact m0|apply m1) ?_|refine .pc (by repeat first|assumption|exact m0|apply m1) ?_|refine .rdpc (by repeat first|assumption|exact m0|apply m1) ?_) (fun _ => rfl) ?_
  intro _
  refine SX.val rfl (Val.notP rfl) (by simp) rfl rfl ?_
  refine SX.val rfl (Val.pickF rfl rfl) (by simp) rfl rfl ?_
  refine SX.val rfl (Val.move rfl) (by simp) rfl rfl ?_
  refine SX.bothP (t := 27) rfl ?_ ?_
  · intro hc27
    iterate 4 refine SX.skip rfl rfl rfl ?_
    refine SX.val rfl (Val.pickT rfl rfl) (by simp) rfl rfl ?_
    refine SX.val rfl (Val.move rfl) (by simp) rfl rfl ?_
    iterate 4 refine SX.skip rfl rfl rfl ?_
    refine SX.val rfl (Val.pickT rfl rfl) (by simp) rfl rfl ?_
    refine SX.val rfl (Val.move rfl) (by simp) rfl rfl ?_
    iterate 8 refine SX.skip rfl rfl rfl ?_
    refine SX.val rfl (Val.pickT rfl rfl) (by simp) rfl rfl ?_
    refine SX.val rfl (Val.move rfl) (by simp) rfl rfl ?_
    iterate 4 refine SX.skip rfl rfl rfl ?_
    refine SX.val rfl (Val.pickT rfl rfl) (by simp) rfl rfl ?_
    refine SX.val rfl (Val.move rfl) (by simp) rfl rfl ?_
    iterate 4 refine SX.skip rfl rfl rfl ?_
    refine SX.val rfl (Val.pickT rfl rfl) (by simp) rfl rfl ?_
    refine SX.nil (SE.seq ?_)
    refine SC.condT rfl ?_
    refine SC.seq (SC.region ?_)
    refine SL.val (Val.assign rfl) rfl rfl ?_
    refine SL.nil (SE.seq ?_)
    refine SC.ret ?_
    refine SE.then_ (by intro h; cases h) ?_
    refine SE.fin (rs := [.tmp 4]) rfl (RV.tmp rfl RV.nil) (()) (by repeat first|exact s0 _|exact s1 _|apply s2|apply s3) (by simp [It.rids]) ?_
    refine boo_no fun h => ?_
    obtain ⟨h4, h5, h6, ⟨h7, h8, h9, h10, h11⟩, ⟨h12, h13, h14⟩, ⟨h15, h16, h17⟩⟩ := h
    have h00 : 0 < c.points.length := by omega
    have h18 := h9 _ (List.getElem?_eq_getElem h00)
    have h19 : isSeq c.view := ⟨by omega, by omega⟩
    first | omega | simp_all
  intro hc27
  refine SX.val rfl (Val.fieldAddr tabOk rfl rfl rfl rfl rfl) (by simp) rfl rfl ?_
  refine SX.val rfl (Val.load1 tabOk rfl rfl (by first|(apply Or.inl;(repeat first|assumption|exact m0|apply m1);done)|(apply Or.inr;(repeat first|assumption|exact m0|apply m1);done)) List.not_mem_nil (by rfl)) (by simp) rfl rfl ?_
  first
    | refine SX.val rfl (Val.lenSl rfl Try.underlying49 (List.length_map _)) (by simp) rfl rfl ?_
    | refine SX.val rfl (Val.lenOwn rfl (by repeat first|assumption|exact m0|apply m1) Try.underlying49 (List.length_map _)) (by simp) rfl rfl ?_
    | refine SX.val rfl (Val.lenNil rfl Try.underlying49) (by simp) rfl rfl ?_
  refine SX.val rfl (Val.ltI rfl rfl) (by simp) rfl rfl ?_
  refine SX.val rfl (Val.pickF rfl rfl) (by simp) rfl rfl ?_
  refine SX.val rfl (Val.move rfl) (by simp) rfl rfl ?_
  refine SX.bothP (t := 33) rfl ?_ ?_
  · intro hc33
    iterate 4 refine SX.skip rfl rfl rfl ?_
    refine SX.val rfl (Val.pickT rfl rfl) (by simp) rfl rfl ?_
    refine SX.val rfl (Val.move rfl) (by simp) rfl rfl ?_
    iterate 8 refine SX.skip rfl rfl rfl ?_
    refine SX.val rfl (Val.pickT rfl rfl) (by simp) rfl rfl ?_
    refine SX.val rfl (Val.move rfl) (by simp) rfl rfl ?_
    iterate 4 refine SX.skip rfl rfl rfl ?_
    refine SX.val rfl (Val.pickT rfl rfl) (by simp) rfl rfl ?_
    refine SX.val rfl (Val.move rfl) (by simp) rfl rfl ?_
    iterate 4 refine SX.skip rfl rfl rfl ?_
    refine SX.val rfl (Val.pickT rfl rfl) (by simp) rfl rfl ?_
    refine SX.nil (SE.seq ?_)
    refine SC.condT rfl ?_
    refine SC.seq (SC.region ?_)
    refine SL.val (Val.assign rfl) rfl rfl ?_
    refine SL.nil (SE.seq ?_)
    refine SC.ret ?_
    refine SE.then_ (by intro h; cases h) ?_
    refine SE.fin (rs := [.tmp 4]) rfl (RV.tmp rfl RV.nil) (()) (by repeat first|exact s0 _|exact s1 _|apply s2|apply s3) (by simp [It.rids]) ?_
    refine boo_no fun h => ?_
    obtain ⟨h4, h5, h6, ⟨h7, h8, h9, h10, h11⟩, ⟨h12, h13, h14⟩, ⟨h15, h16, h17⟩⟩ := h
    have h00 : 0 < c.points.length := by omega
    have h18 := h9 _ (List.getElem?_eq_getElem h00)
    have h19 : isSeq c.view := ⟨by omega, by omega⟩
    first | omega | simp_all
  intro hc33
  refine SX.val rfl (Val.fieldAddr tabOk rfl rfl rfl rfl rfl) (by simp) rfl rfl ?_
  refine SX.val rfl (Val.load1 tabOk rfl rfl (by first|(apply Or.inl;(repeat first|assumption|exact m0|apply m1);done)|(apply Or.inr;(repeat first|assumption|exact m0|apply m1);done)) List.not_mem_nil (by rfl)) (by simp) rfl rfl ?_
  first
    | refine SX.val rfl (Val.lenSl rfl Try.underlying49 (List.length_map _)) (by simp) rfl rfl ?_
    | refine SX.val rfl (Val.lenOwn rfl (by repeat first|assumption|exact m0|apply m1) Try.underlying49 (List.length_map _)) (by simp) rfl rfl ?_
    | refine SX.val rfl (Val.lenNil rfl Try.underlying49) (by simp) rfl rfl ?_
  refine SX.val rfl (Val.gtI rfl rfl) (by simp) rfl rfl ?_
  refine SX.val rfl (Val.pickF rfl rfl) (by simp) rfl rfl ?_
  refine SX.val rfl (Val.move rfl) (by simp) rfl rfl ?_
  refine SX.bothP (t := 39) rfl ?_ ?_
  · intro hc39
    iterate 8 refine SX.skip rfl rfl rfl ?_
    refine SX.val rfl (Val.pickT rfl rfl) (by simp) rfl rfl ?_
    refine SX.val rfl (Val.move rfl) (by simp) rfl rfl ?_
    iterate 4 refine SX.skip rfl rfl rfl ?_
    refine SX.val rfl (Val.pickT rfl rfl) (by simp) rfl rfl ?_
    refine SX.val rfl (Val.move rfl) (by simp) rfl rfl ?_
    iterate 4 refine SX.skip rfl rfl rfl ?_
    refine SX.val rfl (Val.pickT rfl rfl) (by simp) rfl rfl ?_
    refine SX.nil (SE.seq ?_)
    refine SC.condT rfl ?_
    refine SC.seq (SC.region ?_)
    refine SL.val (Val.assign rfl) rfl rfl ?_
    refine SL.nil (SE.seq ?_)
    refine SC.ret ?_
    refine SE.then_ (by intro h; cases h) ?_
    refine SE.fin (rs := [.tmp 4]) rfl (RV.tmp rfl RV.nil) (()) (by repeat first|exact s0 _|exact s1 _|apply s2|apply s3) (by simp [It.rids]) ?_
    refine boo_no fun h => ?_
    obtain ⟨h4, h5, h6, ⟨h7, h8, h9, h10, h11⟩, ⟨h12, h13, h14⟩, ⟨h15, h16, h17⟩⟩ := h
    have h00 : 0 < c.points.length := by omega
    have h18 := h9 _ (List.getElem?_eq_getElem h00)
    have h19 : isSeq c.view := ⟨by omega, by omega⟩
    first | omega | simp_all
  intro hc39
  refine SX.val rfl (Val.fieldAddr tabOk rfl rfl rfl rfl rfl) (by simp) rfl rfl ?_
  refine SX.val rfl (Val.load1 tabOk rfl rfl (by first|(apply Or.inl;(repeat first|assumption|exact m0|apply m1);done)|(apply Or.inr;(repeat first|assumption|exact m0|apply m1);done)) List.not_mem_nil (by rfl)) (by simp) rfl rfl ?_
  refine SX.val rfl (Val.indexSl (q := 0) tabOk Try.underlying49 rfl rfl rfl rfl (at_map (by omega)) rfl rfl) (by first|(simp[mids,It.mids,ownPc];done)|(intro k hk;simp[mids,It.mids,ownPc] at hk ⊢;grind)) rfl rfl ?_
  refine SX.val rfl (Val.fieldAddrR tabOk rfl rfl rfl rfl rfl) (by simp) rfl rfl ?_
  refine SX.val rfl (Val.load1R tabOk rfl rfl rfl) (by simp) rfl rfl ?_
  refine SX.val rfl (Val.fieldAddr tabOk rfl rfl rfl rfl rfl) (by simp) rfl rfl ?_
  refine SX.val rfl (Val.load1 tabOk rfl rfl (by first|(apply Or.inl;(repeat first|assumption|exact m0|apply m1);done)|(apply Or.inr;(repeat first|assumption|exact m0|apply m1);done)) List.not_mem_nil (by rfl)) (by simp) rfl rfl ?_
  refine SX.val rfl (Val.neI rfl rfl) (by simp) rfl rfl ?_
  refine SX.val rfl (Val.pickF rfl rfl) (by simp) rfl rfl ?_
  refine SX.val rfl (Val.move rfl) (by simp) rfl rfl ?_
  refine SX.bothP (t := 49) rfl ?_ ?_
  · intro hc49
    iterate 4 refine SX.skip rfl rfl rfl ?_
    refine SX.val rfl (Val.pickT rfl rfl) (by simp) rfl rfl ?_
    refine SX.val rfl (Val.move rfl) (by simp) rfl rfl ?_
    iterate 4 refine SX.skip rfl rfl rfl ?_
    refine SX.val rfl (Val.pickT rfl rfl) (by simp) rfl rfl ?_
    refine SX.nil (SE.seq ?_)
    refine SC.condT rfl ?_
    refine SC.seq (SC.region ?_)
    refine SL.val (Val.assign rfl) rfl rfl ?_
    refine SL.nil (SE.seq ?_)
    refine SC.ret ?_
    refine SE.then_ (by intro h; cases h) ?_
    refine SE.fin (rs := [.tmp 4]) rfl (RV.tmp rfl RV.nil) (()) (by repeat first|exact s0 _|exact s1 _|apply s2|apply s3) (by simp [It.rids]) ?_
    refine boo_no fun h => ?_
    obtain ⟨h4, h5, h6, ⟨h7, h8, h9, h10, h11⟩, ⟨h12, h13, h14⟩, ⟨h15, h16, h17⟩⟩ := h
    have h00 : 0 < c.points.length := by omega
    have h18 := h9 _ (List.getElem?_eq_getElem h00)
    have h19 : isSeq c.view := ⟨by omega, by omega⟩
    first | omega | simp_all
  intro hc49
  refine SX.val rfl (Val.fieldAddr tabOk rfl rfl rfl rfl rfl) (by simp) rfl rfl ?_
  refine SX.val rfl (Val.load1 tabOk rfl rfl (by first|(apply Or.inl;(repeat first|assumption|exact m0|apply m1);done)|(apply Or.inr;(repeat first|assumption|exact m0|apply m1);done)) List.not_mem_nil (by rfl)) (by simp) rfl rfl ?_
  first
    | refine SX.val rfl (Val.lenSl rfl Try.underlying50 (List.length_map _)) (by simp) rfl rfl ?_
    | refine SX.val rfl (Val.lenOwn rfl (by repeat first|assumption|exact m0|apply m1) Try.underlying50 (List.length_map _)) (by simp) rfl rfl ?_
    | refine SX.val rfl (Val.lenNil rfl Try.underlying50) (by simp) rfl rfl ?_
  refine SX.val rfl (Val.gtI rfl rfl) (by simp) rfl rfl ?_
  refine SX.val rfl (Val.pickF rfl rfl) (by simp) rfl rfl ?_
  refine SX.val rfl (Val.move rfl) (by simp) rfl rfl ?_
  refine SX.bothP (t := 55) rfl ?_ ?_
  · intro hc55
    iterate 4 refine SX.skip rfl rfl rfl ?_
    refine SX.val rfl (Val.pickT rfl rfl) (by simp) rfl rfl ?_
    refine SX.nil (SE.seq ?_)
    refine SC.condT rfl ?_
    refine SC.seq (SC.region ?_)
    refine SL.val (Val.assign rfl) rfl rfl ?_
    refine SL.nil (SE.seq ?_)
    refine SC.ret ?_
    refine SE.then_ (by intro h; cases h) ?_
    refine SE.fin (rs := [.tmp 4]) rfl (RV.tmp rfl RV.nil) (()) (by repeat first|exact s0 _|exact s1 _|apply s2|apply s3) (by simp [It.rids]) ?_
    refine boo_no fun h => ?_
    obtain ⟨h4, h5, h6, ⟨h7, h8, h9, h10, h11⟩, ⟨h12, h13, h14⟩, ⟨h15, h16, h17⟩⟩ := h
    have h00 : 0 < c.points.length := by omega
    have h18 := h9 _ (List.getElem?_eq_getElem h00)
    have h19 : isSeq c.view := ⟨by omega, by omega⟩
    first | omega | simp_all
  intro hc55
  refine SX.val rfl (Val.fieldAddr tabOk rfl rfl rfl rfl rfl) (by simp) rfl rfl ?_
  refine SX.val rfl (Val.load1 tabOk rfl rfl (by first|(apply Or.inl;(repeat first|assumption|exact m0|apply m1);done)|(apply Or.inr;(repeat first|assumption|exact m0|apply m1);done)) List.not_mem_nil (by rfl)) (by simp) rfl rfl ?_
  first
    | refine SX.val rfl (Val.lenSl rfl Try.underlying50 (List.length_map _)) (by simp) rfl rfl ?_
    | refine SX.val rfl (Val.lenOwn rfl (by repeat first|assumption|exact m0|apply m1) Try.underlying50 (List.length_map _)) (by simp) rfl rfl ?_
    | refine SX.val rfl (Val.lenNil rfl Try.underlying50) (by simp) rfl rfl ?_
  refine SX.val rfl (Val.gtI rfl rfl) (by simp) rfl rfl ?_
  refine SX.val rfl (Val.pickF rfl rfl) (by simp) rfl rfl ?_
  refine SX.nil (SE.seq ?_)
  refine SC.condP rfl ?_ ?_
  · intro hc60
    refine SC.seq (SC.region ?_)
    refine SL.val (Val.assign rfl) rfl rfl ?_
    refine SL.nil (SE.seq ?_)
    refine SC.ret ?_
    refine SE.then_ (by intro h; cases h) ?_
    refine SE.fin (rs := [.tmp 4]) rfl (RV.tmp rfl RV.nil) (()) (by repeat first|exact s0 _|exact s1 _|apply s2|apply s3) (by simp [It.rids]) ?_
    refine boo_no fun h => ?_
    obtain ⟨h4, h5, h6, ⟨h7, h8, h9, h10, h11⟩, ⟨h12, h13, h14⟩, ⟨h15, h16, h17⟩⟩ := h
    have h00 : 0 < c.points.length := by omega
    have h18 := h9 _ (List.getElem?_eq_getElem h00)
    have h19 : isSeq c.view := ⟨by omega, by omega⟩
    first | omega | simp_all
  intro hc60
  have hm : isMark c.low := by simp_all
  have hlen : 1 ≤ c.points.length ∧ c.points.length ≤ 4 ∧ c.prepared.length ≤ 8 ∧ c.proposed.length ≤ 64 := by omega
  have h00 : 0 < c.points.length := by omega
  have hview : 1 ≤ c.view ∧ c.view ≤ 1048576 := by unfold isSeq at *; omega
  have hp0 : c.points[0].seq = c.low := by omega
  refine SC.skip ?_
  refine SE.seq ?_
  refine SC.seq ?_
  refine SC.seq (SC.region ?_)
  refine SL.val (Val.fieldAddr tabOk rfl rfl rfl rfl rfl) rfl rfl ?_
  refine SL.val (Val.load1 tabOk rfl rfl (by first|(apply Or.inl;(repeat first|assumption|exact m0|apply m1);done)|(apply Or.inr;(repeat first|assumption|exact m0|apply m1);done)) List.not_mem_nil (by rfl)) rfl rfl ?_
  first
    | refine SL.val (Val.lenSl rfl Try.underlying49 (List.length_map _)) rfl rfl ?_
    | refine SL.val (Val.lenOwn rfl (by repeat first|assumption|exact m0|apply m1) Try.underlying49 (List.length_map _)) rfl rfl ?_
    | refine SL.val (Val.lenNil rfl Try.underlying49) rfl rfl ?_
  refine SL.val (Val.move rfl) rfl rfl ?_
  refine SL.nil (SE.seq ?_)
  refine SC.block ?_
  refine SC.loop (ι := Nat) (fun z => [.blk b2 52 c.abs]) (fun z => [(1, int n), (2, ptr b2), (62, .sl 33 (c.points.map Pnt.abs)), (63, int (c.points.length : Nat)), (64, int (z : Nat))]) (fun z => z ≤ c.points.length ∧ ∀ j (hj : j < c.points.length), j < z → isMark c.points[j].seq ∧ (∀ h0 : 0 < j, c.points[j - 1].seq < c.points[j].seq)) (fun z => c.points.length - z) (0) (⟨Nat.zero_le _, by omega⟩) (by exact ⟨rfl, rfl, rfl, rfl, rfl, trivial⟩) (by repeat first|exact s0 _|exact s1 _|apply s2|apply s3) ?_
  intro z hz
  refine SC.seq (SC.region ?_)
  refine SL.val (Val.ltI rfl rfl) rfl rfl ?_
  refine SL.nil (SE.seq ?_)
  refine SC.seq ?_
  refine SC.condP rfl ?_ ?_
  · intro hc65
    have hlt : z < c.points.length := by omega
    refine SC.skip ?_
    refine SE.seq ?_
    refine SC.seq ?_
    refine SC.block ?_
    refine SC.seq (SC.region ?_)
    refine SL.val (Val.move rfl) rfl rfl ?_
    refine SL.val (Val.indexSl tabOk Try.underlying49 rfl rfl rfl rfl (at_map (by omega)) rfl rfl) rfl rfl ?_
    refine SL.val (Val.loadAR tabOk rfl rfl rfl (Pnt.size _)) rfl rfl ?_
    refine SL.eff (Eff.alloc tabOk rfl) rfl rfl ?_
    rintro _ _ ⟨b6, rfl, rfl⟩
    refine SL.val (Val.assign rfl) rfl rfl ?_
    refine SL.eff (Eff.store (L' := (c.points[z]'hlt).abs) tabOk rfl rfl rfl (by repeat first|assumption|exact Upd.here|apply Upd.there) (Pnt.size _) (Nat.le_of_ble_eq_true (by rfl)) (Pnt.ones _) (by exact putL_all (Pnt.size _))) rfl rfl ?_
    rintro _ _ ⟨rfl, rfl⟩
    refine SL.nil (SE.seq ?_)
    refine SC.seq ?_
    refine SC.draw [] (.q 0 (.q 1 (.e 2 (.q 3 (.q 4 (.q 5 (.q 6 (.q 7 (.q 8 (.q 9 (.q 10 (.q 11 (.q 12 (.q 13 (.q 14 (.q 15 (.q 16 (.q 17 (.q 18 (.q 19 .nil)))))))))))))))))))) (by kernel_rfl) (by kernel_rfl) ?_
    refine SX.val rfl (Val.fieldAddr tabOk rfl rfl rfl rfl rfl) (by simp) rfl rfl ?_
    refine SX.val rfl (Val.load1 tabOk rfl rfl (by first|(apply Or.inl;(repeat first|assumption|exact m0|apply m1);done)|(apply Or.inr;(repeat first|assumption|exact m0|apply m1);done)) List.not_mem_nil (by rfl)) (by simp) rfl rfl ?_
    refine SX.call rfl (rmark_s (x := (c.points[z]'hlt).seq)) (by simp [mids, It.mids]) Casts.refl (by kernel_rfl) rfl rfl rfl ?_
    refine After.pure (by repeat first|exact .nil|refine .blk (by repeat first|assumption|exact m0|apply m1) ?_|refine .rd (by repeat first|assumption|exact m0|apply m1) ?_|refine .pc (by repeat first|assumption|exact m0|apply m1) ?_|refine .rdpc (by repeat first|assumption|exact m0|apply m1) ?_) (fun _ => rfl) ?_
    intro _
    refine SX.val rfl (Val.notP rfl) (by simp) rfl rfl ?_
    refine SX.val rfl (Val.move rfl) (by simp) rfl rfl ?_
    refine SX.bothP (t := 73) rfl ?_ ?_
    · intro hc73
      iterate 14 refine SX.skip rfl rfl rfl ?_
      refine SX.val rfl (Val.pickT rfl rfl) (by simp) rfl rfl ?_
      refine SX.nil (SE.seq ?_)
      refine SC.condT rfl ?_
      refine SC.seq (SC.region ?_)
      refine SL.val (Val.assign rfl) rfl rfl ?_
      refine SL.nil (SE.seq ?_)
      refine SC.ret ?_
      refine SE.ret ?_
      refine SE.then_ (by intro h; cases h) ?_
      refine SE.then_ (by intro h; cases h) ?_
      refine SE.ret ?_
      refine SE.then_ (by intro h; cases h) ?_
      refine SE.fin (rs := [.tmp 4]) rfl (RV.tmp rfl RV.nil) (()) (by repeat first|exact s0 _|exact s1 _|apply s2|apply s3) (by simp [It.rids]) ?_
      refine boo_no fun h => ?_
      have m1 := h.2.2.2.1.2.2.2.1 _ (List.getElem_mem hlt)
      have m2 : 0 < z → c.points[z - 1].seq < c.points[z].seq := fun h0 => of_decide_eq_true (rises_at h.2.2.2.1.2.2.2.2 h0 hlt)
      first | omega | exact absurd m1 (by assumption) | simp_all
    intro hc73
    refine SX.val rfl (Val.move rfl) (by simp) rfl rfl ?_
    refine SX.val rfl (Val.gtI rfl rfl) (by simp) rfl rfl ?_
    refine SX.val rfl (Val.move rfl) (by simp) rfl rfl ?_
    refine SX.bothP (t := 76) rfl ?_ ?_
    rotate_left
    · intro hc76
      iterate 10 refine SX.skip rfl rfl rfl ?_
      refine SX.val rfl (Val.pickF rfl rfl) (by simp) rfl rfl ?_
      refine SX.val rfl (Val.pickF rfl rfl) (by simp) rfl rfl ?_
      refine SX.nil (SE.seq ?_)
      refine SC.condF rfl ?_
      refine SC.skip ?_
      refine SE.inBlock ?_
      refine SE.seq ?_
      refine SC.region ?_
      first
        | refine SL.val (Val.addI rfl rfl (by simp only [InR, lo, hi]; omega)) rfl rfl ?_
        | refine SL.val (Val.addW rfl rfl) rfl rfl ?_
      refine SL.val (Val.move rfl) rfl rfl ?_
      refine SL.nil ?_
      refine SE.round (z + 1) (by first | omega | (dsimp only; omega)) (⟨by omega, fun j hj hjz => by
        rcases Nat.lt_or_ge j z with h1 | h1
        · exact hz.2 j hj h1
        obtain rfl : j = z := (by omega)
        simp_all⟩) (by exact ⟨rfl, rfl, rfl, rfl, rfl, trivial⟩) (by repeat first|exact s0 _|exact s1 _|apply s2|apply s3)
    intro hc76
    refine SX.val rfl (Val.fieldAddr tabOk rfl rfl rfl rfl rfl) (by simp) rfl rfl ?_
    refine SX.val rfl (Val.load1 tabOk rfl rfl (by first|(apply Or.inl;(repeat first|assumption|exact m0|apply m1);done)|(apply Or.inr;(repeat first|assumption|exact m0|apply m1);done)) List.not_mem_nil (by rfl)) (by simp) rfl rfl ?_
    refine SX.val rfl (Val.move rfl) (by simp) rfl rfl ?_
    first
      | refine SX.val rfl (Val.subI rfl rfl (by simp only [InR, lo, hi]; omega)) (by simp) rfl rfl ?_
      | refine SX.val rfl (Val.subW rfl rfl) (by simp) rfl rfl ?_
    refine SX.val rfl (Val.indexSl (q := z - 1) tabOk Try.underlying49 rfl rfl rfl (by omega) (at_map (by omega)) rfl rfl) (by first|(simp[mids,It.mids,ownPc];done)|(intro k hk;simp[mids,It.mids,ownPc] at hk ⊢;grind)) rfl rfl ?_
    refine SX.val rfl (Val.fieldAddrR tabOk rfl rfl rfl rfl rfl) (by simp) rfl rfl ?_
    refine SX.val rfl (Val.load1R tabOk rfl rfl rfl) (by simp) rfl rfl ?_
    refine SX.val rfl (Val.fieldAddr tabOk rfl rfl rfl rfl rfl) (by simp) rfl rfl ?_
    refine SX.val rfl (Val.load1 tabOk rfl rfl (by first|(apply Or.inl;(repeat first|assumption|exact m0|apply m1);done)|(apply Or.inr;(repeat first|assumption|exact m0|apply m1);done)) List.not_mem_nil (by rfl)) (by simp) rfl rfl ?_
    refine SX.val rfl (Val.geI rfl rfl) (by simp) rfl rfl ?_
    refine SX.val rfl (Val.pickT rfl rfl) (by simp) rfl rfl ?_
    refine SX.val rfl (Val.pickF rfl rfl) (by simp) rfl rfl ?_
    refine SX.nil (SE.seq ?_)
    refine SC.condP rfl ?_ ?_
    rotate_left
    · intro hc88
      refine SC.skip ?_
      refine SE.inBlock ?_
      refine SE.seq ?_
      refine SC.region ?_
      first
        | refine SL.val (Val.addI rfl rfl (by simp only [InR, lo, hi]; omega)) rfl rfl ?_
        | refine SL.val (Val.addW rfl rfl) rfl rfl ?_
      refine SL.val (Val.move rfl) rfl rfl ?_
      refine SL.nil ?_
      refine SE.round (z + 1) (by first | omega | (dsimp only; omega)) (⟨by omega, fun j hj hjz => by
        rcases Nat.lt_or_ge j z with h1 | h1
        · exact hz.2 j hj h1
        obtain rfl : j = z := (by omega)
        simp_all⟩) (by exact ⟨rfl, rfl, rfl, rfl, rfl, trivial⟩) (by repeat first|exact s0 _|exact s1 _|apply s2|apply s3)
    intro hc88
    refine SC.seq (SC.region ?_)
    refine SL.val (Val.assign rfl) rfl rfl ?_
    refine SL.nil (SE.seq ?_)
    refine SC.ret ?_
    refine SE.ret ?_
    refine SE.then_ (by intro h; cases h) ?_
    refine SE.then_ (by intro h; cases h) ?_
    refine SE.ret ?_
    refine SE.then_ (by intro h; cases h) ?_
    refine SE.fin (rs := [.tmp 4]) rfl (RV.tmp rfl RV.nil) (()) (by repeat first|exact s0 _|exact s1 _|apply s2|apply s3) (by simp [It.rids]) ?_
    refine boo_no fun h => ?_
    have m1 := h.2.2.2.1.2.2.2.1 _ (List.getElem_mem hlt)
    have m2 : 0 < z → c.points[z - 1].seq < c.points[z].seq := fun h0 => of_decide_eq_true (rises_at h.2.2.2.1.2.2.2.2 h0 hlt)
    first | omega | exact absurd m1 (by assumption) | simp_all
  intro hc65
  have hallp := hz.2
  have hzp := hz.1
  have hcp := hc65
  refine SC.exit ?_
  refine SE.then_ (by intro h; cases h) ?_
  refine SE.then_ (by intro h; cases h) ?_
  refine SE.exit ?_
  refine SE.seq ?_
  refine SC.seq ?_
  refine SC.seq (SC.region ?_)
  refine SL.val (Val.fieldAddr tabOk rfl rfl rfl rfl rfl) rfl rfl ?_
  refine SL.val (Val.load1 tabOk rfl rfl (by first|(apply Or.inl;(repeat first|assumption|exact m0|apply m1);done)|(apply Or.inr;(repeat first|assumption|exact m0|apply m1);done)) List.not_mem_nil (by rfl)) rfl rfl ?_
  first
    | refine SL.val (Val.lenSl rfl Try.underlying50 (List.length_map _)) rfl rfl ?_
    | refine SL.val (Val.lenOwn rfl (by repeat first|assumption|exact m0|apply m1) Try.underlying50 (List.length_map _)) rfl rfl ?_
    | refine SL.val (Val.lenNil rfl Try.underlying50) rfl rfl ?_
  refine SL.val (Val.move rfl) rfl rfl ?_
  refine SL.nil (SE.seq ?_)
  refine SC.block ?_
  refine SC.loop (ι := Nat) (fun z => [.blk b2 52 c.abs]) (fun z => [(1, int n), (2, ptr b2), (91, .sl 3 (c.prepared.map Prf.abs)), (92, int (c.prepared.length : Nat)), (93, int (z : Nat))]) (fun z => z ≤ c.prepared.length ∧ ∀ j (hj : j < c.prepared.length), j < z → c.prepared[j].fits c.low c.view n ∧ (∀ h0 : 0 < j, c.prepared[j - 1].lt c.prepared[j])) (fun z => c.prepared.length - z) (0) (⟨Nat.zero_le _, by omega⟩) (by exact ⟨rfl, rfl, rfl, rfl, rfl, trivial⟩) (by repeat first|exact s0 _|exact s1 _|apply s2|apply s3) ?_
  intro z hz
  refine SC.seq (SC.region ?_)
  refine SL.val (Val.ltI rfl rfl) rfl rfl ?_
  refine SL.nil (SE.seq ?_)
  refine SC.seq ?_
  refine SC.condP rfl ?_ ?_
  · intro hc94
    have hlt : z < c.prepared.length := by omega
    refine SC.skip ?_
    refine SE.seq ?_
    refine SC.seq ?_
    refine SC.block ?_
    refine SC.seq (SC.region ?_)
    refine SL.val (Val.move rfl) rfl rfl ?_
    refine SL.val (Val.indexSl tabOk Try.underlying50 rfl rfl rfl rfl (at_map (by omega)) rfl rfl) rfl rfl ?_
    first
      | refine SL.val (Val.loadAR tabOk rfl rfl rfl (by rfl)) rfl rfl ?_
      | refine SL.val (Val.loadPR tabOk rfl rfl rfl (Nat.le_of_ble_eq_true (by rfl))) rfl rfl ?_
    refine SL.eff (Eff.alloc tabOk rfl) rfl rfl ?_
    rintro _ _ ⟨b8, rfl, rfl⟩
    refine SL.val (Val.assign rfl) rfl rfl ?_
    refine SL.eff (Eff.store tabOk rfl rfl rfl (by repeat first|assumption|exact Upd.here|apply Upd.there) (by rfl) (Nat.le_of_ble_eq_true (by rfl)) (by rfl) (by rfl)) rfl rfl ?_
    rintro _ _ ⟨rfl, rfl⟩
    refine SL.nil (SE.seq ?_)
    refine SC.seq ?_
    refine SC.draw [] (.q 0 (.q 1 (.q 2 (.e 3 (.q 4 (.q 5 (.q 6 (.q 7 (.q 8 (.q 9 (.q 10 (.q 11 (.q 12 (.q 13 (.q 14 (.q 15 (.q 16 (.q 17 (.q 18 (.q 19 (.q 20 .nil))))))))))))))))))))) (by kernel_rfl) (by kernel_rfl) ?_
    first
      | refine SX.val rfl (Val.loadA tabOk rfl rfl rfl (by first|(apply Or.inl;(repeat first|assumption|exact m0|apply m1);done)|(apply Or.inr;(repeat first|assumption|exact m0|apply m1);done)) List.not_mem_nil (by rfl)) (by simp) rfl rfl ?_
      | refine SX.val rfl (Val.loadP tabOk rfl rfl rfl (by first|(apply Or.inl;(repeat first|assumption|exact m0|apply m1);done)|(apply Or.inr;(repeat first|assumption|exact m0|apply m1);done)) List.not_mem_nil (Nat.le_of_ble_eq_true (by rfl))) (by simp) rfl rfl ?_
    first
      | refine SX.val rfl (Val.loadA tabOk rfl rfl rfl (by first|(apply Or.inl;(repeat first|assumption|exact m0|apply m1);done)|(apply Or.inr;(repeat first|assumption|exact m0|apply m1);done)) List.not_mem_nil (by rfl)) (by simp) rfl rfl ?_
      | refine SX.val rfl (Val.loadP tabOk rfl rfl rfl (by first|(apply Or.inl;(repeat first|assumption|exact m0|apply m1);done)|(apply Or.inr;(repeat first|assumption|exact m0|apply m1);done)) List.not_mem_nil (Nat.le_of_ble_eq_true (by rfl))) (by simp) rfl rfl ?_
    refine SX.val rfl (Val.move rfl) (by simp) rfl rfl ?_
    refine SX.call rfl (rproof_s (p := (c.prepared[z]'hlt)) (c := c) (n := n) (h1.2 _ (List.getElem_mem hlt)) (g1 _ (List.getElem_mem hlt)) hm) (by simp [mids, It.mids]) Casts.refl (by kernel_rfl) rfl rfl rfl ?_
    refine After.pure (by repeat first|exact .nil|refine .blk (by repeat first|assumption|exact m0|apply m1) ?_|refine .rd (by repeat first|assumption|exact m0|apply m1) ?_|refine .pc (by repeat first|assumption|exact m0|apply m1) ?_|refine .rdpc (by repeat first|assumption|exact m0|apply m1) ?_) (fun _ => rfl) ?_
    intro _
    refine SX.val rfl (Val.notB rfl) (by simp) rfl rfl ?_
    refine SX.val rfl (Val.move rfl) (by simp) rfl rfl ?_
    refine SX.both (t := 103) rfl ?_ ?_
    · intro hc103
      iterate 14 refine SX.skip rfl rfl rfl ?_
      refine SX.val rfl (Val.pickT rfl rfl) (by simp) rfl rfl ?_
      refine SX.nil (SE.seq ?_)
      refine SC.condT rfl ?_
      refine SC.seq (SC.region ?_)
      refine SL.val (Val.assign rfl) rfl rfl ?_
      refine SL.nil (SE.seq ?_)
      refine SC.ret ?_
      refine SE.ret ?_
      refine SE.then_ (by intro h; cases h) ?_
      refine SE.then_ (by intro h; cases h) ?_
      refine SE.ret ?_
      refine SE.then_ (by intro h; cases h) ?_
      refine SE.fin (rs := [.tmp 4]) rfl (RV.tmp rfl RV.nil) (()) (by repeat first|exact s0 _|exact s1 _|apply s2|apply s3) (by simp [It.rids]) ?_
      refine boo_no fun h => ?_
      have m1 := h.2.2.2.2.1.2.2 _ (List.getElem_mem hlt)
      have m2 : 0 < z → c.prepared[z - 1].lt c.prepared[z] := fun h0 => of_decide_eq_true (rises_at h.2.2.2.2.1.2.1 h0 hlt)
      unfold Prf.lt at m2
      first | omega | (have m3 := yes_iff.2 m1; simp_all)
    intro hc103
    refine SX.val rfl (Val.move rfl) (by simp) rfl rfl ?_
    refine SX.val rfl (Val.gtI rfl rfl) (by simp) rfl rfl ?_
    refine SX.val rfl (Val.move rfl) (by simp) rfl rfl ?_
    refine SX.bothP (t := 106) rfl ?_ ?_
    rotate_left
    · intro hc106
      iterate 10 refine SX.skip rfl rfl rfl ?_
      refine SX.val rfl (Val.pickF rfl rfl) (by simp) rfl rfl ?_
      refine SX.val rfl (Val.pickF rfl rfl) (by simp) rfl rfl ?_
      refine SX.nil (SE.seq ?_)
      refine SC.condF rfl ?_
      refine SC.skip ?_
      refine SE.inBlock ?_
      refine SE.seq ?_
      refine SC.region ?_
      first
        | refine SL.val (Val.addI rfl rfl (by simp only [InR, lo, hi]; omega)) rfl rfl ?_
        | refine SL.val (Val.addW rfl rfl) rfl rfl ?_
      refine SL.val (Val.move rfl) rfl rfl ?_
      refine SL.nil ?_
      refine SE.round (z + 1) (by first | omega | (dsimp only; omega)) (⟨by omega, fun j hj hjz => by
        rcases Nat.lt_or_ge j z with h1 | h1
        · exact hz.2 j hj h1
        obtain rfl : j = z := (by omega)
        exact ⟨yes_iff.1 (by simpa using hc103), fun h0 => by unfold Prf.lt; omega⟩⟩) (by exact ⟨rfl, rfl, rfl, rfl, rfl, trivial⟩) (by repeat first|exact s0 _|exact s1 _|apply s2|apply s3)
    intro hc106
    refine SX.val rfl (Val.fieldAddr tabOk rfl rfl rfl rfl rfl) (by simp) rfl rfl ?_
    refine SX.val rfl (Val.load1 tabOk rfl rfl (by first|(apply Or.inl;(repeat first|assumption|exact m0|apply m1);done)|(apply Or.inr;(repeat first|assumption|exact m0|apply m1);done)) List.not_mem_nil (by rfl)) (by simp) rfl rfl ?_
    refine SX.val rfl (Val.move rfl) (by simp) rfl rfl ?_
    first
      | refine SX.val rfl (Val.subI rfl rfl (by simp only [InR, lo, hi]; omega)) (by simp) rfl rfl ?_
      | refine SX.val rfl (Val.subW rfl rfl) (by simp) rfl rfl ?_
    refine SX.val rfl (Val.indexSl (q := z - 1) tabOk Try.underlying50 rfl rfl rfl (by omega) (at_map (by omega)) rfl rfl) (by first|(simp[mids,It.mids,ownPc];done)|(intro k hk;simp[mids,It.mids,ownPc] at hk ⊢;grind)) rfl rfl ?_
    refine SX.val rfl (Val.fieldAddrR tabOk rfl rfl rfl rfl rfl) (by simp) rfl rfl ?_
    refine SX.val rfl (Val.load1R tabOk rfl rfl rfl) (by simp) rfl rfl ?_
    refine SX.val rfl (Val.fieldAddr tabOk rfl rfl rfl rfl rfl) (by simp) rfl rfl ?_
    refine SX.val rfl (Val.load1 tabOk rfl rfl (by first|(apply Or.inl;(repeat first|assumption|exact m0|apply m1);done)|(apply Or.inr;(repeat first|assumption|exact m0|apply m1);done)) List.not_mem_nil (by rfl)) (by simp) rfl rfl ?_
    refine SX.val rfl (Val.geI rfl rfl) (by simp) rfl rfl ?_
    refine SX.val rfl (Val.pickT rfl rfl) (by simp) rfl rfl ?_
    refine SX.val rfl (Val.pickF rfl rfl) (by simp) rfl rfl ?_
    refine SX.nil (SE.seq ?_)
    refine SC.condP rfl ?_ ?_
    rotate_left
    · intro hc118
      refine SC.skip ?_
      refine SE.inBlock ?_
      refine SE.seq ?_
      refine SC.region ?_
      first
        | refine SL.val (Val.addI rfl rfl (by simp only [InR, lo, hi]; omega)) rfl rfl ?_
        | refine SL.val (Val.addW rfl rfl) rfl rfl ?_
      refine SL.val (Val.move rfl) rfl rfl ?_
      refine SL.nil ?_
      refine SE.round (z + 1) (by first | omega | (dsimp only; omega)) (⟨by omega, fun j hj hjz => by
        rcases Nat.lt_or_ge j z with h1 | h1
        · exact hz.2 j hj h1
        obtain rfl : j = z := (by omega)
        exact ⟨yes_iff.1 (by simpa using hc103), fun h0 => by unfold Prf.lt; omega⟩⟩) (by exact ⟨rfl, rfl, rfl, rfl, rfl, trivial⟩) (by repeat first|exact s0 _|exact s1 _|apply s2|apply s3)
    intro hc118
    refine SC.seq (SC.region ?_)
    refine SL.val (Val.assign rfl) rfl rfl ?_
    refine SL.nil (SE.seq ?_)
    refine SC.ret ?_
    refine SE.ret ?_
    refine SE.then_ (by intro h; cases h) ?_
    refine SE.then_ (by intro h; cases h) ?_
    refine SE.ret ?_
    refine SE.then_ (by intro h; cases h) ?_
    refine SE.fin (rs := [.tmp 4]) rfl (RV.tmp rfl RV.nil) (()) (by repeat first|exact s0 _|exact s1 _|apply s2|apply s3) (by simp [It.rids]) ?_
    refine boo_no fun h => ?_
    have m1 := h.2.2.2.2.1.2.2 _ (List.getElem_mem hlt)
    have m2 : 0 < z → c.prepared[z - 1].lt c.prepared[z] := fun h0 => of_decide_eq_true (rises_at h.2.2.2.2.1.2.1 h0 hlt)
    unfold Prf.lt at m2
    first | omega | (have m3 := yes_iff.2 m1; simp_all)
  intro hc94
  have hall := hz.2
  have hza := hz.1
  have hca := hc94
  refine SC.exit ?_
  refine SE.then_ (by intro h; cases h) ?_
  refine SE.then_ (by intro h; cases h) ?_
  refine SE.exit ?_
  refine SE.seq ?_
  refine SC.seq ?_
  refine SC.seq (SC.region ?_)
  refine SL.val (Val.fieldAddr tabOk rfl rfl rfl rfl rfl) rfl rfl ?_
  refine SL.val (Val.load1 tabOk rfl rfl (by first|(apply Or.inl;(repeat first|assumption|exact m0|apply m1);done)|(apply Or.inr;(repeat first|assumption|exact m0|apply m1);done)) List.not_mem_nil (by rfl)) rfl rfl ?_
  first
    | refine SL.val (Val.lenSl rfl Try.underlying50 (List.length_map _)) rfl rfl ?_
    | refine SL.val (Val.lenOwn rfl (by repeat first|assumption|exact m0|apply m1) Try.underlying50 (List.length_map _)) rfl rfl ?_
    | refine SL.val (Val.lenNil rfl Try.underlying50) rfl rfl ?_
  refine SL.val (Val.move rfl) rfl rfl ?_
  refine SL.nil (SE.seq ?_)
  refine SC.block ?_
  refine SC.loop (ι := Nat) (fun z => [.blk b2 52 c.abs]) (fun z => [(1, int n), (2, ptr b2), (121, .sl 3 (c.proposed.map Prf.abs)), (122, int (c.proposed.length : Nat)), (123, int (z : Nat))]) (fun z => z ≤ c.proposed.length ∧ ∀ j (hj : j < c.proposed.length), j < z → c.proposed[j].fits c.low c.view n ∧ (∀ h0 : 0 < j, c.proposed[j - 1].lt2 c.proposed[j])) (fun z => c.proposed.length - z) (0) (⟨Nat.zero_le _, by omega⟩) (by exact ⟨rfl, rfl, rfl, rfl, rfl, trivial⟩) (by repeat first|exact s0 _|exact s1 _|apply s2|apply s3) ?_
  intro z hz
  refine SC.seq (SC.region ?_)
  refine SL.val (Val.ltI rfl rfl) rfl rfl ?_
  refine SL.nil (SE.seq ?_)
  refine SC.seq ?_
  refine SC.condP rfl ?_ ?_
  rotate_left
  · intro hc124
    refine SC.exit ?_
    refine SE.then_ (by intro h; cases h) ?_
    refine SE.then_ (by intro h; cases h) ?_
    refine SE.exit ?_
    refine SE.seq ?_
    refine SC.seq (SC.region ?_)
    refine SL.val (Val.assign rfl) rfl rfl ?_
    refine SL.nil (SE.seq ?_)
    refine SC.ret ?_
    refine SE.fin (rs := [.tmp 4]) rfl (RV.tmp rfl RV.nil) (()) (by repeat first|exact s0 _|exact s1 _|apply s2|apply s3) (by simp [It.rids]) ?_
    refine boo_yes ⟨fun _ => ?_, fun _ => rfl⟩
    refine ⟨hview.1, hview.2, hm, ⟨hlen.1, hlen.2.1, fun p hp => by rw [List.getElem?_eq_getElem h00] at hp; cases hp; exact hp0, fun p hp => ?_, fun j hj => ?_⟩, ⟨by omega, fun j hj => ?_, fun p hp => ?_⟩, ⟨by omega, fun j hj => ?_, fun p hp => ?_⟩⟩
    · obtain ⟨j, hj, rfl⟩ := List.getElem_of_mem hp
      exact (hallp j hj (by omega)).1
    · exact decide_eq_true ((hallp (j + 1) hj (by omega)).2 (by omega))
    · exact decide_eq_true ((hall (j + 1) hj (by omega)).2 (by omega))
    · obtain ⟨j, hj, rfl⟩ := List.getElem_of_mem hp
      exact (hall j hj (by omega)).1
    · exact decide_eq_true ((hz.2 (j + 1) hj (by omega)).2 (by omega))
    · obtain ⟨j, hj, rfl⟩ := List.getElem_of_mem hp
      exact (hz.2 j hj (by omega)).1
  intro hc124
  have hlt : z < c.proposed.length := by omega
  refine SC.skip ?_
  refine SE.seq ?_
  refine SC.seq ?_
  refine SC.block ?_
  refine SC.seq (SC.region ?_)
  refine SL.val (Val.move rfl) rfl rfl ?_
  refine SL.val (Val.indexSl tabOk Try.underlying50 rfl rfl rfl rfl (at_map (by omega)) rfl rfl) rfl rfl ?_
  first
    | refine SL.val (Val.loadAR tabOk rfl rfl rfl (by rfl)) rfl rfl ?_
    | refine SL.val (Val.loadPR tabOk rfl rfl rfl (Nat.le_of_ble_eq_true (by rfl))) rfl rfl ?_
  refine SL.eff (Eff.alloc tabOk rfl) rfl rfl ?_
  rintro _ _ ⟨b10, rfl, rfl⟩
  refine SL.val (Val.assign rfl) rfl rfl ?_
  refine SL.eff (Eff.store tabOk rfl rfl rfl (by repeat first|assumption|exact Upd.here|apply Upd.there) (by rfl) (Nat.le_of_ble_eq_true (by rfl)) (by rfl) (by rfl)) rfl rfl ?_
  rintro _ _ ⟨rfl, rfl⟩
  refine SL.nil (SE.seq ?_)
  refine SC.seq ?_
  refine SC.seq (SC.region ?_)
  first
    | refine SL.val (Val.loadA tabOk rfl rfl rfl (by first|(apply Or.inl;(repeat first|assumption|exact m0|apply m1);done)|(apply Or.inr;(repeat first|assumption|exact m0|apply m1);done)) List.not_mem_nil (by rfl)) rfl rfl ?_
    | refine SL.val (Val.loadP tabOk rfl rfl rfl (by first|(apply Or.inl;(repeat first|assumption|exact m0|apply m1);done)|(apply Or.inr;(repeat first|assumption|exact m0|apply m1);done)) List.not_mem_nil (Nat.le_of_ble_eq_true (by rfl))) rfl rfl ?_
  first
    | refine SL.val (Val.loadA tabOk rfl rfl rfl (by first|(apply Or.inl;(repeat first|assumption|exact m0|apply m1);done)|(apply Or.inr;(repeat first|assumption|exact m0|apply m1);done)) List.not_mem_nil (by rfl)) rfl rfl ?_
    | refine SL.val (Val.loadP tabOk rfl rfl rfl (by first|(apply Or.inl;(repeat first|assumption|exact m0|apply m1);done)|(apply Or.inr;(repeat first|assumption|exact m0|apply m1);done)) List.not_mem_nil (Nat.le_of_ble_eq_true (by rfl))) rfl rfl ?_
  refine SL.val (Val.move rfl) rfl rfl ?_
  refine SL.call (rproof_s (p := (c.proposed[z]'hlt)) (c := c) (n := n) (h2.2 _ (List.getElem_mem hlt)) (g2 _ (List.getElem_mem hlt)) hm) Casts.refl (by kernel_rfl) rfl rfl rfl ?_
  refine After.pure (by repeat first|exact .nil|refine .blk (by repeat first|assumption|exact m0|apply m1) ?_|refine .rd (by repeat first|assumption|exact m0|apply m1) ?_|refine .pc (by repeat first|assumption|exact m0|apply m1) ?_|refine .rdpc (by repeat first|assumption|exact m0|apply m1) ?_) (fun _ => rfl) ?_
  intro _
  refine SL.val (Val.notB rfl) rfl rfl ?_
  refine SL.nil (SE.seq ?_)
  refine SC.cond rfl ?_ ?_
  · intro hc132
    refine SC.seq (SC.region ?_)
    refine SL.val (Val.assign rfl) rfl rfl ?_
    refine SL.nil (SE.seq ?_)
    refine SC.ret ?_
    refine SE.then_ (by intro h; cases h) ?_
    refine SE.ret ?_
    refine SE.then_ (by intro h; cases h) ?_
    refine SE.then_ (by intro h; cases h) ?_
    refine SE.ret ?_
    refine SE.then_ (by intro h; cases h) ?_
    refine SE.fin (rs := [.tmp 4]) rfl (RV.tmp rfl RV.nil) (()) (by repeat first|exact s0 _|exact s1 _|apply s2|apply s3) (by simp [It.rids]) ?_
    refine boo_no fun h => ?_
    have m1 := h.2.2.2.2.2.2.2 _ (List.getElem_mem hlt)
    have m3 := yes_iff.2 m1
    simp_all
  intro hc132
  refine SC.skip ?_
  refine SE.seq ?_
  refine SC.seq (SC.region ?_)
  refine SL.val (Val.move rfl) rfl rfl ?_
  refine SL.val (Val.gtI rfl rfl) rfl rfl ?_
  refine SL.nil (SE.seq ?_)
  refine SC.condP rfl ?_ ?_
  rotate_left
  · intro hc134
    refine SC.skip ?_
    refine SE.inBlock ?_
    refine SE.seq ?_
    refine SC.region ?_
    first
      | refine SL.val (Val.addI rfl rfl (by simp only [InR, lo, hi]; omega)) rfl rfl ?_
      | refine SL.val (Val.addW rfl rfl) rfl rfl ?_
    refine SL.val (Val.move rfl) rfl rfl ?_
    refine SL.nil ?_
    refine SE.round (z + 1) (by first | omega | (dsimp only; omega)) (⟨by omega, fun j hj hjz => by
      rcases Nat.lt_or_ge j z with h1 | h1
      · exact hz.2 j hj h1
      obtain rfl : j = z := (by omega)
      exact ⟨yes_iff.1 (by simpa using hc132), fun h0 => by unfold Prf.lt2; omega⟩⟩) (by exact ⟨rfl, rfl, rfl, rfl, rfl, trivial⟩) (by repeat first|exact s0 _|exact s1 _|apply s2|apply s3)
  intro hc134
  refine SC.seq (SC.region ?_)
  refine SL.val (Val.fieldAddr tabOk rfl rfl rfl rfl rfl) rfl rfl ?_
  refine SL.val (Val.load1 tabOk rfl rfl (by first|(apply Or.inl;(repeat first|assumption|exact m0|apply m1);done)|(apply Or.inr;(repeat first|assumption|exact m0|apply m1);done)) List.not_mem_nil (by rfl)) rfl rfl ?_
  refine SL.val (Val.move rfl) rfl rfl ?_
  first
    | refine SL.val (Val.subI rfl rfl (by simp only [InR, lo, hi]; omega)) rfl rfl ?_
    | refine SL.val (Val.subW rfl rfl) rfl rfl ?_
  refine SL.val (Val.indexSl (q := z - 1) tabOk Try.underlying50 rfl rfl rfl (by omega) (at_map (by omega)) rfl rfl) rfl rfl ?_
  first
    | refine SL.val (Val.loadAR tabOk rfl rfl rfl (by rfl)) rfl rfl ?_
    | refine SL.val (Val.loadPR tabOk rfl rfl rfl (Nat.le_of_ble_eq_true (by rfl))) rfl rfl ?_
  refine SL.eff (Eff.alloc tabOk rfl) rfl rfl ?_
  rintro _ _ ⟨b11, rfl, rfl⟩
  refine SL.eff (Eff.store tabOk rfl rfl rfl (by repeat first|assumption|exact Upd.here|apply Upd.there) (by rfl) (Nat.le_of_ble_eq_true (by rfl)) (by rfl) (by rfl)) rfl rfl ?_
  rintro _ _ ⟨rfl, rfl⟩
  refine SL.nil (SE.seq ?_)
  refine SC.seq (SC.region ?_)
  refine SL.val (Val.fieldAddr tabOk rfl rfl rfl rfl rfl) rfl rfl ?_
  refine SL.val (Val.load1 tabOk rfl rfl (by first|(apply Or.inl;(repeat first|assumption|exact m0|apply m1);done)|(apply Or.inr;(repeat first|assumption|exact m0|apply m1);done)) List.not_mem_nil (by rfl)) rfl rfl ?_
  refine SL.val (Val.fieldAddr tabOk rfl rfl rfl rfl rfl) rfl rfl ?_
  refine SL.val (Val.load1 tabOk rfl rfl (by first|(apply Or.inl;(repeat first|assumption|exact m0|apply m1);done)|(apply Or.inr;(repeat first|assumption|exact m0|apply m1);done)) List.not_mem_nil (by rfl)) rfl rfl ?_
  refine SL.val (Val.gtI rfl rfl) rfl rfl ?_
  refine SL.val (Val.move rfl) rfl rfl ?_
  refine SL.bothP (t := 146) rfl ?_ ?_
  · intro hc146
    iterate 12 refine SL.skip rfl rfl ?_
    refine SL.val (Val.pickT rfl rfl) rfl rfl ?_
    refine SL.nil (SE.seq ?_)
    refine SC.condT rfl ?_
    refine SC.seq (SC.region ?_)
    refine SL.val (Val.assign rfl) rfl rfl ?_
    refine SL.nil (SE.seq ?_)
    refine SC.ret ?_
    refine SE.ret ?_
    refine SE.then_ (by intro h; cases h) ?_
    refine SE.then_ (by intro h; cases h) ?_
    refine SE.ret ?_
    refine SE.then_ (by intro h; cases h) ?_
    refine SE.fin (rs := [.tmp 4]) rfl (RV.tmp rfl RV.nil) (()) (by repeat first|exact s0 _|exact s1 _|apply s2|apply s3) (by simp [It.rids]) ?_
    refine boo_no fun h => ?_
    have m2 : 0 < z → c.proposed[z - 1].lt2 c.proposed[z] := fun h0 => of_decide_eq_true (rises_at h.2.2.2.2.2.2.1 h0 hlt)
    unfold Prf.lt2 at m2
    omega
  intro hc146
  refine SL.val (Val.fieldAddr tabOk rfl rfl rfl rfl rfl) rfl rfl ?_
  refine SL.val (Val.load1 tabOk rfl rfl (by first|(apply Or.inl;(repeat first|assumption|exact m0|apply m1);done)|(apply Or.inr;(repeat first|assumption|exact m0|apply m1);done)) List.not_mem_nil (by rfl)) rfl rfl ?_
  refine SL.val (Val.fieldAddr tabOk rfl rfl rfl rfl rfl) rfl rfl ?_
  refine SL.val (Val.load1 tabOk rfl rfl (by first|(apply Or.inl;(repeat first|assumption|exact m0|apply m1);done)|(apply Or.inr;(repeat first|assumption|exact m0|apply m1);done)) List.not_mem_nil (by rfl)) rfl rfl ?_
  refine SL.val (Val.eqI rfl rfl) rfl rfl ?_
  refine SL.val (Val.move rfl) rfl rfl ?_
  refine SL.bothP (t := 152) rfl ?_ ?_
  rotate_left
  · intro hc152
    iterate 5 refine SL.skip rfl rfl ?_
    refine SL.val (Val.pickF rfl rfl) rfl rfl ?_
    refine SL.val (Val.pickF rfl rfl) rfl rfl ?_
    refine SL.nil (SE.seq ?_)
    refine SC.condF rfl ?_
    refine SC.skip ?_
    refine SE.inBlock ?_
    refine SE.seq ?_
    refine SC.region ?_
    first
      | refine SL.val (Val.addI rfl rfl (by simp only [InR, lo, hi]; omega)) rfl rfl ?_
      | refine SL.val (Val.addW rfl rfl) rfl rfl ?_
    refine SL.val (Val.move rfl) rfl rfl ?_
    refine SL.nil ?_
    refine SE.round (z + 1) (by first | omega | (dsimp only; omega)) (⟨by omega, fun j hj hjz => by
      rcases Nat.lt_or_ge j z with h1 | h1
      · exact hz.2 j hj h1
      obtain rfl : j = z := (by omega)
      exact ⟨yes_iff.1 (by simpa using hc132), fun h0 => by unfold Prf.lt2; omega⟩⟩) (by exact ⟨rfl, rfl, rfl, rfl, rfl, trivial⟩) (by repeat first|exact s0 _|exact s1 _|apply s2|apply s3)
  intro hc152
  refine SL.val (Val.fieldAddr tabOk rfl rfl rfl rfl rfl) rfl rfl ?_
  refine SL.val (Val.load1 tabOk rfl rfl (by first|(apply Or.inl;(repeat first|assumption|exact m0|apply m1);done)|(apply Or.inr;(repeat first|assumption|exact m0|apply m1);done)) List.not_mem_nil (by rfl)) rfl rfl ?_
  refine SL.val (Val.fieldAddr tabOk rfl rfl rfl rfl rfl) rfl rfl ?_
  refine SL.val (Val.load1 tabOk rfl rfl (by first|(apply Or.inl;(repeat first|assumption|exact m0|apply m1);done)|(apply Or.inr;(repeat first|assumption|exact m0|apply m1);done)) List.not_mem_nil (by rfl)) rfl rfl ?_
  refine SL.val (Val.geI rfl rfl) rfl rfl ?_
  refine SL.val (Val.pickT rfl rfl) rfl rfl ?_
  refine SL.val (Val.pickF rfl rfl) rfl rfl ?_
  refine SL.nil (SE.seq ?_)
  refine SC.condP rfl ?_ ?_
  rotate_left
  · intro hc159
    refine SC.skip ?_
    refine SE.inBlock ?_
    refine SE.seq ?_
    refine SC.region ?_
    first
      | refine SL.val (Val.addI rfl rfl (by simp only [InR, lo, hi]; omega)) rfl rfl ?_
      | refine SL.val (Val.addW rfl rfl) rfl rfl ?_
    refine SL.val (Val.move rfl) rfl rfl ?_
    refine SL.nil ?_
    refine SE.round (z + 1) (by first | omega | (dsimp only; omega)) (⟨by omega, fun j hj hjz => by
      rcases Nat.lt_or_ge j z with h1 | h1
      · exact hz.2 j hj h1
      obtain rfl : j = z := (by omega)
      exact ⟨yes_iff.1 (by simpa using hc132), fun h0 => by unfold Prf.lt2; omega⟩⟩) (by exact ⟨rfl, rfl, rfl, rfl, rfl, trivial⟩) (by repeat first|exact s0 _|exact s1 _|apply s2|apply s3)
  intro hc159
  refine SC.seq (SC.region ?_)
  refine SL.val (Val.assign rfl) rfl rfl ?_
  refine SL.nil (SE.seq ?_)
  refine SC.ret ?_
  refine SE.ret ?_
  refine SE.then_ (by intro h; cases h) ?_
  refine SE.then_ (by intro h; cases h) ?_
  refine SE.ret ?_
  refine SE.then_ (by intro h; cases h) ?_
  refine SE.fin (rs := [.tmp 4]) rfl (RV.tmp rfl RV.nil) (()) (by repeat first|exact s0 _|exact s1 _|apply s2|apply s3) (by simp [It.rids]) ?_
  refine boo_no fun h => ?_
  have m2 : 0 < z → c.proposed[z - 1].lt2 c.proposed[z] := fun h0 => of_decide_eq_true (rises_at h.2.2.2.2.2.2.1 h0 hlt)
  unfold Prf.lt2 at m2
  omega
end
end Go.Proofs.Ytpgffckfbgfgcaa.A
/-
  The second engine: arrays, copies, blocks that are only read from then on.
-/
set_option maxRecDepth 100000
set_option linter.unusedSimpArgs false
set_option linter.unusedVariables false
namespace Go.Proofs.Ytpgffckfbgfgcaa.A
open Go.RowKit

section
variable {P : Program} {n : Nat} {W : Wd} {σ τ : Blks} {l : Slots} {X : List Nat} {x y z : Operand} {d : Option Nat} {ty t t' e : TypeId} {pos : String} {aft : Array Edge} {g : Option (Nat × Bool)} {v u : Value} {k k' : IntKind} {a b : Nat} {o : Oper} {A B : Abs} {tab : List (Nat × TI)} {ops : Array Oper} {rest : List Oper} {Q : Exit → Act → World → Prop} {ix : Plan} {xs ys : List (List Abs)} {s q : Nat} {cs : List Abs}
theorem upd_self {x : It} {σ τ : Blks} (h : Upd x x σ τ) : τ = σ := by
  induction h with
  | here => rfl
  | there _ ih => rw [ih]
/-- A block is only read from then on: its address is one of cells that are read. -/
theorem St.freezeB {a : Act} {w : World} {pre post : Blks} {i : Nat} (h : St n W (pre ++ .blk b t cs :: post) l a w) (hs : slot l i = some (.v (.pointer (some ⟨b, 0, none⟩)))) : St n W (pre ++ post) ((i, .rp cs) :: l) a w := by
  have hsub : (pre ++ post).Sublist (pre ++ .blk b t cs :: post) := List.Sublist.append (List.Sublist.refl _) (List.sublist_cons_self _ _)
  obtain ⟨us, hb, hr⟩ := h.mem.hold (.blk b t cs) (by simp)
  have hc := (h.mem.sub hsub).2
  refine (h.less hsub).cast hs fun u hu => ?_
  have : u = .pointer (some ⟨b, 0, none⟩) := hu
  subst this
  refine ⟨b, 0, us, rfl, fun hm => ?_, heap_lt hb, fun j u hu => by rw [Nat.zero_add, mem_cell hb]; exact hu, reps_carry hc _ _ hr⟩
  have hnd := h.mem.nodup
  simp only [mids_append, mids_cons, List.nodup_append, It.mids] at hnd hm
  obtain ⟨n1, ⟨n2, n3, n4⟩, n5⟩ := hnd
  rcases List.mem_append.1 hm with hm | hm
  · rcases List.mem_append.1 hm with hm | hm
    · exact n5 b hm b (by simp) rfl
    · exact n4 b (by simp) b hm rfl
  · exact h.mem.sep b (by simp [mids_append, mids_cons, It.mids]) hm
theorem SC.freezeB {c : Code} (pre : Blks) {post : Blks} (i : Nat) (hσ : σ = pre ++ .blk b t cs :: post) (hs : slot l i = some (.v (.pointer (some ⟨b, 0, none⟩)))) (k : SC P c (St n W (pre ++ post) ((i, .rp cs) :: l)) Q) : SC P c (St n W σ l) Q := by
  subst hσ; exact fun a w h => k a w (h.freezeB hs)
theorem SL.freezeB (pre : Blks) {post : Blks} (i : Nat) (hσ : σ = pre ++ .blk b t cs :: post) (hs : slot l i = some (.v (.pointer (some ⟨b, 0, none⟩)))) (k : SL P ops rest (St n W (pre ++ post) ((i, .rp cs) :: l)) Q) : SL P ops rest (St n W σ l) Q := by
  subst hσ; exact fun a w h => k a w (h.freezeB hs)
theorem SC.known {c : Code} {p : Prop} {T : Act → World → Prop} (h : ∀ a w, T a w → p) (k : p → SC P c T Q) : SC P c T Q := fun a w ha => k (h a w ha) a w ha
theorem SL.known {p : Prop} {T : Act → World → Prop} (h : ∀ a w, T a w → p) (k : p → SL P ops rest T Q) : SL P ops rest T Q := fun a w ha => k (h a w ha) a w ha
theorem reps_set {K : List Nat} {w : World} {z : Abs} : ∀ {ps : List Abs} {us : List Value} {o : Nat} {u : Value}, reps K w ps us → us[o]? = some u → rep K w z u → reps K w (putL ps o [z]) us
  | [], us, o, u, h, hu, _ => by have : us = [] := h; subst this; simp at hu
  | a :: ps, _, 0, u, ⟨x, us', h1, h2, h3⟩, hu, hz => by
    subst h1
    simp at hu
    subst hu
    exact ⟨x, us', rfl, hz, h3⟩
  | a :: ps, _, o + 1, u, ⟨x, us', h1, h2, h3⟩, hu, hz => by
    subst h1
    exact ⟨x, us', rfl, h2, reps_set h3 (by simpa using hu) hz⟩
/-- A row of the call's own, that a block's cell holds, is only read from then on. -/
theorem St.freezeC {a : Act} {w : World} {pre post : Blks} {o : Nat} (h : St n W (pre ++ own e s v xs :: post) l a w) (hu : Upd (.blk b t cs) (.blk b t (putL cs o [.sl s xs])) (pre ++ post) τ) (hv : cs[o]? = some (.v v)) : St n W τ l a w := by
  have hsub : (pre ++ post).Sublist (pre ++ own e s v xs :: post) := List.Sublist.append (List.Sublist.refl _) (List.sublist_cons_self _ _)
  have h1 := own_sl h.mem
  have h2 := h.less hsub
  obtain ⟨us, hb, hr⟩ := h2.mem.hold _ hu.mem
  obtain ⟨u, h3, h4⟩ := reps_get hr hv
  have h4 : u = v := h4
  subst h4
  have hm := h2.mem.upd hu (Ext.refl w) (by simp [It.mids]) (by simp [It.mids]) rfl fun hc => ⟨us, hb, reps_carry hc _ _ (reps_set hr h3 h1)⟩
  exact h2.to hm.1 hm.2
theorem SC.freezeC {c : Code} (pre : Blks) {post : Blks} (o : Nat) (hσ : σ = pre ++ own e s v xs :: post) (hu : Upd (.blk b t cs) (.blk b t (putL cs o [.sl s xs])) (pre ++ post) τ) (hv : cs[o]? = some (.v v)) (k : SC P c (St n W τ l) Q) : SC P c (St n W σ l) Q := by
  subst hσ; exact fun a w h => k a w (h.freezeC hu hv)
theorem SL.freezeC (pre : Blks) {post : Blks} (o : Nat) (hσ : σ = pre ++ own e s v xs :: post) (hu : Upd (.blk b t cs) (.blk b t (putL cs o [.sl s xs])) (pre ++ post) τ) (hv : cs[o]? = some (.v v)) (k : SL P ops rest (St n W τ l) Q) : SL P ops rest (St n W σ l) Q := by
  subst hσ; exact fun a w h => k a w (h.freezeC hu hv)
theorem repss_cells {K : List Nat} {w : World} : ∀ {ys : List Abs} {us : List Value}, reps K w ys us → repss K w 1 (ys.map fun a => [a]) us
  | [], us, h => h
  | a :: ys, _, ⟨u, us', h1, h2, h3⟩ => ⟨[u], us', h1, rfl, ⟨u, [], rfl, h2, rfl⟩, repss_cells h3⟩
/-- 's[:]' of an array that is read, of single cells. -/
theorem Val.sliceArrR (hT : TabOk P tab) {i : TI} {m : Nat} (hu : P.underlying t = some (.array m e)) (hi : ti tab e = some i) (_h1 : Nat.beq i.size 1 = true) (hx : look l x = some (.rp cs)) (hm : Nat.ble m maxLen = true) (hxs : (cs.take m).map (fun a => [a]) = xs) (hl : m ≤ cs.length) :
    Val P n W σ l X ⟨d, .slice t x none none none, ty, pos, aft, g⟩ (.sl 1 xs) := fun a w hs hX => by
  obtain ⟨b, off, us, h1, h2, h3, h4, h5⟩ := hs.eval hx
  have hlen := reps_length h5
  subst hxs
  have hl2 : ((cs.take m).map fun a => [a]).length = m := by simp; omega
  refine ⟨.slice (some ⟨b, off, none⟩) m m, ⟨us.take m, ⟨⟨_, m, by rw [hl2], by omega, Nat.le_of_ble_eq_true hm, by simp⟩, fun hn => ⟨b, off, m, m, rfl, h2, fun j u hu => ?_⟩⟩, repss_cells (reps_take h5 m)⟩, fun w' _ => ?_⟩
  · rw [List.getElem?_take] at hu
    split at hu
    · exact h4 j u hu
    · cases hu
  · have h6 := (hT _ _ hi).sizeOf (w := w')
    simp [execOp, Instr.sliceAt, Instr.sureAddr, Instr.sliceBounds, h1, run_underlying hu, Sem.run_bind, Result.andThen, h6, Addr.add]
/-- 's[:]' of an array in a block of the call's own. -/
theorem Val.sliceArr (hT : TabOk P tab) {i : TI} {m off : Nat} (hu : P.underlying t = some (.array m e)) (hi : ti tab e = some i) (hx : look l x = some (.v (.pointer (some ⟨b, off, none⟩)))) :
    Val P n W σ l X ⟨d, .slice t x none none none, ty, pos, aft, g⟩ (.v (.slice (some ⟨b, off, none⟩) m m)) := fun a w hs _ => ⟨_, rfl, fun w' _ => by
  have h6 := (hT _ _ hi).sizeOf (w := w')
  simp [execOp, Instr.sliceAt, Instr.sureAddr, Instr.sliceBounds, hs.plain hx, run_underlying hu, Sem.run_bind, Result.andThen, h6, Addr.add]⟩
/-- The address of an element of an array in a block. -/
theorem Val.indexArP (hT : TabOk P tab) {i : TI} {m off : Nat} {r : Int} (hu : P.underlying t = some (.array m e)) (hi : ti tab e = some i) (hx : look l x = some (.v (.pointer (some ⟨b, off, none⟩)))) (hy : look l y = some (.v (.int k r))) (hr : r = (q : Nat)) (hq : q < m) (hm : Nat.ble m 1 = false) :
    Val P n W σ l X ⟨d, .indexAddr t x y, ty, pos, aft, g⟩ (.v (.pointer (some ⟨b, off + q * i.size, none⟩))) := fun a w hs _ => ⟨_, rfl, fun w' _ => by
  subst hr
  have h6 := (hT _ _ hi).sizeOf (w := w')
  have hq' : (q : Int) < (m : Nat) := by omega
  simp [execOp, Instr.indexAt, Instr.sureAddr, asIntOf, hs.plain hx, hs.plain hy, run_underlying hu, Sem.run_bind, Result.andThen, h6, hq, Addr.add_none]⟩
/-- An element of an array's value, of one cell. -/
theorem Val.indexAr (hT : TabOk P tab) {sz m : Nat} {zs : List Value} {r : Int} (hu : P.underlying t = some (.array m e)) (hj : ti tab e = some ⟨sz, .one, zs⟩) (hs1 : Nat.beq sz 1 = true) (hx : look l x = some (.agg cs)) (hy : look l y = some (.v (.int k r))) (hr : r = (q : Nat)) (hq : q < m) (hv : cs[q]? = some A) :
    Val P n W σ l X ⟨d, .index t x y, ty, pos, aft, g⟩ A := Val.mk' fun a w hs _ => by
  subst hr
  obtain ⟨us, h1, h2⟩ := hs.eval hx
  obtain ⟨u, h3, h4⟩ := reps_get h2 hv
  refine ⟨u, h4, fun w' _ => fun A2 w2 hf e => ?_⟩
  subst e
  have h5 := (hT _ _ hj).sizeOf (w := w2)
  have h6 := (hT _ _ hj).isAgg (w := w2)
  have hs1 := Nat.eq_of_beq_eq_true hs1
  subst hs1
  have hq' : (q : Int) < (m : Nat) := by omega
  have e1 : A2.eval x = .agg us.toArray := by rw [hf.eval (hs.at2 hx), h1]
  have e2 : A2.eval y = .int k (q : Nat) := by rw [hf.eval (hs.at2 hy), hs.plain hy]
  simp [execOp, Instr.index, asIntOf, e1, e2, run_underlying hu, Sem.run_bind, Result.andThen, h5, Go.part, h6, h3, hq]
/-- 'copy(dst, src)' into a block of the call's own, of single cells. -/
theorem Eff.copy {off m c : Nat} {L' : List Abs} (hu : P.underlying t = some (.slice e)) (hi : (P.info? e).map (·.size) = some 1) (hx : look l x = some (.v (.slice (some ⟨b, off, none⟩) m c))) (hy : look l y = some (.sl 1 xs)) (hup : Upd (.blk b t' cs) (.blk b t' L') σ τ) (hl : off + min xs.length m ≤ cs.length) (h1 : ∀ c ∈ xs, ones c = true) (hL : putL cs off (xs.take m).flatten = L') :
    Eff P n W σ l [b] ⟨d, .call { callee := .builtin .copy, args := #[x, y], argTypes := #[t, t] }, ty, pos, aft, g⟩ fun r τ' => r = .v (.int .i64 (min xs.length m : Nat)) ∧ τ' = τ := fun a w hs => by
  obtain ⟨us, hb, hr⟩ := hs.mem.hold _ hup.mem
  obtain ⟨news, hrow, hr2⟩ := hs.eval hy
  obtain ⟨A', c', hsh, _⟩ := hrow.shape
  have hlen := reps_length hr
  have hlen2 := repss_length hr2
  rw [Nat.mul_one] at hlen2
  have hreps : ∀ (xs : List (List Abs)) (news : List Value), repss (mids σ ++ W.G) w 1 xs news → reps (mids σ ++ W.G) w xs.flatten news := by
    intro xs
    induction xs with
    | nil => intro news h; exact h
    | cons y ys ih =>
      rintro news ⟨u1, u2, rfl, _, h3, h4⟩
      rw [List.flatten_cons]; exact reps_append h3 (ih u2 h4)
  have htk : ∀ (m : Nat), repss (mids σ ++ W.G) w 1 (xs.take m) (news.take m) := fun m => by
    rcases Nat.le_total m xs.length with h | h
    · have := (repss_drop hr2 m h).2; rwa [Nat.mul_one] at this
    · rw [List.take_of_length_le h, List.take_of_length_le (by omega)]; exact hr2
  have hone : ∀ u ∈ news.take m, u.oneCell' = true := ones_reps (hreps _ _ (htk m)) (by
    rw [ones_iff]; intro a ha
    obtain ⟨c, hc, hac⟩ := List.mem_flatten.1 ha
    exact ones_iff.1 (h1 c (List.mem_of_mem_take hc)) a hac)
  have htl : (news.take m).length = Nat.min xs.length m := by rw [List.length_take, hlen2]; exact Nat.min_comm _ _
  have hmn : (news.take m).length = min xs.length m := htl
  by_cases hn : news = []
  · subst hn
    have h0 : xs.length = 0 := by simpa using hlen2.symm
    have hxn : xs = [] := List.length_eq_zero_iff.1 h0
    subst hxn
    have hLc : L' = cs := by rw [← hL, putL_eq _ _ _ (by omega)]; simp
    subst hLc
    have hτ := upd_self hup
    subst hτ
    refine ⟨_, w, _, _, ⟨rfl, rfl⟩, Ext.refl w, rfl, hs.mem, Carry.refl, .inl ?_⟩
    obtain ⟨I, hI, hIs⟩ : ∃ I, P.info? e = some I ∧ I.size = 1 := by
      cases hq : P.info? e with
      | none => simp [hq] at hi
      | some i => exact ⟨i, rfl, by simpa [hq] using hi⟩
    cases A' <;> simp [execOp, resolve, invoke, builtin, Builtin.copy_, hs.plain hx, hsh, run_underlying hu, Builtin.lenOf, Builtin.firstCells, sizeOf, typeInfo, hI, hIs, storeCells, Sem.run_bind, Result.andThen, loadCells, loadCellsFrom, goInt]
  · obtain ⟨bb, o2, n2, c2, hv, hbb, hcc⟩ := hrow.cells hn
    rw [hsh] at hv
    simp at hv
    obtain ⟨rfl, rfl, rfl⟩ := hv
    have hrun := run_copy_row (P := P) w t t ty e b off m c ⟨bb, o2, none⟩ xs.length c' us.toArray t' (news.take m) hu hi hb htl (fun j u hu => by
      rw [Addr.add_none]
      rw [List.getElem?_take] at hu
      split at hu
      · exact hcc j u hu
      · cases hu) (by simp; omega) hone
    have hE : (us.toArray.toList.take off ++ news.take m ++ us.toArray.toList.drop (off + (news.take m).length)).toArray = (putAt us off (news.take m)).toArray := by
      rw [putAt_eq us off _ (by omega)]
    rw [hE, hmn] at hrun
    have hxx : Ext [b] w (w.setRow b (putAt us off (news.take m)).toArray) := (Ext.refl w).setRow (.inl (by simp)) _
    have hm := hs.mem.upd hup hxx (by simp [It.mids]) (by simp [It.mids]) rfl fun hc => ⟨_, heap_setRow hb, reps_carry hc _ _ (hL ▸ reps_put hr (hreps _ _ (htk m)) (by omega))⟩
    refine ⟨_, _, _, _, ⟨rfl, rfl⟩, hxx, rfl, hm.1, hm.2, .inl ?_⟩
    simp [execOp, resolve, invoke, builtin, hs.plain hx, hsh, hrun, Result.andThen, goInt]
/-- A function that makes a row of bytes of its own. -/
theorem Spec.ofOwnB {f : FuncId} {args : List Abs} {out : List UInt8} {e : TypeId} (h : ∀ (K : List Nat) (w : World) (vals : List Value), (∀ k ∈ K, k < w.heap.size) → reps K w args vals →
    Calls P f vals.toArray w fun en w' => ∃ r ρ, en = .returned r ∧ Proofs.Ytpgffckfbgfgcaa.Mem [(w, K)] [.pc (Proofs.Ytpgffckfbgfgcaa.ownPc e 1 r out.length (out.map bc)), old2 w K] ρ w') : Spec P f args [] (fun r : Value => [own e 1 r (out.map fun b => [.v (bc b)])]) (fun r => .v r) := fun G w vals hm hv =>
  (h G w vals hm.old hv).mono fun en w' ⟨r, ρ, he, hm2⟩ => by
    have hx := leave2 hm2 (by simp)
    have how : w'.ownsRow 0 e 1 r out.length (out.map bc) := hm2.hold (.pc (Proofs.Ytpgffckfbgfgcaa.ownPc e 1 r out.length (out.map bc))) (by simp)
    have hnew : ∀ k ∈ r.ownBlock.toList, w.heap.size ≤ k := fun k hk => by
      have h3 := hm2.out _ (List.mem_cons_self) k (by simpa [Proofs.Ytpgffckfbgfgcaa.It.ids, Proofs.Ytpgffckfbgfgcaa.ownPc] using hk) (w, G) (by simp)
      rcases h3 with h3 | h3
      · have h4 := hm2.nodup
        simp only [List.flatMap_cons, List.flatMap_nil, List.append_nil, List.nodup_append] at h4
        exact absurd rfl (h4.2.2 k (by simpa [Proofs.Ytpgffckfbgfgcaa.It.ids, Proofs.Ytpgffckfbgfgcaa.ownPc] using hk) k (old2_ids.2 ⟨hm.old k h3, h3⟩))
      · exact h3
    refine ⟨r, r, he, by simp [It.rids], ⟨hx, fun k hk => .inr (hnew k ?_), fun k hk hg => ?_, fun k hk => Nat.lt_of_lt_of_le (hm.old k hk) hx.size, by simp [It.rids], ?_, fun x hxm => ?_⟩, rfl⟩
    · simpa [mids, It.mids, ownPc] using hk
    · have := hnew k (by simpa [mids, It.mids, ownPc] using hk)
      have := hm.old k hg
      omega
    · simp only [mids, List.flatMap_cons, List.flatMap_nil, List.append_nil]; exact own_nodup
    · rw [List.mem_singleton] at hxm; subst hxm
      refine ⟨out.map bc, by simpa using how, ?_⟩
      rw [byt_map]; exact repss_ones
end
end Go.Proofs.Ytpgffckfbgfgcaa.A
/-
  Changes: rows of numbers as bytes, over the engine.
-/
set_option maxRecDepth 100000
namespace Go.Proofs.Ytpgffckfbgfgcaa
open Go.RowKit

/-- A row of numbers of eight bytes that is read. -/
abbrev intsD (v : Value) (xs : List Int) : Dt := rowD v xs.length (xs.map fun x => Value.int .i64 x)
def long8 (xs : List Int) : List UInt8 := xs.flatMap fun x => beBytes (u64 x) 8
theorem long8_length (xs : List Int) : (long8 xs).length = xs.length * 8 := by
  unfold long8
  induction xs with
  | nil => rfl
  | cons x xs ih => rw [List.flatMap_cons, List.length_append, ih, beBytes_length, List.length_cons]; omega
theorem long8_snoc {xs : List Int} {k : Nat} (h : k < xs.length) : long8 (xs.take (k + 1)) = long8 (xs.take k) ++ beBytes (u64 xs[k]) 8 := by
  unfold long8
  rw [List.take_succ_eq_append_getElem h, List.flatMap_append]
  simp
section
variable {S : List (World × List Nat)} {σ τ : Blks} {ρ : List Dt} {w : World}
set_option maxHeartbeats 1000000 in
theorem long_c {v u : Value} {l : List UInt8} {xs : List Int} (hw : Mem S σ ρ w) (hb : bytesD v l ∈ ρ) (hx : intsD u xs ∈ ρ) (hl : l.length + xs.length * 8 ≤ lots) : Calls Try.prog 177 #[v, u] w fun e w' => ∃ r, e = .returned r ∧ Mem S σ (bytesD r (l ++ long8 xs) :: ρ) w' := by
  have hL : lots = 100000000000 := rfl
  obtain ⟨A, c, rfl, hs1, hs2, hs3⟩ := (hw.data hx).shape
  have hA : xs ≠ [] → ∃ b off, A = some ⟨b, off, none⟩ := fun h => row_at (hw.data hx) (by cases xs with | nil => exact absurd rfl h | cons e es => simp)
  refine calls_of [v, .slice A xs.length c] Try.func177 rfl Try.ntmps177 rfl (Mem S σ ρ) hw ?_
  refine SC.seq (SC.region ?_)
  refine SL.val (Val.assign rfl) rfl rfl ?_
  refine SL.nil (SE.seq ?_)
  refine SC.seq ?_
  refine SC.seq (SC.region ?_)
  refine SL.val (Val.move rfl) rfl rfl ?_
  refine SL.val (Val.lenSl rfl Try.underlying105) rfl rfl ?_
  refine SL.val (Val.move rfl) rfl rfl ?_
  refine SL.nil (SE.seq ?_)
  refine SC.block ?_
  refine SC.loop (ι := Nat × Value) (fun z => [(0, z.2), (7, .slice A xs.length c), (8, .int .i64 (xs.length : Nat)), (9, .int .i64 (z.1 : Nat))]) (fun z w' => z.1 ≤ xs.length ∧ Mem S σ (bytesD z.2 (l ++ long8 (xs.take z.1)) :: ρ) w') (fun z => xs.length - z.1) (0, v) (by exact ⟨rfl, rfl, rfl, rfl, trivial⟩) (fun w' hw' => ⟨Nat.zero_le _, hw'.less (by intro x hx; simp only [List.take_zero, long8, List.flatMap_nil, List.append_nil] at hx; rcases List.mem_cons.1 hx with rfl | hx <;> simp [*])⟩) ?_
  intro z
  refine SC.facts ?_
  intro hz
  refine SC.seq (SC.region ?_)
  refine SL.val (Val.ltI rfl rfl) rfl rfl ?_
  refine SL.nil (SE.seq ?_)
  refine SC.seq ?_
  refine SC.condP rfl ?_ ?_
  rotate_left
  · intro hc10
    refine SC.exit ?_
    refine SE.then_ (by intro h; cases h) ?_
    refine SE.then_ (by intro h; cases h) ?_
    refine SE.exit ?_
    refine SE.seq ?_
    refine SC.seq (SC.region ?_)
    refine SL.val (Val.move rfl) rfl rfl ?_
    refine SL.val (Val.assign rfl) rfl rfl ?_
    refine SL.nil (SE.seq ?_)
    refine SC.ret ?_
    refine SE.ret1 rfl rfl ?_
    intro w' hw'
    rw [List.take_of_length_le (by omega)] at hw'
    exact ⟨_, rfl, hw'⟩
  intro hc10
  have hlt : z.1 < xs.length := by omega
  obtain ⟨bb, off, rfl⟩ := hA (by intro h0; rw [h0] at hlt; simp at hlt)
  refine SC.skip ?_
  refine SE.seq ?_
  refine SC.seq ?_
  refine SC.block ?_
  refine SC.seq (SC.region ?_)
  first
    | refine SL.val (Val.indexSlN tabOk Try.underlying105 rfl rfl rfl (by omega)) rfl rfl ?_
    | refine SL.val (Val.indexSl tabOk Try.underlying105 rfl rfl rfl (by omega)) rfl rfl ?_
  refine SL.val (Val.load1D (u := .int .i64 (xs[z.1]'hlt)) (j := z.1 * 1) tabOk rfl rfl (by repeat (first | assumption | exact List.mem_cons_self | exact hmem _ | apply List.mem_cons_of_mem)) (by simp [hlt])) rfl rfl ?_
  refine SL.val (Val.assign rfl) rfl rfl ?_
  refine SL.nil (SE.seq ?_)
  refine SC.region ?_
  refine SL.val (Val.move rfl) rfl rfl ?_
  refine SL.val (Val.move rfl) rfl rfl ?_
  refine SL.val (Val.convU rfl Try.underlying166 (by kernel_rfl)) rfl rfl ?_
  refine SL.call (by kernel_rfl) rfl rfl rfl ?_
  intro w hw
  refine (put_c (l := l ++ long8 (xs.take z.1)) (x := u64 (xs[z.1]'hlt)) (n := 8) hw (hw.bytes (by repeat (first | assumption | exact List.mem_cons_self | exact hmem _ | apply List.mem_cons_of_mem))) (by rw [List.length_append, long8_length, List.length_take]; omega) (u64_lt _) rfl).mono ?_; rintro _ _ ⟨r, rfl, hm⟩; refine ⟨_, _, rfl, hm, ?_⟩; clear hm hw w
  refine SL.val (Val.assign rfl) rfl rfl ?_
  refine SL.nil ?_
  refine SE.inBlock ?_
  refine SE.seq ?_
  refine SC.region ?_
  first
    | refine SL.val (Val.addI rfl rfl (by simp only [InR, lo, hi]; omega)) rfl rfl ?_
    | refine SL.val (Val.addW rfl rfl) rfl rfl ?_
  refine SL.val (Val.move rfl) rfl rfl ?_
  refine SL.nil ?_
  refine SE.round (z.1 + 1, r) (by show xs.length - (z.1 + 1) < xs.length - z.1; omega) (by exact ⟨rfl, rfl, rfl, rfl, trivial⟩) (fun w' hw' => ⟨hlt, ?_⟩)
  show Mem S σ (bytesD r (l ++ long8 (xs.take (z.1 + 1))) :: ρ) w'
  rw [long8_snoc hlt, ← List.append_assoc]
  exact hw'.less (fun x hx => by rcases List.mem_cons.1 hx with rfl | hx <;> simp [*])
end
end Go.Proofs.Ytpgffckfbgfgcaa
/-
  Changes: rows of numbers as bytes, the result as a piece of its own.
-/
set_option maxRecDepth 100000
set_option linter.unusedSimpArgs false
namespace Go.Proofs.Ytpgffckfbgfgcaa
open Go.RowKit

/-- Bytes in a block of their own, as a piece. -/
abbrev ownB (v : Value) (l : List UInt8) : It := .pc (ownPc 5 1 v l.length (l.map bc))
/-- The pieces behind k numbers. -/
def accS (σ : Blks) (l : List UInt8) (xs : List Int) (z : Nat × Value) : Blks := if z.1 = 0 then σ else ownB z.2 (l ++ long8 (xs.take z.1)) :: σ
section
variable {S : List (World × List Nat)} {σ τ : Blks} {ρ : List Dt} {w : World} {v : Value} {l : List UInt8} {xs : List Int}
theorem acc_bytes {z : Nat × Value} (hz : z.1 = 0 → z.2 = v) (hb : bytesD v l ∈ ρ) (hw : Mem S (accS σ l xs z) ρ w) : BytesV w z.2 (l ++ long8 (xs.take z.1)) := by
  by_cases h0 : z.1 = 0
  · rw [h0, hz h0]
    simpa [long8] using hw.bytes hb
  · unfold accS at hw
    rw [if_neg h0] at hw
    exact isRow_bytes (hw.ownRow (e := 5) (size := 1) List.mem_cons_self)
theorem acc_drop {z : Nat × Value} {x : It} (hw : Mem S (x :: accS σ l xs z) ρ w) : Mem S (x :: σ) ρ w := by
  unfold accS at hw
  split at hw
  · exact hw
  · exact hw.sub (fun _ h => h) (List.Sublist.cons_cons _ (List.sublist_cons_self _ _))
set_option maxHeartbeats 1000000 in
theorem long_own {u : Value} (hw : Mem S σ ρ w) (hb : bytesD v l ∈ ρ) (hx : intsD u xs ∈ ρ) (hl : l.length + xs.length * 8 ≤ lots) (hn : xs ≠ []) : Calls Try.prog 177 #[v, u] w fun e w' => ∃ r, e = .returned r ∧ Mem S (ownB r (l ++ long8 xs) :: σ) ρ w' := by
  have hL : lots = 100000000000 := rfl
  obtain ⟨A, c, rfl, hs1, hs2, hs3⟩ := (hw.data hx).shape
  have hA : xs ≠ [] → ∃ b off, A = some ⟨b, off, none⟩ := fun h => row_at (hw.data hx) (by cases xs with | nil => exact absurd rfl h | cons e es => simp)
  have hpos : 0 < xs.length := List.length_pos_iff.2 hn
  refine calls_of [v, .slice A xs.length c] Try.func177 rfl Try.ntmps177 rfl (Mem S σ ρ) hw ?_
  refine SC.seq (SC.region ?_)
  refine SL.val (Val.assign rfl) rfl rfl ?_
  refine SL.nil (SE.seq ?_)
  refine SC.seq ?_
  refine SC.seq (SC.region ?_)
  refine SL.val (Val.move rfl) rfl rfl ?_
  refine SL.val (Val.lenSl rfl Try.underlying105) rfl rfl ?_
  refine SL.val (Val.move rfl) rfl rfl ?_
  refine SL.nil (SE.seq ?_)
  refine SC.block ?_
  refine SC.loop (ι := Nat × Value) (fun z => [(0, z.2), (7, .slice A xs.length c), (8, .int .i64 (xs.length : Nat)), (9, .int .i64 (z.1 : Nat))]) (fun z w' => (z.1 ≤ xs.length ∧ (z.1 = 0 → z.2 = v)) ∧ Mem S (accS σ l xs z) ρ w') (fun z => xs.length - z.1) (0, v) (by exact ⟨rfl, rfl, rfl, rfl, trivial⟩) (fun w' hw' => ⟨⟨Nat.zero_le _, fun _ => rfl⟩, hw'⟩) ?_
  intro z
  refine SC.facts ?_
  rintro ⟨hz, hz1⟩
  refine SC.seq (SC.region ?_)
  refine SL.val (Val.ltI rfl rfl) rfl rfl ?_
  refine SL.nil (SE.seq ?_)
  refine SC.seq ?_
  refine SC.condP rfl ?_ ?_
  rotate_left
  · intro hc10
    refine SC.exit ?_
    refine SE.then_ (by intro h; cases h) ?_
    refine SE.then_ (by intro h; cases h) ?_
    refine SE.exit ?_
    refine SE.seq ?_
    refine SC.seq (SC.region ?_)
    refine SL.val (Val.move rfl) rfl rfl ?_
    refine SL.val (Val.assign rfl) rfl rfl ?_
    refine SL.nil (SE.seq ?_)
    refine SC.ret ?_
    refine SE.ret1 rfl rfl ?_
    intro w' hw'
    unfold accS at hw'
    rw [if_neg (by omega), List.take_of_length_le (by omega)] at hw'
    exact ⟨_, rfl, hw'⟩
  intro hc10
  have hlt : z.1 < xs.length := by omega
  obtain ⟨bb, off, rfl⟩ := hA (by intro h0; rw [h0] at hlt; simp at hlt)
  refine SC.skip ?_
  refine SE.seq ?_
  refine SC.seq ?_
  refine SC.block ?_
  refine SC.seq (SC.region ?_)
  first
    | refine SL.val (Val.indexSlN tabOk Try.underlying105 rfl rfl rfl (by omega)) rfl rfl ?_
    | refine SL.val (Val.indexSl tabOk Try.underlying105 rfl rfl rfl (by omega)) rfl rfl ?_
  refine SL.val (Val.load1D (u := .int .i64 (xs[z.1]'hlt)) (j := z.1 * 1) tabOk rfl rfl (by repeat (first | assumption | exact List.mem_cons_self | exact hmem _ | apply List.mem_cons_of_mem)) (by simp [hlt])) rfl rfl ?_
  refine SL.val (Val.assign rfl) rfl rfl ?_
  refine SL.nil (SE.seq ?_)
  refine SC.region ?_
  refine SL.val (Val.move rfl) rfl rfl ?_
  refine SL.val (Val.move rfl) rfl rfl ?_
  refine SL.val (Val.convU rfl Try.underlying166 (by kernel_rfl)) rfl rfl ?_
  refine SL.call (by kernel_rfl) rfl rfl rfl ?_
  intro w hw
  refine (put_own (l := l ++ long8 (xs.take z.1)) (x := u64 (xs[z.1]'hlt)) (n := 8) hw (acc_bytes hz1 hb hw) (by rw [List.length_append, long8_length, List.length_take]; omega) (u64_lt _) rfl).mono ?_; rintro _ _ ⟨r, rfl, hm⟩; refine ⟨_, _, rfl, hm, ?_⟩; clear hm hw w
  refine SL.val (Val.assign rfl) rfl rfl ?_
  refine SL.nil ?_
  refine SE.inBlock ?_
  refine SE.seq ?_
  refine SC.region ?_
  first
    | refine SL.val (Val.addI rfl rfl (by simp only [InR, lo, hi]; omega)) rfl rfl ?_
    | refine SL.val (Val.addW rfl rfl) rfl rfl ?_
  refine SL.val (Val.move rfl) rfl rfl ?_
  refine SL.nil ?_
  refine SE.round (z.1 + 1, r) (by show xs.length - (z.1 + 1) < xs.length - z.1; omega) (by exact ⟨rfl, rfl, rfl, rfl, trivial⟩) (fun w' hw' => ⟨⟨hlt, fun h => absurd h (by simp)⟩, ?_⟩)
  show Mem S (accS σ l xs (z.1 + 1, r)) ρ w'
  unfold accS
  rw [if_neg (by simp)]
  show Mem S (ownB r (l ++ long8 (xs.take (z.1 + 1))) :: σ) ρ w'
  rw [long8_snoc hlt, ← List.append_assoc]
  exact acc_drop hw'
end
end Go.Proofs.Ytpgffckfbgfgcaa
