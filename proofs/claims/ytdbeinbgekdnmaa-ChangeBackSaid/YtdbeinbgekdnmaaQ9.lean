/-
  Packed out of the texts: C4.
-/
import Derived.Test.YtdbeinbgekdnmaaQ8
/-
  Changes: Check, and the document's.
-/
set_option maxRecDepth 100000
set_option linter.unusedSimpArgs false
set_option linter.unusedVariables false
namespace Go.Proofs.Ytdbeinbgekdnmaa.A
open Go.RowKit

theorem putL_all {L ys : List Abs} (h : ys.length = L.length) : putL L 0 ys = ys := by
  simp [putL, h]
theorem rises_at {α : Type} {p : α → α → Bool} {xs : List α} (h : Rises p xs) {z : Nat} (h0 : 0 < z) (hlt : z < xs.length) : p (xs[z - 1]'(by omega)) xs[z] = true := by
  have := h (z - 1) (by omega)
  simpa [show z - 1 + 1 = z by omega] using this
def Lets (ps : List Prf) : Prop := ∀ p ∈ ps, ∀ e ∈ p.batch, e.core.letter.size ≤ lots
section
variable {c : Chg} {p q : Prf} {ps : List Prf} {n low most : Int}
theorem check_s (h1 : Long c.prepared) (h2 : Long c.proposed) (h3 : c.points.length < 9223372036854775807) : Spec Try.prog 60 [.agg c.abs, int n] [] (fun _ : Unit => []) (fun _ => int (c.check n)) := by
  refine spec_of Try.func60 rfl Try.ntmps60 rfl fun G w => ?_
  refine SC.seq ?_
  refine SC.region ?_
  refine SL.eff (Eff.boxA rfl) rfl rfl ?_
  rintro _ _ ⟨b2, rfl, rfl⟩
  refine SL.val (Val.assign rfl) rfl rfl ?_
  refine SL.nil ?_
  refine SE.seq ?_
  refine SC.seq ?_
  refine SC.block ?_
  refine SC.seq ?_
  refine SC.region ?_
  refine SL.val (Val.move rfl) rfl rfl ?_
  refine SL.val (Val.ltI rfl rfl) rfl rfl ?_
  refine SL.val (Val.move rfl) rfl rfl ?_
  refine SL.bothP (t := 8) rfl ?_ ?_
  · intro hc8
    refine SL.skip rfl rfl ?_
    refine SL.skip rfl rfl ?_
    refine SL.val (Val.pickT rfl rfl) rfl rfl ?_
    refine SL.val (Val.assign rfl) rfl rfl ?_
    refine SL.nil ?_
    refine SE.seq ?_
    refine SC.condT rfl ?_
    refine SC.seq ?_
    refine SC.region ?_
    refine SL.val (Val.assign rfl) rfl rfl ?_
    refine SL.nil ?_
    refine SE.seq ?_
    refine SC.ret ?_
    refine SE.ret ?_
    refine SE.then_ (by intro h; cases h) ?_
    refine SE.fin (rs := [.tmp 4]) rfl (RV.tmp rfl RV.nil) (()) (by repeat (first | exact List.nil_sublist _ | exact List.Sublist.refl _ | apply List.Sublist.cons_cons | apply List.Sublist.cons)) (by simp [It.rids]) ?_
    refine congrArg int ?_
    unfold Chg.check
    first
      | (rw [if_pos (by omega)])
      | (rw [if_neg (by omega), show yes (c.Right n) = true from yes_iff.2 (by unfold Chg.Right; simp_all [yes_iff]; try omega)]; rfl)
      | (rw [if_neg (by omega), show yes (c.Right n) = false from no_iff.2 (by
          rintro ⟨h1, h2, h3, h4, h5, h6⟩
          have e3 := decide_eq_true h3
          have e4 := yes_iff.2 h4
          have e5 := yes_iff.2 h5
          have e6 := yes_iff.2 h6
          first | omega | simp_all)]; rfl)
  · intro hc8
    refine SL.val (Val.move rfl) rfl rfl ?_
    refine SL.val (Val.gtI rfl rfl) rfl rfl ?_
    refine SL.val (Val.pickF rfl rfl) rfl rfl ?_
    refine SL.val (Val.assign rfl) rfl rfl ?_
    refine SL.nil ?_
    refine SE.seq ?_
    refine SC.condP rfl ?_ ?_
    · intro hc5
      refine SC.seq ?_
      refine SC.region ?_
      refine SL.val (Val.assign rfl) rfl rfl ?_
      refine SL.nil ?_
      refine SE.seq ?_
      refine SC.ret ?_
      refine SE.ret ?_
      refine SE.then_ (by intro h; cases h) ?_
      refine SE.fin (rs := [.tmp 4]) rfl (RV.tmp rfl RV.nil) (()) (by repeat (first | exact List.nil_sublist _ | exact List.Sublist.refl _ | apply List.Sublist.cons_cons | apply List.Sublist.cons)) (by simp [It.rids]) ?_
      refine congrArg int ?_
      unfold Chg.check
      first
        | (rw [if_pos (by omega)])
        | (rw [if_neg (by omega), show yes (c.Right n) = true from yes_iff.2 (by unfold Chg.Right; simp_all [yes_iff]; try omega)]; rfl)
        | (rw [if_neg (by omega), show yes (c.Right n) = false from no_iff.2 (by
            rintro ⟨h1, h2, h3, h4, h5, h6⟩
            have e3 := decide_eq_true h3
            have e4 := yes_iff.2 h4
            have e5 := yes_iff.2 h5
            have e6 := yes_iff.2 h6
            first | omega | simp_all)]; rfl)
    · intro hc5
      refine SC.seq ?_
      refine SC.region ?_
      refine SL.val (Val.fieldAddr tabOk rfl rfl rfl rfl rfl) rfl rfl ?_
      refine SL.val (Val.load1 tabOk rfl rfl (by first | (apply Or.inl; (repeat (first | assumption | exact List.mem_cons_self | apply List.mem_cons_of_mem)); done) | (apply Or.inr; (repeat (first | assumption | exact List.mem_cons_self | apply List.mem_cons_of_mem)); done)) List.not_mem_nil (by rfl)) rfl rfl ?_
      refine SL.val (Val.ltI rfl rfl) rfl rfl ?_
      refine SL.val (Val.move rfl) rfl rfl ?_
      refine SL.bothP (t := 16) rfl ?_ ?_
      · intro hc16
        refine SL.skip rfl rfl ?_
        refine SL.skip rfl rfl ?_
        refine SL.skip rfl rfl ?_
        refine SL.val (Val.pickT rfl rfl) rfl rfl ?_
        refine SL.val (Val.move rfl) rfl rfl ?_
        refine SL.skip rfl rfl ?_
        refine SL.skip rfl rfl ?_
        refine SL.skip rfl rfl ?_
        refine SL.skip rfl rfl ?_
        refine SL.val (Val.pickT rfl rfl) rfl rfl ?_
        refine SL.val (Val.move rfl) rfl rfl ?_
        refine SL.skip rfl rfl ?_
        refine SL.skip rfl rfl ?_
        refine SL.skip rfl rfl ?_
        refine SL.skip rfl rfl ?_
        refine SL.skip rfl rfl ?_
        refine SL.skip rfl rfl ?_
        refine SL.val (Val.pickT rfl rfl) rfl rfl ?_
        refine SL.val (Val.assign rfl) rfl rfl ?_
        refine SL.nil ?_
        refine SE.seq ?_
        refine SC.condT rfl ?_
        refine SC.seq ?_
        refine SC.region ?_
        refine SL.val (Val.assign rfl) rfl rfl ?_
        refine SL.nil ?_
        refine SE.seq ?_
        refine SC.ret ?_
        refine SE.ret ?_
        refine SE.then_ (by intro h; cases h) ?_
        refine SE.fin (rs := [.tmp 4]) rfl (RV.tmp rfl RV.nil) (()) (by repeat (first | exact List.nil_sublist _ | exact List.Sublist.refl _ | apply List.Sublist.cons_cons | apply List.Sublist.cons)) (by simp [It.rids]) ?_
        refine congrArg int ?_
        unfold Chg.check
        first
          | (rw [if_pos (by omega)])
          | (rw [if_neg (by omega), show yes (c.Right n) = true from yes_iff.2 (by unfold Chg.Right; simp_all [yes_iff]; try omega)]; rfl)
          | (rw [if_neg (by omega), show yes (c.Right n) = false from no_iff.2 (by
              rintro ⟨h1, h2, h3, h4, h5, h6⟩
              have e3 := decide_eq_true h3
              have e4 := yes_iff.2 h4
              have e5 := yes_iff.2 h5
              have e6 := yes_iff.2 h6
              first | omega | simp_all)]; rfl)
      · intro hc16
        refine SL.val (Val.fieldAddr tabOk rfl rfl rfl rfl rfl) rfl rfl ?_
        refine SL.val (Val.load1 tabOk rfl rfl (by first | (apply Or.inl; (repeat (first | assumption | exact List.mem_cons_self | apply List.mem_cons_of_mem)); done) | (apply Or.inr; (repeat (first | assumption | exact List.mem_cons_self | apply List.mem_cons_of_mem)); done)) List.not_mem_nil (by rfl)) rfl rfl ?_
        refine SL.val (Val.gtI rfl rfl) rfl rfl ?_
        refine SL.val (Val.pickF rfl rfl) rfl rfl ?_
        refine SL.val (Val.move rfl) rfl rfl ?_
        refine SL.bothP (t := 21) rfl ?_ ?_
        · intro hc21
          refine SL.skip rfl rfl ?_
          refine SL.skip rfl rfl ?_
          refine SL.skip rfl rfl ?_
          refine SL.skip rfl rfl ?_
          refine SL.val (Val.pickT rfl rfl) rfl rfl ?_
          refine SL.val (Val.move rfl) rfl rfl ?_
          refine SL.skip rfl rfl ?_
          refine SL.skip rfl rfl ?_
          refine SL.skip rfl rfl ?_
          refine SL.skip rfl rfl ?_
          refine SL.skip rfl rfl ?_
          refine SL.skip rfl rfl ?_
          refine SL.val (Val.pickT rfl rfl) rfl rfl ?_
          refine SL.val (Val.assign rfl) rfl rfl ?_
          refine SL.nil ?_
          refine SE.seq ?_
          refine SC.condT rfl ?_
          refine SC.seq ?_
          refine SC.region ?_
          refine SL.val (Val.assign rfl) rfl rfl ?_
          refine SL.nil ?_
          refine SE.seq ?_
          refine SC.ret ?_
          refine SE.ret ?_
          refine SE.then_ (by intro h; cases h) ?_
          refine SE.fin (rs := [.tmp 4]) rfl (RV.tmp rfl RV.nil) (()) (by repeat (first | exact List.nil_sublist _ | exact List.Sublist.refl _ | apply List.Sublist.cons_cons | apply List.Sublist.cons)) (by simp [It.rids]) ?_
          refine congrArg int ?_
          unfold Chg.check
          first
            | (rw [if_pos (by omega)])
            | (rw [if_neg (by omega), show yes (c.Right n) = true from yes_iff.2 (by unfold Chg.Right; simp_all [yes_iff]; try omega)]; rfl)
            | (rw [if_neg (by omega), show yes (c.Right n) = false from no_iff.2 (by
                rintro ⟨h1, h2, h3, h4, h5, h6⟩
                have e3 := decide_eq_true h3
                have e4 := yes_iff.2 h4
                have e5 := yes_iff.2 h5
                have e6 := yes_iff.2 h6
                first | omega | simp_all)]; rfl)
        · intro hc21
          refine SL.val (Val.fieldAddr tabOk rfl rfl rfl rfl rfl) rfl rfl ?_
          refine SL.val (Val.load1 tabOk rfl rfl (by first | (apply Or.inl; (repeat (first | assumption | exact List.mem_cons_self | apply List.mem_cons_of_mem)); done) | (apply Or.inr; (repeat (first | assumption | exact List.mem_cons_self | apply List.mem_cons_of_mem)); done)) List.not_mem_nil (by rfl)) rfl rfl ?_
          refine SL.call (mark_s (x := c.low)) Casts.refl (by kernel_rfl) rfl rfl rfl ?_
          refine After.pure (by repeat (first | exact Reads.nil | refine Reads.blk (by repeat (first | assumption | exact List.mem_cons_self | apply List.mem_cons_of_mem)) ?_ | refine Reads.rd (by repeat (first | assumption | exact List.mem_cons_self | apply List.mem_cons_of_mem)) ?_ | refine Reads.pc (by repeat (first | assumption | exact List.mem_cons_self | apply List.mem_cons_of_mem)) ?_ | refine Reads.rdpc (by repeat (first | assumption | exact List.mem_cons_self | apply List.mem_cons_of_mem)) ?_)) (fun _ => rfl) ?_
          intro _
          refine SL.val (Val.notP rfl) rfl rfl ?_
          refine SL.val (Val.pickF rfl rfl) rfl rfl ?_
          refine SL.val (Val.move rfl) rfl rfl ?_
          refine SL.bothP (t := 27) rfl ?_ ?_
          · intro hc27
            refine SL.skip rfl rfl ?_
            refine SL.skip rfl rfl ?_
            refine SL.skip rfl rfl ?_
            refine SL.skip rfl rfl ?_
            refine SL.skip rfl rfl ?_
            refine SL.skip rfl rfl ?_
            refine SL.val (Val.pickT rfl rfl) rfl rfl ?_
            refine SL.val (Val.assign rfl) rfl rfl ?_
            refine SL.nil ?_
            refine SE.seq ?_
            refine SC.condT rfl ?_
            refine SC.seq ?_
            refine SC.region ?_
            refine SL.val (Val.assign rfl) rfl rfl ?_
            refine SL.nil ?_
            refine SE.seq ?_
            refine SC.ret ?_
            refine SE.ret ?_
            refine SE.then_ (by intro h; cases h) ?_
            refine SE.fin (rs := [.tmp 4]) rfl (RV.tmp rfl RV.nil) (()) (by repeat (first | exact List.nil_sublist _ | exact List.Sublist.refl _ | apply List.Sublist.cons_cons | apply List.Sublist.cons)) (by simp [It.rids]) ?_
            refine congrArg int ?_
            unfold Chg.check
            first
              | (rw [if_pos (by omega)])
              | (rw [if_neg (by omega), show yes (c.Right n) = true from yes_iff.2 (by unfold Chg.Right; simp_all [yes_iff]; try omega)]; rfl)
              | (rw [if_neg (by omega), show yes (c.Right n) = false from no_iff.2 (by
                  rintro ⟨h1, h2, h3, h4, h5, h6⟩
                  have e3 := decide_eq_true h3
                  have e4 := yes_iff.2 h4
                  have e5 := yes_iff.2 h5
                  have e6 := yes_iff.2 h6
                  first | omega | simp_all)]; rfl)
          · intro hc27
            refine SL.val (Val.fieldAddr tabOk rfl rfl rfl rfl rfl) rfl rfl ?_
            refine SL.val (Val.load1 tabOk rfl rfl (by first | (apply Or.inl; (repeat (first | assumption | exact List.mem_cons_self | apply List.mem_cons_of_mem)); done) | (apply Or.inr; (repeat (first | assumption | exact List.mem_cons_self | apply List.mem_cons_of_mem)); done)) List.not_mem_nil (by rfl)) rfl rfl ?_
            refine SL.val (Val.fieldAddr tabOk rfl rfl rfl rfl rfl) rfl rfl ?_
            refine SL.val (Val.load1 tabOk rfl rfl (by first | (apply Or.inl; (repeat (first | assumption | exact List.mem_cons_self | apply List.mem_cons_of_mem)); done) | (apply Or.inr; (repeat (first | assumption | exact List.mem_cons_self | apply List.mem_cons_of_mem)); done)) List.not_mem_nil (by rfl)) rfl rfl ?_
            refine SL.call (points_s (low := c.low) h3) Casts.refl (by kernel_rfl) rfl rfl rfl ?_
            refine After.pure (by repeat (first | exact Reads.nil | refine Reads.blk (by repeat (first | assumption | exact List.mem_cons_self | apply List.mem_cons_of_mem)) ?_ | refine Reads.rd (by repeat (first | assumption | exact List.mem_cons_self | apply List.mem_cons_of_mem)) ?_ | refine Reads.pc (by repeat (first | assumption | exact List.mem_cons_self | apply List.mem_cons_of_mem)) ?_ | refine Reads.rdpc (by repeat (first | assumption | exact List.mem_cons_self | apply List.mem_cons_of_mem)) ?_)) (fun _ => rfl) ?_
            intro _
            refine SL.val (Val.notB rfl) rfl rfl ?_
            refine SL.val (Val.pickF rfl rfl) rfl rfl ?_
            refine SL.val (Val.assign rfl) rfl rfl ?_
            refine SL.nil ?_
            refine SE.seq ?_
            refine SC.cond rfl ?_ ?_
            · intro hc12
              refine SC.seq ?_
              refine SC.region ?_
              refine SL.val (Val.assign rfl) rfl rfl ?_
              refine SL.nil ?_
              refine SE.seq ?_
              refine SC.ret ?_
              refine SE.ret ?_
              refine SE.then_ (by intro h; cases h) ?_
              refine SE.fin (rs := [.tmp 4]) rfl (RV.tmp rfl RV.nil) (()) (by repeat (first | exact List.nil_sublist _ | exact List.Sublist.refl _ | apply List.Sublist.cons_cons | apply List.Sublist.cons)) (by simp [It.rids]) ?_
              refine congrArg int ?_
              unfold Chg.check
              first
                | (rw [if_pos (by omega)])
                | (rw [if_neg (by omega), show yes (c.Right n) = true from yes_iff.2 (by unfold Chg.Right; simp_all [yes_iff]; try omega)]; rfl)
                | (rw [if_neg (by omega), show yes (c.Right n) = false from no_iff.2 (by
                    rintro ⟨h1, h2, h3, h4, h5, h6⟩
                    have e3 := decide_eq_true h3
                    have e4 := yes_iff.2 h4
                    have e5 := yes_iff.2 h5
                    have e6 := yes_iff.2 h6
                    first | omega | simp_all)]; rfl)
            · intro hc12
              refine SC.seq ?_
              refine SC.region ?_
              refine SL.val (Val.fieldAddr tabOk rfl rfl rfl rfl rfl) rfl rfl ?_
              refine SL.val (Val.load1 tabOk rfl rfl (by first | (apply Or.inl; (repeat (first | assumption | exact List.mem_cons_self | apply List.mem_cons_of_mem)); done) | (apply Or.inr; (repeat (first | assumption | exact List.mem_cons_self | apply List.mem_cons_of_mem)); done)) List.not_mem_nil (by rfl)) rfl rfl ?_
              first
                | refine SL.val (Val.loadA tabOk rfl rfl rfl (by first | (apply Or.inl; (repeat (first | assumption | exact List.mem_cons_self | apply List.mem_cons_of_mem)); done) | (apply Or.inr; (repeat (first | assumption | exact List.mem_cons_self | apply List.mem_cons_of_mem)); done)) List.not_mem_nil (by rfl)) rfl rfl ?_
                | refine SL.val (Val.loadP tabOk rfl rfl rfl (by first | (apply Or.inl; (repeat (first | assumption | exact List.mem_cons_self | apply List.mem_cons_of_mem)); done) | (apply Or.inr; (repeat (first | assumption | exact List.mem_cons_self | apply List.mem_cons_of_mem)); done)) List.not_mem_nil (Nat.le_of_ble_eq_true (by rfl))) rfl rfl ?_
              refine SL.val (Val.move rfl) rfl rfl ?_
              refine SL.call (proofsA_s (most := 8) (n := n) h1 (by simp_all)) Casts.refl (by kernel_rfl) rfl rfl rfl ?_
              refine After.pure (by repeat (first | exact Reads.nil | refine Reads.blk (by repeat (first | assumption | exact List.mem_cons_self | apply List.mem_cons_of_mem)) ?_ | refine Reads.rd (by repeat (first | assumption | exact List.mem_cons_self | apply List.mem_cons_of_mem)) ?_ | refine Reads.pc (by repeat (first | assumption | exact List.mem_cons_self | apply List.mem_cons_of_mem)) ?_ | refine Reads.rdpc (by repeat (first | assumption | exact List.mem_cons_self | apply List.mem_cons_of_mem)) ?_)) (fun _ => rfl) ?_
              intro _
              refine SL.val (Val.notB rfl) rfl rfl ?_
              refine SL.val (Val.move rfl) rfl rfl ?_
              refine SL.both (t := 42) rfl ?_ ?_
              · intro hc42
                refine SL.skip rfl rfl ?_
                refine SL.skip rfl rfl ?_
                refine SL.skip rfl rfl ?_
                refine SL.skip rfl rfl ?_
                refine SL.skip rfl rfl ?_
                refine SL.skip rfl rfl ?_
                refine SL.val (Val.pickT rfl rfl) rfl rfl ?_
                refine SL.val (Val.assign rfl) rfl rfl ?_
                refine SL.nil ?_
                refine SE.seq ?_
                refine SC.condT rfl ?_
                refine SC.seq ?_
                refine SC.region ?_
                refine SL.val (Val.assign rfl) rfl rfl ?_
                refine SL.nil ?_
                refine SE.seq ?_
                refine SC.ret ?_
                refine SE.ret ?_
                refine SE.then_ (by intro h; cases h) ?_
                refine SE.fin (rs := [.tmp 4]) rfl (RV.tmp rfl RV.nil) (()) (by repeat (first | exact List.nil_sublist _ | exact List.Sublist.refl _ | apply List.Sublist.cons_cons | apply List.Sublist.cons)) (by simp [It.rids]) ?_
                refine congrArg int ?_
                unfold Chg.check
                first
                  | (rw [if_pos (by omega)])
                  | (rw [if_neg (by omega), show yes (c.Right n) = true from yes_iff.2 (by unfold Chg.Right; simp_all [yes_iff]; try omega)]; rfl)
                  | (rw [if_neg (by omega), show yes (c.Right n) = false from no_iff.2 (by
                      rintro ⟨h1, h2, h3, h4, h5, h6⟩
                      have e3 := decide_eq_true h3
                      have e4 := yes_iff.2 h4
                      have e5 := yes_iff.2 h5
                      have e6 := yes_iff.2 h6
                      first | omega | simp_all)]; rfl)
              · intro hc42
                refine SL.val (Val.fieldAddr tabOk rfl rfl rfl rfl rfl) rfl rfl ?_
                refine SL.val (Val.load1 tabOk rfl rfl (by first | (apply Or.inl; (repeat (first | assumption | exact List.mem_cons_self | apply List.mem_cons_of_mem)); done) | (apply Or.inr; (repeat (first | assumption | exact List.mem_cons_self | apply List.mem_cons_of_mem)); done)) List.not_mem_nil (by rfl)) rfl rfl ?_
                first
                  | refine SL.val (Val.loadA tabOk rfl rfl rfl (by first | (apply Or.inl; (repeat (first | assumption | exact List.mem_cons_self | apply List.mem_cons_of_mem)); done) | (apply Or.inr; (repeat (first | assumption | exact List.mem_cons_self | apply List.mem_cons_of_mem)); done)) List.not_mem_nil (by rfl)) rfl rfl ?_
                  | refine SL.val (Val.loadP tabOk rfl rfl rfl (by first | (apply Or.inl; (repeat (first | assumption | exact List.mem_cons_self | apply List.mem_cons_of_mem)); done) | (apply Or.inr; (repeat (first | assumption | exact List.mem_cons_self | apply List.mem_cons_of_mem)); done)) List.not_mem_nil (Nat.le_of_ble_eq_true (by rfl))) rfl rfl ?_
                refine SL.val (Val.move rfl) rfl rfl ?_
                refine SL.call (proofsB_s (most := 64) (n := n) h2 (by simp_all)) Casts.refl (by kernel_rfl) rfl rfl rfl ?_
                refine After.pure (by repeat (first | exact Reads.nil | refine Reads.blk (by repeat (first | assumption | exact List.mem_cons_self | apply List.mem_cons_of_mem)) ?_ | refine Reads.rd (by repeat (first | assumption | exact List.mem_cons_self | apply List.mem_cons_of_mem)) ?_ | refine Reads.pc (by repeat (first | assumption | exact List.mem_cons_self | apply List.mem_cons_of_mem)) ?_ | refine Reads.rdpc (by repeat (first | assumption | exact List.mem_cons_self | apply List.mem_cons_of_mem)) ?_)) (fun _ => rfl) ?_
                intro _
                refine SL.val (Val.notB rfl) rfl rfl ?_
                refine SL.val (Val.pickF rfl rfl) rfl rfl ?_
                refine SL.val (Val.assign rfl) rfl rfl ?_
                refine SL.nil ?_
                refine SE.seq ?_
                refine SC.cond rfl ?_ ?_
                · intro hc35
                  refine SC.seq ?_
                  refine SC.region ?_
                  refine SL.val (Val.assign rfl) rfl rfl ?_
                  refine SL.nil ?_
                  refine SE.seq ?_
                  refine SC.ret ?_
                  refine SE.ret ?_
                  refine SE.then_ (by intro h; cases h) ?_
                  refine SE.fin (rs := [.tmp 4]) rfl (RV.tmp rfl RV.nil) (()) (by repeat (first | exact List.nil_sublist _ | exact List.Sublist.refl _ | apply List.Sublist.cons_cons | apply List.Sublist.cons)) (by simp [It.rids]) ?_
                  refine congrArg int ?_
                  unfold Chg.check
                  first
                    | (rw [if_pos (by omega)])
                    | (rw [if_neg (by omega), show yes (c.Right n) = true from yes_iff.2 (by unfold Chg.Right; simp_all [yes_iff]; try omega)]; rfl)
                    | (rw [if_neg (by omega), show yes (c.Right n) = false from no_iff.2 (by
                        rintro ⟨h1, h2, h3, h4, h5, h6⟩
                        have e3 := decide_eq_true h3
                        have e4 := yes_iff.2 h4
                        have e5 := yes_iff.2 h5
                        have e6 := yes_iff.2 h6
                        first | omega | simp_all)]; rfl)
                · intro hc35
                  refine SC.skip ?_
                  refine SE.inBlock ?_
                  refine SE.seq ?_
                  refine SC.seq ?_
                  refine SC.region ?_
                  refine SL.val (Val.assign rfl) rfl rfl ?_
                  refine SL.nil ?_
                  refine SE.seq ?_
                  refine SC.ret ?_
                  refine SE.fin (rs := [.tmp 4]) rfl (RV.tmp rfl RV.nil) (()) (by repeat (first | exact List.nil_sublist _ | exact List.Sublist.refl _ | apply List.Sublist.cons_cons | apply List.Sublist.cons)) (by simp [It.rids]) ?_
                  refine congrArg int ?_
                  unfold Chg.check
                  first
                    | (rw [if_pos (by omega)])
                    | (rw [if_neg (by omega), show yes (c.Right n) = true from yes_iff.2 (by unfold Chg.Right; simp_all [yes_iff]; try omega)]; rfl)
                    | (rw [if_neg (by omega), show yes (c.Right n) = false from no_iff.2 (by
                        rintro ⟨h1, h2, h3, h4, h5, h6⟩
                        have e3 := decide_eq_true h3
                        have e4 := yes_iff.2 h4
                        have e5 := yes_iff.2 h5
                        have e6 := yes_iff.2 h6
                        first | omega | simp_all)]; rfl)
theorem rproof_s (hl : p.batch.length ≤ 1000000) (hs : ∀ e ∈ p.batch, e.core.letter.size ≤ lots) (hm : isMark c.low) : Spec Try.prog 149 [.agg p.abs, .agg c.abs, int n] [] (fun _ : Unit => []) (fun _ => boo (yes (p.fits c.low c.view n))) := by
  unfold isMark isSeq at hm
  refine spec_of Try.func149 rfl Try.ntmps149 rfl fun G w => ?_
  refine SC.seq ?_
  refine SC.region ?_
  refine SL.eff (Eff.boxA rfl) rfl rfl ?_
  rintro _ _ ⟨b3, rfl, rfl⟩
  refine SL.eff (Eff.boxA rfl) rfl rfl ?_
  rintro _ _ ⟨b4, rfl, rfl⟩
  refine SL.val (Val.assign rfl) rfl rfl ?_
  refine SL.nil ?_
  refine SE.seq ?_
  refine SC.seq ?_
  refine SC.region ?_
  refine SL.val (Val.fieldAddr tabOk rfl rfl rfl rfl rfl) rfl rfl ?_
  refine SL.val (Val.load1 tabOk rfl rfl (by first | (apply Or.inl; (repeat (first | assumption | exact List.mem_cons_self | apply List.mem_cons_of_mem)); done) | (apply Or.inr; (repeat (first | assumption | exact List.mem_cons_self | apply List.mem_cons_of_mem)); done)) List.not_mem_nil (by rfl)) rfl rfl ?_
  refine SL.val (Val.fieldAddr tabOk rfl rfl rfl rfl rfl) rfl rfl ?_
  refine SL.val (Val.load1 tabOk rfl rfl (by first | (apply Or.inl; (repeat (first | assumption | exact List.mem_cons_self | apply List.mem_cons_of_mem)); done) | (apply Or.inr; (repeat (first | assumption | exact List.mem_cons_self | apply List.mem_cons_of_mem)); done)) List.not_mem_nil (by rfl)) rfl rfl ?_
  refine SL.val (Val.gtI rfl rfl) rfl rfl ?_
  refine SL.val (Val.move rfl) rfl rfl ?_
  refine SL.bothP (t := 12) rfl ?_ ?_
  · intro hc12
    refine SL.val (Val.fieldAddr tabOk rfl rfl rfl rfl rfl) rfl rfl ?_
    refine SL.val (Val.load1 tabOk rfl rfl (by first | (apply Or.inl; (repeat (first | assumption | exact List.mem_cons_self | apply List.mem_cons_of_mem)); done) | (apply Or.inr; (repeat (first | assumption | exact List.mem_cons_self | apply List.mem_cons_of_mem)); done)) List.not_mem_nil (by rfl)) rfl rfl ?_
    refine SL.val (Val.fieldAddr tabOk rfl rfl rfl rfl rfl) rfl rfl ?_
    refine SL.val (Val.load1 tabOk rfl rfl (by first | (apply Or.inl; (repeat (first | assumption | exact List.mem_cons_self | apply List.mem_cons_of_mem)); done) | (apply Or.inr; (repeat (first | assumption | exact List.mem_cons_self | apply List.mem_cons_of_mem)); done)) List.not_mem_nil (by rfl)) rfl rfl ?_
    first
      | refine SL.val (Val.addI rfl rfl (by simp only [InR, lo, hi]; omega)) rfl rfl ?_
      | refine SL.val (Val.addW rfl rfl) rfl rfl ?_
    refine SL.val (Val.leI rfl rfl) rfl rfl ?_
    refine SL.val (Val.pickT rfl rfl) rfl rfl ?_
    refine SL.val (Val.move rfl) rfl rfl ?_
    refine SL.bothP (t := 20) rfl ?_ ?_
    · intro hc20
      refine SL.val (Val.fieldAddr tabOk rfl rfl rfl rfl rfl) rfl rfl ?_
      refine SL.val (Val.load1 tabOk rfl rfl (by first | (apply Or.inl; (repeat (first | assumption | exact List.mem_cons_self | apply List.mem_cons_of_mem)); done) | (apply Or.inr; (repeat (first | assumption | exact List.mem_cons_self | apply List.mem_cons_of_mem)); done)) List.not_mem_nil (by rfl)) rfl rfl ?_
      refine SL.val (Val.geI rfl rfl) rfl rfl ?_
      refine SL.val (Val.pickT rfl rfl) rfl rfl ?_
      refine SL.val (Val.move rfl) rfl rfl ?_
      refine SL.bothP (t := 25) rfl ?_ ?_
      · intro hc25
        refine SL.val (Val.fieldAddr tabOk rfl rfl rfl rfl rfl) rfl rfl ?_
        refine SL.val (Val.load1 tabOk rfl rfl (by first | (apply Or.inl; (repeat (first | assumption | exact List.mem_cons_self | apply List.mem_cons_of_mem)); done) | (apply Or.inr; (repeat (first | assumption | exact List.mem_cons_self | apply List.mem_cons_of_mem)); done)) List.not_mem_nil (by rfl)) rfl rfl ?_
        refine SL.val (Val.fieldAddr tabOk rfl rfl rfl rfl rfl) rfl rfl ?_
        refine SL.val (Val.load1 tabOk rfl rfl (by first | (apply Or.inl; (repeat (first | assumption | exact List.mem_cons_self | apply List.mem_cons_of_mem)); done) | (apply Or.inr; (repeat (first | assumption | exact List.mem_cons_self | apply List.mem_cons_of_mem)); done)) List.not_mem_nil (by rfl)) rfl rfl ?_
        refine SL.val (Val.ltI rfl rfl) rfl rfl ?_
        refine SL.val (Val.pickT rfl rfl) rfl rfl ?_
        refine SL.val (Val.move rfl) rfl rfl ?_
        refine SL.bothP (t := 32) rfl ?_ ?_
        · intro hc32
          refine SL.val (Val.fieldAddr tabOk rfl rfl rfl rfl rfl) rfl rfl ?_
          refine SL.val (Val.load1 tabOk rfl rfl (by first | (apply Or.inl; (repeat (first | assumption | exact List.mem_cons_self | apply List.mem_cons_of_mem)); done) | (apply Or.inr; (repeat (first | assumption | exact List.mem_cons_self | apply List.mem_cons_of_mem)); done)) List.not_mem_nil (by rfl)) rfl rfl ?_
          refine SL.val (Val.move rfl) rfl rfl ?_
          refine SL.call (rbcheck_s (es := p.batch) (n := n) hl hs) Casts.refl (by kernel_rfl) rfl rfl rfl ?_
          refine After.pure (by repeat (first | exact Reads.nil | refine Reads.blk (by repeat (first | assumption | exact List.mem_cons_self | apply List.mem_cons_of_mem)) ?_ | refine Reads.rd (by repeat (first | assumption | exact List.mem_cons_self | apply List.mem_cons_of_mem)) ?_ | refine Reads.pc (by repeat (first | assumption | exact List.mem_cons_self | apply List.mem_cons_of_mem)) ?_ | refine Reads.rdpc (by repeat (first | assumption | exact List.mem_cons_self | apply List.mem_cons_of_mem)) ?_)) (fun _ => rfl) ?_
          intro _
          refine SL.val (Val.eqI rfl rfl) rfl rfl ?_
          refine SL.val (Val.pickT rfl rfl) rfl rfl ?_
          refine SL.val (Val.assign rfl) rfl rfl ?_
          refine SL.nil ?_
          refine SE.seq ?_
          refine SC.ret ?_
          refine SE.fin (rs := [.tmp 6]) rfl (RV.tmp rfl RV.nil) (()) (by repeat (first | exact List.nil_sublist _ | exact List.Sublist.refl _ | apply List.Sublist.cons_cons | apply List.Sublist.cons)) (by simp [It.rids]) ?_
          exact boo_yes (by unfold Prf.fits; first | exact ⟨fun h => (by cases h), fun h => by omega⟩ | (rw [decide_eq_true_iff]; omega))
        · intro hc32
          refine SL.skip rfl rfl ?_
          refine SL.skip rfl rfl ?_
          refine SL.skip rfl rfl ?_
          refine SL.skip rfl rfl ?_
          refine SL.skip rfl rfl ?_
          refine SL.val (Val.pickF rfl rfl) rfl rfl ?_
          refine SL.val (Val.assign rfl) rfl rfl ?_
          refine SL.nil ?_
          refine SE.seq ?_
          refine SC.ret ?_
          refine SE.fin (rs := [.tmp 6]) rfl (RV.tmp rfl RV.nil) (()) (by repeat (first | exact List.nil_sublist _ | exact List.Sublist.refl _ | apply List.Sublist.cons_cons | apply List.Sublist.cons)) (by simp [It.rids]) ?_
          exact boo_yes (by unfold Prf.fits; first | exact ⟨fun h => (by cases h), fun h => by omega⟩ | (rw [decide_eq_true_iff]; omega))
      · intro hc25
        refine SL.skip rfl rfl ?_
        refine SL.skip rfl rfl ?_
        refine SL.skip rfl rfl ?_
        refine SL.skip rfl rfl ?_
        refine SL.skip rfl rfl ?_
        refine SL.val (Val.pickF rfl rfl) rfl rfl ?_
        refine SL.val (Val.move rfl) rfl rfl ?_
        refine SL.skip rfl rfl ?_
        refine SL.skip rfl rfl ?_
        refine SL.skip rfl rfl ?_
        refine SL.skip rfl rfl ?_
        refine SL.skip rfl rfl ?_
        refine SL.val (Val.pickF rfl rfl) rfl rfl ?_
        refine SL.val (Val.assign rfl) rfl rfl ?_
        refine SL.nil ?_
        refine SE.seq ?_
        refine SC.ret ?_
        refine SE.fin (rs := [.tmp 6]) rfl (RV.tmp rfl RV.nil) (()) (by repeat (first | exact List.nil_sublist _ | exact List.Sublist.refl _ | apply List.Sublist.cons_cons | apply List.Sublist.cons)) (by simp [It.rids]) ?_
        exact boo_yes (by unfold Prf.fits; first | exact ⟨fun h => (by cases h), fun h => by omega⟩ | (rw [decide_eq_true_iff]; omega))
    · intro hc20
      refine SL.skip rfl rfl ?_
      refine SL.skip rfl rfl ?_
      refine SL.skip rfl rfl ?_
      refine SL.val (Val.pickF rfl rfl) rfl rfl ?_
      refine SL.val (Val.move rfl) rfl rfl ?_
      refine SL.skip rfl rfl ?_
      refine SL.skip rfl rfl ?_
      refine SL.skip rfl rfl ?_
      refine SL.skip rfl rfl ?_
      refine SL.skip rfl rfl ?_
      refine SL.val (Val.pickF rfl rfl) rfl rfl ?_
      refine SL.val (Val.move rfl) rfl rfl ?_
      refine SL.skip rfl rfl ?_
      refine SL.skip rfl rfl ?_
      refine SL.skip rfl rfl ?_
      refine SL.skip rfl rfl ?_
      refine SL.skip rfl rfl ?_
      refine SL.val (Val.pickF rfl rfl) rfl rfl ?_
      refine SL.val (Val.assign rfl) rfl rfl ?_
      refine SL.nil ?_
      refine SE.seq ?_
      refine SC.ret ?_
      refine SE.fin (rs := [.tmp 6]) rfl (RV.tmp rfl RV.nil) (()) (by repeat (first | exact List.nil_sublist _ | exact List.Sublist.refl _ | apply List.Sublist.cons_cons | apply List.Sublist.cons)) (by simp [It.rids]) ?_
      exact boo_yes (by unfold Prf.fits; first | exact ⟨fun h => (by cases h), fun h => by omega⟩ | (rw [decide_eq_true_iff]; omega))
  · intro hc12
    refine SL.skip rfl rfl ?_
    refine SL.skip rfl rfl ?_
    refine SL.skip rfl rfl ?_
    refine SL.skip rfl rfl ?_
    refine SL.skip rfl rfl ?_
    refine SL.skip rfl rfl ?_
    refine SL.val (Val.pickF rfl rfl) rfl rfl ?_
    refine SL.val (Val.move rfl) rfl rfl ?_
    refine SL.skip rfl rfl ?_
    refine SL.skip rfl rfl ?_
    refine SL.skip rfl rfl ?_
    refine SL.val (Val.pickF rfl rfl) rfl rfl ?_
    refine SL.val (Val.move rfl) rfl rfl ?_
    refine SL.skip rfl rfl ?_
    refine SL.skip rfl rfl ?_
    refine SL.skip rfl rfl ?_
    refine SL.skip rfl rfl ?_
    refine SL.skip rfl rfl ?_
    refine SL.val (Val.pickF rfl rfl) rfl rfl ?_
    refine SL.val (Val.move rfl) rfl rfl ?_
    refine SL.skip rfl rfl ?_
    refine SL.skip rfl rfl ?_
    refine SL.skip rfl rfl ?_
    refine SL.skip rfl rfl ?_
    refine SL.skip rfl rfl ?_
    refine SL.val (Val.pickF rfl rfl) rfl rfl ?_
    refine SL.val (Val.assign rfl) rfl rfl ?_
    refine SL.nil ?_
    refine SE.seq ?_
    refine SC.ret ?_
    refine SE.fin (rs := [.tmp 6]) rfl (RV.tmp rfl RV.nil) (()) (by repeat (first | exact List.nil_sublist _ | exact List.Sublist.refl _ | apply List.Sublist.cons_cons | apply List.Sublist.cons)) (by simp [It.rids]) ?_
    exact boo_yes (by unfold Prf.fits; first | exact ⟨fun h => (by cases h), fun h => by omega⟩ | (rw [decide_eq_true_iff]; omega))
set_option maxHeartbeats 4000000 in
theorem right_s (h1 : Long c.prepared) (h2 : Long c.proposed) (h3 : c.points.length < 9223372036854775807) (g1 : Lets c.prepared) (g2 : Lets c.proposed) : Spec Try.prog 96 [.agg c.abs, int n] [] (fun _ : Unit => []) (fun _ => boo (yes (c.Right n))) := by
  refine spec_of Try.func96 rfl Try.ntmps96 rfl fun G w => ?_
  refine SC.seq ?_
  refine SC.region ?_
  refine SL.eff (Eff.boxA rfl) rfl rfl ?_
  rintro _ _ ⟨b2, rfl, rfl⟩
  refine SL.val (Val.assign rfl) rfl rfl ?_
  refine SL.nil ?_
  refine SE.seq ?_
  refine SC.seq ?_
  refine SC.seq ?_
  refine SC.draw [] (.q 0 (.q 1 (.q 2 (.q 3 (.q 4 (.q 5 (.e 6 (.q 7 (.q 8 (.q 9 (.q 10 (.q 11 (.e 12 (.q 13 (.q 14 (.q 15 (.q 16 (.q 17 (.q 18 (.q 19 (.q 20 (.q 21 (.q 22 (.q 23 (.q 24 (.q 25 (.q 26 (.q 27 (.q 28 (.q 29 (.q 30 (.q 31 (.q 32 (.q 33 (.q 34 (.q 35 (.q 36 (.q 37 (.q 38 (.q 39 (.q 40 (.q 41 (.q 42 (.q 43 (.q 44 (.q 45 (.q 46 (.q 47 (.q 48 .nil))))))))))))))))))))))))))))))))))))))))))))))))) (by kernel_rfl) (by kernel_rfl) ?_
  refine SX.val rfl (Val.fieldAddr tabOk rfl rfl rfl rfl rfl) (by first | (simp [mids, It.mids, ownPc]; done) | (intro k hk; simp [mids, It.mids, ownPc] at hk ⊢; grind)) rfl rfl ?_
  refine SX.val rfl (Val.load1 tabOk rfl rfl (by first | (apply Or.inl; (repeat (first | assumption | exact List.mem_cons_self | apply List.mem_cons_of_mem)); done) | (apply Or.inr; (repeat (first | assumption | exact List.mem_cons_self | apply List.mem_cons_of_mem)); done)) List.not_mem_nil (by rfl)) (by first | (simp [mids, It.mids, ownPc]; done) | (intro k hk; simp [mids, It.mids, ownPc] at hk ⊢; grind)) rfl rfl ?_
  refine SX.val rfl (Val.ltI rfl rfl) (by first | (simp [mids, It.mids, ownPc]; done) | (intro k hk; simp [mids, It.mids, ownPc] at hk ⊢; grind)) rfl rfl ?_
  refine SX.val rfl (Val.move rfl) (by first | (simp [mids, It.mids, ownPc]; done) | (intro k hk; simp [mids, It.mids, ownPc] at hk ⊢; grind)) rfl rfl ?_
  refine SX.bothP (t := 15) rfl ?_ ?_
  · intro hc15
    refine SX.skip rfl rfl rfl ?_
    refine SX.skip rfl rfl rfl ?_
    refine SX.skip' rfl rfl rfl ?_
    refine SX.skip rfl rfl rfl ?_
    refine SX.val rfl (Val.pickT rfl rfl) (by first | (simp [mids, It.mids, ownPc]; done) | (intro k hk; simp [mids, It.mids, ownPc] at hk ⊢; grind)) rfl rfl ?_
    refine SX.val rfl (Val.move rfl) (by first | (simp [mids, It.mids, ownPc]; done) | (intro k hk; simp [mids, It.mids, ownPc] at hk ⊢; grind)) rfl rfl ?_
    refine SX.skip rfl rfl rfl ?_
    refine SX.skip rfl rfl rfl ?_
    refine SX.skip' rfl rfl rfl ?_
    refine SX.skip rfl rfl rfl ?_
    refine SX.val rfl (Val.pickT rfl rfl) (by first | (simp [mids, It.mids, ownPc]; done) | (intro k hk; simp [mids, It.mids, ownPc] at hk ⊢; grind)) rfl rfl ?_
    refine SX.val rfl (Val.move rfl) (by first | (simp [mids, It.mids, ownPc]; done) | (intro k hk; simp [mids, It.mids, ownPc] at hk ⊢; grind)) rfl rfl ?_
    refine SX.skip rfl rfl rfl ?_
    refine SX.skip rfl rfl rfl ?_
    refine SX.skip rfl rfl rfl ?_
    refine SX.skip rfl rfl rfl ?_
    refine SX.val rfl (Val.pickT rfl rfl) (by first | (simp [mids, It.mids, ownPc]; done) | (intro k hk; simp [mids, It.mids, ownPc] at hk ⊢; grind)) rfl rfl ?_
    refine SX.val rfl (Val.move rfl) (by first | (simp [mids, It.mids, ownPc]; done) | (intro k hk; simp [mids, It.mids, ownPc] at hk ⊢; grind)) rfl rfl ?_
    refine SX.skip rfl rfl rfl ?_
    refine SX.skip rfl rfl rfl ?_
    refine SX.skip rfl rfl rfl ?_
    refine SX.skip rfl rfl rfl ?_
    refine SX.val rfl (Val.pickT rfl rfl) (by first | (simp [mids, It.mids, ownPc]; done) | (intro k hk; simp [mids, It.mids, ownPc] at hk ⊢; grind)) rfl rfl ?_
    refine SX.val rfl (Val.move rfl) (by first | (simp [mids, It.mids, ownPc]; done) | (intro k hk; simp [mids, It.mids, ownPc] at hk ⊢; grind)) rfl rfl ?_
    refine SX.skip rfl rfl rfl ?_
    refine SX.skip rfl rfl rfl ?_
    refine SX.skip rfl rfl rfl ?_
    refine SX.skip rfl rfl rfl ?_
    refine SX.skip rfl rfl rfl ?_
    refine SX.skip rfl rfl rfl ?_
    refine SX.skip rfl rfl rfl ?_
    refine SX.skip rfl rfl rfl ?_
    refine SX.val rfl (Val.pickT rfl rfl) (by first | (simp [mids, It.mids, ownPc]; done) | (intro k hk; simp [mids, It.mids, ownPc] at hk ⊢; grind)) rfl rfl ?_
    refine SX.val rfl (Val.move rfl) (by first | (simp [mids, It.mids, ownPc]; done) | (intro k hk; simp [mids, It.mids, ownPc] at hk ⊢; grind)) rfl rfl ?_
    refine SX.skip rfl rfl rfl ?_
    refine SX.skip rfl rfl rfl ?_
    refine SX.skip rfl rfl rfl ?_
    refine SX.skip rfl rfl rfl ?_
    refine SX.val rfl (Val.pickT rfl rfl) (by first | (simp [mids, It.mids, ownPc]; done) | (intro k hk; simp [mids, It.mids, ownPc] at hk ⊢; grind)) rfl rfl ?_
    refine SX.val rfl (Val.move rfl) (by first | (simp [mids, It.mids, ownPc]; done) | (intro k hk; simp [mids, It.mids, ownPc] at hk ⊢; grind)) rfl rfl ?_
    refine SX.skip rfl rfl rfl ?_
    refine SX.skip rfl rfl rfl ?_
    refine SX.skip rfl rfl rfl ?_
    refine SX.skip rfl rfl rfl ?_
    refine SX.val rfl (Val.pickT rfl rfl) (by first | (simp [mids, It.mids, ownPc]; done) | (intro k hk; simp [mids, It.mids, ownPc] at hk ⊢; grind)) rfl rfl ?_
    refine SX.nil ?_
    refine SE.seq ?_
    refine SC.condT rfl ?_
    refine SC.seq ?_
    refine SC.region ?_
    refine SL.val (Val.assign rfl) rfl rfl ?_
    refine SL.nil ?_
    refine SE.seq ?_
    refine SC.ret ?_
    refine SE.then_ (by intro h; cases h) ?_
    refine SE.fin (rs := [.tmp 4]) rfl (RV.tmp rfl RV.nil) (()) (by repeat (first | exact List.nil_sublist _ | exact List.Sublist.refl _ | apply List.Sublist.cons_cons | apply List.Sublist.cons)) (by simp [It.rids]) ?_
    refine boo_no fun h => ?_
    obtain ⟨h4, h5, h6, ⟨h7, h8, h9, h10, h11⟩, ⟨h12, h13, h14⟩, ⟨h15, h16, h17⟩⟩ := h
    have h00 : 0 < c.points.length := by omega
    have h18 := h9 _ (List.getElem?_eq_getElem h00)
    have h19 : isSeq c.view := ⟨by omega, by omega⟩
    first | omega | simp_all
  · intro hc15
    refine SX.val rfl (Val.fieldAddr tabOk rfl rfl rfl rfl rfl) (by first | (simp [mids, It.mids, ownPc]; done) | (intro k hk; simp [mids, It.mids, ownPc] at hk ⊢; grind)) rfl rfl ?_
    refine SX.val rfl (Val.load1 tabOk rfl rfl (by first | (apply Or.inl; (repeat (first | assumption | exact List.mem_cons_self | apply List.mem_cons_of_mem)); done) | (apply Or.inr; (repeat (first | assumption | exact List.mem_cons_self | apply List.mem_cons_of_mem)); done)) List.not_mem_nil (by rfl)) (by first | (simp [mids, It.mids, ownPc]; done) | (intro k hk; simp [mids, It.mids, ownPc] at hk ⊢; grind)) rfl rfl ?_
    refine SX.call rfl (rview_s (x := c.view)) (by simp [mids, It.mids]) Casts.refl (by kernel_rfl) rfl rfl rfl ?_
    refine After.pure (by repeat (first | exact Reads.nil | refine Reads.blk (by repeat (first | assumption | exact List.mem_cons_self | apply List.mem_cons_of_mem)) ?_ | refine Reads.rd (by repeat (first | assumption | exact List.mem_cons_self | apply List.mem_cons_of_mem)) ?_ | refine Reads.pc (by repeat (first | assumption | exact List.mem_cons_self | apply List.mem_cons_of_mem)) ?_ | refine Reads.rdpc (by repeat (first | assumption | exact List.mem_cons_self | apply List.mem_cons_of_mem)) ?_)) (fun _ => rfl) ?_
    intro _
    refine SX.val rfl (Val.notP rfl) (by first | (simp [mids, It.mids, ownPc]; done) | (intro k hk; simp [mids, It.mids, ownPc] at hk ⊢; grind)) rfl rfl ?_
    refine SX.val rfl (Val.pickF rfl rfl) (by first | (simp [mids, It.mids, ownPc]; done) | (intro k hk; simp [mids, It.mids, ownPc] at hk ⊢; grind)) rfl rfl ?_
    refine SX.val rfl (Val.move rfl) (by first | (simp [mids, It.mids, ownPc]; done) | (intro k hk; simp [mids, It.mids, ownPc] at hk ⊢; grind)) rfl rfl ?_
    refine SX.bothP (t := 21) rfl ?_ ?_
    · intro hc21
      refine SX.skip rfl rfl rfl ?_
      refine SX.skip rfl rfl rfl ?_
      refine SX.skip' rfl rfl rfl ?_
      refine SX.skip rfl rfl rfl ?_
      refine SX.val rfl (Val.pickT rfl rfl) (by first | (simp [mids, It.mids, ownPc]; done) | (intro k hk; simp [mids, It.mids, ownPc] at hk ⊢; grind)) rfl rfl ?_
      refine SX.val rfl (Val.move rfl) (by first | (simp [mids, It.mids, ownPc]; done) | (intro k hk; simp [mids, It.mids, ownPc] at hk ⊢; grind)) rfl rfl ?_
      refine SX.skip rfl rfl rfl ?_
      refine SX.skip rfl rfl rfl ?_
      refine SX.skip rfl rfl rfl ?_
      refine SX.skip rfl rfl rfl ?_
      refine SX.val rfl (Val.pickT rfl rfl) (by first | (simp [mids, It.mids, ownPc]; done) | (intro k hk; simp [mids, It.mids, ownPc] at hk ⊢; grind)) rfl rfl ?_
      refine SX.val rfl (Val.move rfl) (by first | (simp [mids, It.mids, ownPc]; done) | (intro k hk; simp [mids, It.mids, ownPc] at hk ⊢; grind)) rfl rfl ?_
      refine SX.skip rfl rfl rfl ?_
      refine SX.skip rfl rfl rfl ?_
      refine SX.skip rfl rfl rfl ?_
      refine SX.skip rfl rfl rfl ?_
      refine SX.val rfl (Val.pickT rfl rfl) (by first | (simp [mids, It.mids, ownPc]; done) | (intro k hk; simp [mids, It.mids, ownPc] at hk ⊢; grind)) rfl rfl ?_
      refine SX.val rfl (Val.move rfl) (by first | (simp [mids, It.mids, ownPc]; done) | (intro k hk; simp [mids, It.mids, ownPc] at hk ⊢; grind)) rfl rfl ?_
      refine SX.skip rfl rfl rfl ?_
      refine SX.skip rfl rfl rfl ?_
      refine SX.skip rfl rfl rfl ?_
      refine SX.skip rfl rfl rfl ?_
      refine SX.skip rfl rfl rfl ?_
      refine SX.skip rfl rfl rfl ?_
      refine SX.skip rfl rfl rfl ?_
      refine SX.skip rfl rfl rfl ?_
      refine SX.val rfl (Val.pickT rfl rfl) (by first | (simp [mids, It.mids, ownPc]; done) | (intro k hk; simp [mids, It.mids, ownPc] at hk ⊢; grind)) rfl rfl ?_
      refine SX.val rfl (Val.move rfl) (by first | (simp [mids, It.mids, ownPc]; done) | (intro k hk; simp [mids, It.mids, ownPc] at hk ⊢; grind)) rfl rfl ?_
      refine SX.skip rfl rfl rfl ?_
      refine SX.skip rfl rfl rfl ?_
      refine SX.skip rfl rfl rfl ?_
      refine SX.skip rfl rfl rfl ?_
      refine SX.val rfl (Val.pickT rfl rfl) (by first | (simp [mids, It.mids, ownPc]; done) | (intro k hk; simp [mids, It.mids, ownPc] at hk ⊢; grind)) rfl rfl ?_
      refine SX.val rfl (Val.move rfl) (by first | (simp [mids, It.mids, ownPc]; done) | (intro k hk; simp [mids, It.mids, ownPc] at hk ⊢; grind)) rfl rfl ?_
      refine SX.skip rfl rfl rfl ?_
      refine SX.skip rfl rfl rfl ?_
      refine SX.skip rfl rfl rfl ?_
      refine SX.skip rfl rfl rfl ?_
      refine SX.val rfl (Val.pickT rfl rfl) (by first | (simp [mids, It.mids, ownPc]; done) | (intro k hk; simp [mids, It.mids, ownPc] at hk ⊢; grind)) rfl rfl ?_
      refine SX.nil ?_
      refine SE.seq ?_
      refine SC.condT rfl ?_
      refine SC.seq ?_
      refine SC.region ?_
      refine SL.val (Val.assign rfl) rfl rfl ?_
      refine SL.nil ?_
      refine SE.seq ?_
      refine SC.ret ?_
      refine SE.then_ (by intro h; cases h) ?_
      refine SE.fin (rs := [.tmp 4]) rfl (RV.tmp rfl RV.nil) (()) (by repeat (first | exact List.nil_sublist _ | exact List.Sublist.refl _ | apply List.Sublist.cons_cons | apply List.Sublist.cons)) (by simp [It.rids]) ?_
      refine boo_no fun h => ?_
      obtain ⟨h4, h5, h6, ⟨h7, h8, h9, h10, h11⟩, ⟨h12, h13, h14⟩, ⟨h15, h16, h17⟩⟩ := h
      have h00 : 0 < c.points.length := by omega
      have h18 := h9 _ (List.getElem?_eq_getElem h00)
      have h19 : isSeq c.view := ⟨by omega, by omega⟩
      first | omega | simp_all
    · intro hc21
      refine SX.val rfl (Val.fieldAddr tabOk rfl rfl rfl rfl rfl) (by first | (simp [mids, It.mids, ownPc]; done) | (intro k hk; simp [mids, It.mids, ownPc] at hk ⊢; grind)) rfl rfl ?_
      refine SX.val rfl (Val.load1 tabOk rfl rfl (by first | (apply Or.inl; (repeat (first | assumption | exact List.mem_cons_self | apply List.mem_cons_of_mem)); done) | (apply Or.inr; (repeat (first | assumption | exact List.mem_cons_self | apply List.mem_cons_of_mem)); done)) List.not_mem_nil (by rfl)) (by first | (simp [mids, It.mids, ownPc]; done) | (intro k hk; simp [mids, It.mids, ownPc] at hk ⊢; grind)) rfl rfl ?_
      refine SX.call rfl (rmark_s (x := c.low)) (by simp [mids, It.mids]) Casts.refl (by kernel_rfl) rfl rfl rfl ?_
      refine After.pure (by repeat (first | exact Reads.nil | refine Reads.blk (by repeat (first | assumption | exact List.mem_cons_self | apply List.mem_cons_of_mem)) ?_ | refine Reads.rd (by repeat (first | assumption | exact List.mem_cons_self | apply List.mem_cons_of_mem)) ?_ | refine Reads.pc (by repeat (first | assumption | exact List.mem_cons_self | apply List.mem_cons_of_mem)) ?_ | refine Reads.rdpc (by repeat (first | assumption | exact List.mem_cons_self | apply List.mem_cons_of_mem)) ?_)) (fun _ => rfl) ?_
      intro _
      refine SX.val rfl (Val.notP rfl) (by first | (simp [mids, It.mids, ownPc]; done) | (intro k hk; simp [mids, It.mids, ownPc] at hk ⊢; grind)) rfl rfl ?_
      refine SX.val rfl (Val.pickF rfl rfl) (by first | (simp [mids, It.mids, ownPc]; done) | (intro k hk; simp [mids, It.mids, ownPc] at hk ⊢; grind)) rfl rfl ?_
      refine SX.val rfl (Val.move rfl) (by first | (simp [mids, It.mids, ownPc]; done) | (intro k hk; simp [mids, It.mids, ownPc] at hk ⊢; grind)) rfl rfl ?_
      refine SX.bothP (t := 27) rfl ?_ ?_
      · intro hc27
        refine SX.skip rfl rfl rfl ?_
        refine SX.skip rfl rfl rfl ?_
        refine SX.skip rfl rfl rfl ?_
        refine SX.skip rfl rfl rfl ?_
        refine SX.val rfl (Val.pickT rfl rfl) (by first | (simp [mids, It.mids, ownPc]; done) | (intro k hk; simp [mids, It.mids, ownPc] at hk ⊢; grind)) rfl rfl ?_
        refine SX.val rfl (Val.move rfl) (by first | (simp [mids, It.mids, ownPc]; done) | (intro k hk; simp [mids, It.mids, ownPc] at hk ⊢; grind)) rfl rfl ?_
        refine SX.skip rfl rfl rfl ?_
        refine SX.skip rfl rfl rfl ?_
        refine SX.skip rfl rfl rfl ?_
        refine SX.skip rfl rfl rfl ?_
        refine SX.val rfl (Val.pickT rfl rfl) (by first | (simp [mids, It.mids, ownPc]; done) | (intro k hk; simp [mids, It.mids, ownPc] at hk ⊢; grind)) rfl rfl ?_
        refine SX.val rfl (Val.move rfl) (by first | (simp [mids, It.mids, ownPc]; done) | (intro k hk; simp [mids, It.mids, ownPc] at hk ⊢; grind)) rfl rfl ?_
        refine SX.skip rfl rfl rfl ?_
        refine SX.skip rfl rfl rfl ?_
        refine SX.skip rfl rfl rfl ?_
        refine SX.skip rfl rfl rfl ?_
        refine SX.skip rfl rfl rfl ?_
        refine SX.skip rfl rfl rfl ?_
        refine SX.skip rfl rfl rfl ?_
        refine SX.skip rfl rfl rfl ?_
        refine SX.val rfl (Val.pickT rfl rfl) (by first | (simp [mids, It.mids, ownPc]; done) | (intro k hk; simp [mids, It.mids, ownPc] at hk ⊢; grind)) rfl rfl ?_
        refine SX.val rfl (Val.move rfl) (by first | (simp [mids, It.mids, ownPc]; done) | (intro k hk; simp [mids, It.mids, ownPc] at hk ⊢; grind)) rfl rfl ?_
        refine SX.skip rfl rfl rfl ?_
        refine SX.skip rfl rfl rfl ?_
        refine SX.skip rfl rfl rfl ?_
        refine SX.skip rfl rfl rfl ?_
        refine SX.val rfl (Val.pickT rfl rfl) (by first | (simp [mids, It.mids, ownPc]; done) | (intro k hk; simp [mids, It.mids, ownPc] at hk ⊢; grind)) rfl rfl ?_
        refine SX.val rfl (Val.move rfl) (by first | (simp [mids, It.mids, ownPc]; done) | (intro k hk; simp [mids, It.mids, ownPc] at hk ⊢; grind)) rfl rfl ?_
        refine SX.skip rfl rfl rfl ?_
        refine SX.skip rfl rfl rfl ?_
        refine SX.skip rfl rfl rfl ?_
        refine SX.skip rfl rfl rfl ?_
        refine SX.val rfl (Val.pickT rfl rfl) (by first | (simp [mids, It.mids, ownPc]; done) | (intro k hk; simp [mids, It.mids, ownPc] at hk ⊢; grind)) rfl rfl ?_
        refine SX.nil ?_
        refine SE.seq ?_
        refine SC.condT rfl ?_
        refine SC.seq ?_
        refine SC.region ?_
        refine SL.val (Val.assign rfl) rfl rfl ?_
        refine SL.nil ?_
        refine SE.seq ?_
        refine SC.ret ?_
        refine SE.then_ (by intro h; cases h) ?_
        refine SE.fin (rs := [.tmp 4]) rfl (RV.tmp rfl RV.nil) (()) (by repeat (first | exact List.nil_sublist _ | exact List.Sublist.refl _ | apply List.Sublist.cons_cons | apply List.Sublist.cons)) (by simp [It.rids]) ?_
        refine boo_no fun h => ?_
        obtain ⟨h4, h5, h6, ⟨h7, h8, h9, h10, h11⟩, ⟨h12, h13, h14⟩, ⟨h15, h16, h17⟩⟩ := h
        have h00 : 0 < c.points.length := by omega
        have h18 := h9 _ (List.getElem?_eq_getElem h00)
        have h19 : isSeq c.view := ⟨by omega, by omega⟩
        first | omega | simp_all
      · intro hc27
        refine SX.val rfl (Val.fieldAddr tabOk rfl rfl rfl rfl rfl) (by first | (simp [mids, It.mids, ownPc]; done) | (intro k hk; simp [mids, It.mids, ownPc] at hk ⊢; grind)) rfl rfl ?_
        refine SX.val rfl (Val.load1 tabOk rfl rfl (by first | (apply Or.inl; (repeat (first | assumption | exact List.mem_cons_self | apply List.mem_cons_of_mem)); done) | (apply Or.inr; (repeat (first | assumption | exact List.mem_cons_self | apply List.mem_cons_of_mem)); done)) List.not_mem_nil (by rfl)) (by first | (simp [mids, It.mids, ownPc]; done) | (intro k hk; simp [mids, It.mids, ownPc] at hk ⊢; grind)) rfl rfl ?_
        first
          | refine SX.val rfl (Val.lenSl rfl Try.underlying77 (List.length_map _)) (by first | (simp [mids, It.mids, ownPc]; done) | (intro k hk; simp [mids, It.mids, ownPc] at hk ⊢; grind)) rfl rfl ?_
          | refine SX.val rfl (Val.lenOwn rfl (by repeat (first | assumption | exact List.mem_cons_self | apply List.mem_cons_of_mem)) Try.underlying77 (List.length_map _)) (by first | (simp [mids, It.mids, ownPc]; done) | (intro k hk; simp [mids, It.mids, ownPc] at hk ⊢; grind)) rfl rfl ?_
          | refine SX.val rfl (Val.lenNil rfl Try.underlying77) (by first | (simp [mids, It.mids, ownPc]; done) | (intro k hk; simp [mids, It.mids, ownPc] at hk ⊢; grind)) rfl rfl ?_
        refine SX.val rfl (Val.ltI rfl rfl) (by first | (simp [mids, It.mids, ownPc]; done) | (intro k hk; simp [mids, It.mids, ownPc] at hk ⊢; grind)) rfl rfl ?_
        refine SX.val rfl (Val.pickF rfl rfl) (by first | (simp [mids, It.mids, ownPc]; done) | (intro k hk; simp [mids, It.mids, ownPc] at hk ⊢; grind)) rfl rfl ?_
        refine SX.val rfl (Val.move rfl) (by first | (simp [mids, It.mids, ownPc]; done) | (intro k hk; simp [mids, It.mids, ownPc] at hk ⊢; grind)) rfl rfl ?_
        refine SX.bothP (t := 33) rfl ?_ ?_
        · intro hc33
          refine SX.skip rfl rfl rfl ?_
          refine SX.skip rfl rfl rfl ?_
          refine SX.skip rfl rfl rfl ?_
          refine SX.skip rfl rfl rfl ?_
          refine SX.val rfl (Val.pickT rfl rfl) (by first | (simp [mids, It.mids, ownPc]; done) | (intro k hk; simp [mids, It.mids, ownPc] at hk ⊢; grind)) rfl rfl ?_
          refine SX.val rfl (Val.move rfl) (by first | (simp [mids, It.mids, ownPc]; done) | (intro k hk; simp [mids, It.mids, ownPc] at hk ⊢; grind)) rfl rfl ?_
          refine SX.skip rfl rfl rfl ?_
          refine SX.skip rfl rfl rfl ?_
          refine SX.skip rfl rfl rfl ?_
          refine SX.skip rfl rfl rfl ?_
          refine SX.skip rfl rfl rfl ?_
          refine SX.skip rfl rfl rfl ?_
          refine SX.skip rfl rfl rfl ?_
          refine SX.skip rfl rfl rfl ?_
          refine SX.val rfl (Val.pickT rfl rfl) (by first | (simp [mids, It.mids, ownPc]; done) | (intro k hk; simp [mids, It.mids, ownPc] at hk ⊢; grind)) rfl rfl ?_
          refine SX.val rfl (Val.move rfl) (by first | (simp [mids, It.mids, ownPc]; done) | (intro k hk; simp [mids, It.mids, ownPc] at hk ⊢; grind)) rfl rfl ?_
          refine SX.skip rfl rfl rfl ?_
          refine SX.skip rfl rfl rfl ?_
          refine SX.skip rfl rfl rfl ?_
          refine SX.skip rfl rfl rfl ?_
          refine SX.val rfl (Val.pickT rfl rfl) (by first | (simp [mids, It.mids, ownPc]; done) | (intro k hk; simp [mids, It.mids, ownPc] at hk ⊢; grind)) rfl rfl ?_
          refine SX.val rfl (Val.move rfl) (by first | (simp [mids, It.mids, ownPc]; done) | (intro k hk; simp [mids, It.mids, ownPc] at hk ⊢; grind)) rfl rfl ?_
          refine SX.skip rfl rfl rfl ?_
          refine SX.skip rfl rfl rfl ?_
          refine SX.skip rfl rfl rfl ?_
          refine SX.skip rfl rfl rfl ?_
          refine SX.val rfl (Val.pickT rfl rfl) (by first | (simp [mids, It.mids, ownPc]; done) | (intro k hk; simp [mids, It.mids, ownPc] at hk ⊢; grind)) rfl rfl ?_
          refine SX.nil ?_
          refine SE.seq ?_
          refine SC.condT rfl ?_
          refine SC.seq ?_
          refine SC.region ?_
          refine SL.val (Val.assign rfl) rfl rfl ?_
          refine SL.nil ?_
          refine SE.seq ?_
          refine SC.ret ?_
          refine SE.then_ (by intro h; cases h) ?_
          refine SE.fin (rs := [.tmp 4]) rfl (RV.tmp rfl RV.nil) (()) (by repeat (first | exact List.nil_sublist _ | exact List.Sublist.refl _ | apply List.Sublist.cons_cons | apply List.Sublist.cons)) (by simp [It.rids]) ?_
          refine boo_no fun h => ?_
          obtain ⟨h4, h5, h6, ⟨h7, h8, h9, h10, h11⟩, ⟨h12, h13, h14⟩, ⟨h15, h16, h17⟩⟩ := h
          have h00 : 0 < c.points.length := by omega
          have h18 := h9 _ (List.getElem?_eq_getElem h00)
          have h19 : isSeq c.view := ⟨by omega, by omega⟩
          first | omega | simp_all
        · intro hc33
          refine SX.val rfl (Val.fieldAddr tabOk rfl rfl rfl rfl rfl) (by first | (simp [mids, It.mids, ownPc]; done) | (intro k hk; simp [mids, It.mids, ownPc] at hk ⊢; grind)) rfl rfl ?_
          refine SX.val rfl (Val.load1 tabOk rfl rfl (by first | (apply Or.inl; (repeat (first | assumption | exact List.mem_cons_self | apply List.mem_cons_of_mem)); done) | (apply Or.inr; (repeat (first | assumption | exact List.mem_cons_self | apply List.mem_cons_of_mem)); done)) List.not_mem_nil (by rfl)) (by first | (simp [mids, It.mids, ownPc]; done) | (intro k hk; simp [mids, It.mids, ownPc] at hk ⊢; grind)) rfl rfl ?_
          first
            | refine SX.val rfl (Val.lenSl rfl Try.underlying77 (List.length_map _)) (by first | (simp [mids, It.mids, ownPc]; done) | (intro k hk; simp [mids, It.mids, ownPc] at hk ⊢; grind)) rfl rfl ?_
            | refine SX.val rfl (Val.lenOwn rfl (by repeat (first | assumption | exact List.mem_cons_self | apply List.mem_cons_of_mem)) Try.underlying77 (List.length_map _)) (by first | (simp [mids, It.mids, ownPc]; done) | (intro k hk; simp [mids, It.mids, ownPc] at hk ⊢; grind)) rfl rfl ?_
            | refine SX.val rfl (Val.lenNil rfl Try.underlying77) (by first | (simp [mids, It.mids, ownPc]; done) | (intro k hk; simp [mids, It.mids, ownPc] at hk ⊢; grind)) rfl rfl ?_
          refine SX.val rfl (Val.gtI rfl rfl) (by first | (simp [mids, It.mids, ownPc]; done) | (intro k hk; simp [mids, It.mids, ownPc] at hk ⊢; grind)) rfl rfl ?_
          refine SX.val rfl (Val.pickF rfl rfl) (by first | (simp [mids, It.mids, ownPc]; done) | (intro k hk; simp [mids, It.mids, ownPc] at hk ⊢; grind)) rfl rfl ?_
          refine SX.val rfl (Val.move rfl) (by first | (simp [mids, It.mids, ownPc]; done) | (intro k hk; simp [mids, It.mids, ownPc] at hk ⊢; grind)) rfl rfl ?_
          refine SX.bothP (t := 39) rfl ?_ ?_
          · intro hc39
            refine SX.skip rfl rfl rfl ?_
            refine SX.skip rfl rfl rfl ?_
            refine SX.skip rfl rfl rfl ?_
            refine SX.skip rfl rfl rfl ?_
            refine SX.skip rfl rfl rfl ?_
            refine SX.skip rfl rfl rfl ?_
            refine SX.skip rfl rfl rfl ?_
            refine SX.skip rfl rfl rfl ?_
            refine SX.val rfl (Val.pickT rfl rfl) (by first | (simp [mids, It.mids, ownPc]; done) | (intro k hk; simp [mids, It.mids, ownPc] at hk ⊢; grind)) rfl rfl ?_
            refine SX.val rfl (Val.move rfl) (by first | (simp [mids, It.mids, ownPc]; done) | (intro k hk; simp [mids, It.mids, ownPc] at hk ⊢; grind)) rfl rfl ?_
            refine SX.skip rfl rfl rfl ?_
            refine SX.skip rfl rfl rfl ?_
            refine SX.skip rfl rfl rfl ?_
            refine SX.skip rfl rfl rfl ?_
            refine SX.val rfl (Val.pickT rfl rfl) (by first | (simp [mids, It.mids, ownPc]; done) | (intro k hk; simp [mids, It.mids, ownPc] at hk ⊢; grind)) rfl rfl ?_
            refine SX.val rfl (Val.move rfl) (by first | (simp [mids, It.mids, ownPc]; done) | (intro k hk; simp [mids, It.mids, ownPc] at hk ⊢; grind)) rfl rfl ?_
            refine SX.skip rfl rfl rfl ?_
            refine SX.skip rfl rfl rfl ?_
            refine SX.skip rfl rfl rfl ?_
            refine SX.skip rfl rfl rfl ?_
            refine SX.val rfl (Val.pickT rfl rfl) (by first | (simp [mids, It.mids, ownPc]; done) | (intro k hk; simp [mids, It.mids, ownPc] at hk ⊢; grind)) rfl rfl ?_
            refine SX.nil ?_
            refine SE.seq ?_
            refine SC.condT rfl ?_
            refine SC.seq ?_
            refine SC.region ?_
            refine SL.val (Val.assign rfl) rfl rfl ?_
            refine SL.nil ?_
            refine SE.seq ?_
            refine SC.ret ?_
            refine SE.then_ (by intro h; cases h) ?_
            refine SE.fin (rs := [.tmp 4]) rfl (RV.tmp rfl RV.nil) (()) (by repeat (first | exact List.nil_sublist _ | exact List.Sublist.refl _ | apply List.Sublist.cons_cons | apply List.Sublist.cons)) (by simp [It.rids]) ?_
            refine boo_no fun h => ?_
            obtain ⟨h4, h5, h6, ⟨h7, h8, h9, h10, h11⟩, ⟨h12, h13, h14⟩, ⟨h15, h16, h17⟩⟩ := h
            have h00 : 0 < c.points.length := by omega
            have h18 := h9 _ (List.getElem?_eq_getElem h00)
            have h19 : isSeq c.view := ⟨by omega, by omega⟩
            first | omega | simp_all
          · intro hc39
            refine SX.val rfl (Val.fieldAddr tabOk rfl rfl rfl rfl rfl) (by first | (simp [mids, It.mids, ownPc]; done) | (intro k hk; simp [mids, It.mids, ownPc] at hk ⊢; grind)) rfl rfl ?_
            refine SX.val rfl (Val.load1 tabOk rfl rfl (by first | (apply Or.inl; (repeat (first | assumption | exact List.mem_cons_self | apply List.mem_cons_of_mem)); done) | (apply Or.inr; (repeat (first | assumption | exact List.mem_cons_self | apply List.mem_cons_of_mem)); done)) List.not_mem_nil (by rfl)) (by first | (simp [mids, It.mids, ownPc]; done) | (intro k hk; simp [mids, It.mids, ownPc] at hk ⊢; grind)) rfl rfl ?_
            refine SX.val rfl (Val.indexSl (q := 0) tabOk Try.underlying77 rfl rfl rfl rfl (at_map (by omega)) rfl rfl) (by first | (simp [mids, It.mids, ownPc]; done) | (intro k hk; simp [mids, It.mids, ownPc] at hk ⊢; grind)) rfl rfl ?_
            refine SX.val rfl (Val.fieldAddrR tabOk rfl rfl rfl rfl rfl) (by first | (simp [mids, It.mids, ownPc]; done) | (intro k hk; simp [mids, It.mids, ownPc] at hk ⊢; grind)) rfl rfl ?_
            refine SX.val rfl (Val.load1R tabOk rfl rfl rfl) (by first | (simp [mids, It.mids, ownPc]; done) | (intro k hk; simp [mids, It.mids, ownPc] at hk ⊢; grind)) rfl rfl ?_
            refine SX.val rfl (Val.fieldAddr tabOk rfl rfl rfl rfl rfl) (by first | (simp [mids, It.mids, ownPc]; done) | (intro k hk; simp [mids, It.mids, ownPc] at hk ⊢; grind)) rfl rfl ?_
            refine SX.val rfl (Val.load1 tabOk rfl rfl (by first | (apply Or.inl; (repeat (first | assumption | exact List.mem_cons_self | apply List.mem_cons_of_mem)); done) | (apply Or.inr; (repeat (first | assumption | exact List.mem_cons_self | apply List.mem_cons_of_mem)); done)) List.not_mem_nil (by rfl)) (by first | (simp [mids, It.mids, ownPc]; done) | (intro k hk; simp [mids, It.mids, ownPc] at hk ⊢; grind)) rfl rfl ?_
            refine SX.val rfl (Val.neI rfl rfl) (by first | (simp [mids, It.mids, ownPc]; done) | (intro k hk; simp [mids, It.mids, ownPc] at hk ⊢; grind)) rfl rfl ?_
            refine SX.val rfl (Val.pickF rfl rfl) (by first | (simp [mids, It.mids, ownPc]; done) | (intro k hk; simp [mids, It.mids, ownPc] at hk ⊢; grind)) rfl rfl ?_
            refine SX.val rfl (Val.move rfl) (by first | (simp [mids, It.mids, ownPc]; done) | (intro k hk; simp [mids, It.mids, ownPc] at hk ⊢; grind)) rfl rfl ?_
            refine SX.bothP (t := 49) rfl ?_ ?_
            · intro hc49
              refine SX.skip rfl rfl rfl ?_
              refine SX.skip rfl rfl rfl ?_
              refine SX.skip rfl rfl rfl ?_
              refine SX.skip rfl rfl rfl ?_
              refine SX.val rfl (Val.pickT rfl rfl) (by first | (simp [mids, It.mids, ownPc]; done) | (intro k hk; simp [mids, It.mids, ownPc] at hk ⊢; grind)) rfl rfl ?_
              refine SX.val rfl (Val.move rfl) (by first | (simp [mids, It.mids, ownPc]; done) | (intro k hk; simp [mids, It.mids, ownPc] at hk ⊢; grind)) rfl rfl ?_
              refine SX.skip rfl rfl rfl ?_
              refine SX.skip rfl rfl rfl ?_
              refine SX.skip rfl rfl rfl ?_
              refine SX.skip rfl rfl rfl ?_
              refine SX.val rfl (Val.pickT rfl rfl) (by first | (simp [mids, It.mids, ownPc]; done) | (intro k hk; simp [mids, It.mids, ownPc] at hk ⊢; grind)) rfl rfl ?_
              refine SX.nil ?_
              refine SE.seq ?_
              refine SC.condT rfl ?_
              refine SC.seq ?_
              refine SC.region ?_
              refine SL.val (Val.assign rfl) rfl rfl ?_
              refine SL.nil ?_
              refine SE.seq ?_
              refine SC.ret ?_
              refine SE.then_ (by intro h; cases h) ?_
              refine SE.fin (rs := [.tmp 4]) rfl (RV.tmp rfl RV.nil) (()) (by repeat (first | exact List.nil_sublist _ | exact List.Sublist.refl _ | apply List.Sublist.cons_cons | apply List.Sublist.cons)) (by simp [It.rids]) ?_
              refine boo_no fun h => ?_
              obtain ⟨h4, h5, h6, ⟨h7, h8, h9, h10, h11⟩, ⟨h12, h13, h14⟩, ⟨h15, h16, h17⟩⟩ := h
              have h00 : 0 < c.points.length := by omega
              have h18 := h9 _ (List.getElem?_eq_getElem h00)
              have h19 : isSeq c.view := ⟨by omega, by omega⟩
              first | omega | simp_all
            · intro hc49
              refine SX.val rfl (Val.fieldAddr tabOk rfl rfl rfl rfl rfl) (by first | (simp [mids, It.mids, ownPc]; done) | (intro k hk; simp [mids, It.mids, ownPc] at hk ⊢; grind)) rfl rfl ?_
              refine SX.val rfl (Val.load1 tabOk rfl rfl (by first | (apply Or.inl; (repeat (first | assumption | exact List.mem_cons_self | apply List.mem_cons_of_mem)); done) | (apply Or.inr; (repeat (first | assumption | exact List.mem_cons_self | apply List.mem_cons_of_mem)); done)) List.not_mem_nil (by rfl)) (by first | (simp [mids, It.mids, ownPc]; done) | (intro k hk; simp [mids, It.mids, ownPc] at hk ⊢; grind)) rfl rfl ?_
              first
                | refine SX.val rfl (Val.lenSl rfl Try.underlying78 (List.length_map _)) (by first | (simp [mids, It.mids, ownPc]; done) | (intro k hk; simp [mids, It.mids, ownPc] at hk ⊢; grind)) rfl rfl ?_
                | refine SX.val rfl (Val.lenOwn rfl (by repeat (first | assumption | exact List.mem_cons_self | apply List.mem_cons_of_mem)) Try.underlying78 (List.length_map _)) (by first | (simp [mids, It.mids, ownPc]; done) | (intro k hk; simp [mids, It.mids, ownPc] at hk ⊢; grind)) rfl rfl ?_
                | refine SX.val rfl (Val.lenNil rfl Try.underlying78) (by first | (simp [mids, It.mids, ownPc]; done) | (intro k hk; simp [mids, It.mids, ownPc] at hk ⊢; grind)) rfl rfl ?_
              refine SX.val rfl (Val.gtI rfl rfl) (by first | (simp [mids, It.mids, ownPc]; done) | (intro k hk; simp [mids, It.mids, ownPc] at hk ⊢; grind)) rfl rfl ?_
              refine SX.val rfl (Val.pickF rfl rfl) (by first | (simp [mids, It.mids, ownPc]; done) | (intro k hk; simp [mids, It.mids, ownPc] at hk ⊢; grind)) rfl rfl ?_
              refine SX.val rfl (Val.move rfl) (by first | (simp [mids, It.mids, ownPc]; done) | (intro k hk; simp [mids, It.mids, ownPc] at hk ⊢; grind)) rfl rfl ?_
              refine SX.bothP (t := 55) rfl ?_ ?_
              · intro hc55
                refine SX.skip rfl rfl rfl ?_
                refine SX.skip rfl rfl rfl ?_
                refine SX.skip rfl rfl rfl ?_
                refine SX.skip rfl rfl rfl ?_
                refine SX.val rfl (Val.pickT rfl rfl) (by first | (simp [mids, It.mids, ownPc]; done) | (intro k hk; simp [mids, It.mids, ownPc] at hk ⊢; grind)) rfl rfl ?_
                refine SX.nil ?_
                refine SE.seq ?_
                refine SC.condT rfl ?_
                refine SC.seq ?_
                refine SC.region ?_
                refine SL.val (Val.assign rfl) rfl rfl ?_
                refine SL.nil ?_
                refine SE.seq ?_
                refine SC.ret ?_
                refine SE.then_ (by intro h; cases h) ?_
                refine SE.fin (rs := [.tmp 4]) rfl (RV.tmp rfl RV.nil) (()) (by repeat (first | exact List.nil_sublist _ | exact List.Sublist.refl _ | apply List.Sublist.cons_cons | apply List.Sublist.cons)) (by simp [It.rids]) ?_
                refine boo_no fun h => ?_
                obtain ⟨h4, h5, h6, ⟨h7, h8, h9, h10, h11⟩, ⟨h12, h13, h14⟩, ⟨h15, h16, h17⟩⟩ := h
                have h00 : 0 < c.points.length := by omega
                have h18 := h9 _ (List.getElem?_eq_getElem h00)
                have h19 : isSeq c.view := ⟨by omega, by omega⟩
                first | omega | simp_all
              · intro hc55
                refine SX.val rfl (Val.fieldAddr tabOk rfl rfl rfl rfl rfl) (by first | (simp [mids, It.mids, ownPc]; done) | (intro k hk; simp [mids, It.mids, ownPc] at hk ⊢; grind)) rfl rfl ?_
                refine SX.val rfl (Val.load1 tabOk rfl rfl (by first | (apply Or.inl; (repeat (first | assumption | exact List.mem_cons_self | apply List.mem_cons_of_mem)); done) | (apply Or.inr; (repeat (first | assumption | exact List.mem_cons_self | apply List.mem_cons_of_mem)); done)) List.not_mem_nil (by rfl)) (by first | (simp [mids, It.mids, ownPc]; done) | (intro k hk; simp [mids, It.mids, ownPc] at hk ⊢; grind)) rfl rfl ?_
                first
                  | refine SX.val rfl (Val.lenSl rfl Try.underlying78 (List.length_map _)) (by first | (simp [mids, It.mids, ownPc]; done) | (intro k hk; simp [mids, It.mids, ownPc] at hk ⊢; grind)) rfl rfl ?_
                  | refine SX.val rfl (Val.lenOwn rfl (by repeat (first | assumption | exact List.mem_cons_self | apply List.mem_cons_of_mem)) Try.underlying78 (List.length_map _)) (by first | (simp [mids, It.mids, ownPc]; done) | (intro k hk; simp [mids, It.mids, ownPc] at hk ⊢; grind)) rfl rfl ?_
                  | refine SX.val rfl (Val.lenNil rfl Try.underlying78) (by first | (simp [mids, It.mids, ownPc]; done) | (intro k hk; simp [mids, It.mids, ownPc] at hk ⊢; grind)) rfl rfl ?_
                refine SX.val rfl (Val.gtI rfl rfl) (by first | (simp [mids, It.mids, ownPc]; done) | (intro k hk; simp [mids, It.mids, ownPc] at hk ⊢; grind)) rfl rfl ?_
                refine SX.val rfl (Val.pickF rfl rfl) (by first | (simp [mids, It.mids, ownPc]; done) | (intro k hk; simp [mids, It.mids, ownPc] at hk ⊢; grind)) rfl rfl ?_
                refine SX.nil ?_
                refine SE.seq ?_
                refine SC.condP rfl ?_ ?_
                · intro hc60
                  refine SC.seq ?_
                  refine SC.region ?_
                  refine SL.val (Val.assign rfl) rfl rfl ?_
                  refine SL.nil ?_
                  refine SE.seq ?_
                  refine SC.ret ?_
                  refine SE.then_ (by intro h; cases h) ?_
                  refine SE.fin (rs := [.tmp 4]) rfl (RV.tmp rfl RV.nil) (()) (by repeat (first | exact List.nil_sublist _ | exact List.Sublist.refl _ | apply List.Sublist.cons_cons | apply List.Sublist.cons)) (by simp [It.rids]) ?_
                  refine boo_no fun h => ?_
                  obtain ⟨h4, h5, h6, ⟨h7, h8, h9, h10, h11⟩, ⟨h12, h13, h14⟩, ⟨h15, h16, h17⟩⟩ := h
                  have h00 : 0 < c.points.length := by omega
                  have h18 := h9 _ (List.getElem?_eq_getElem h00)
                  have h19 : isSeq c.view := ⟨by omega, by omega⟩
                  first | omega | simp_all
                · intro hc60
                  have hm : isMark c.low := by simp_all
                  have hlen : 1 ≤ c.points.length ∧ c.points.length ≤ 4 ∧ c.prepared.length ≤ 8 ∧ c.proposed.length ≤ 64 := by omega
                  have h00 : 0 < c.points.length := by omega
                  have hview : 1 ≤ c.view ∧ c.view ≤ 1048576 := by unfold isSeq at *; omega
                  have hp0 : c.points[0].seq = c.low := by omega
                  refine SC.skip ?_
                  refine SE.seq ?_
                  refine SC.seq ?_
                  refine SC.seq ?_
                  refine SC.region ?_
                  refine SL.val (Val.fieldAddr tabOk rfl rfl rfl rfl rfl) rfl rfl ?_
                  refine SL.val (Val.load1 tabOk rfl rfl (by first | (apply Or.inl; (repeat (first | assumption | exact List.mem_cons_self | apply List.mem_cons_of_mem)); done) | (apply Or.inr; (repeat (first | assumption | exact List.mem_cons_self | apply List.mem_cons_of_mem)); done)) List.not_mem_nil (by rfl)) rfl rfl ?_
                  first
                    | refine SL.val (Val.lenSl rfl Try.underlying77 (List.length_map _)) rfl rfl ?_
                    | refine SL.val (Val.lenOwn rfl (by repeat (first | assumption | exact List.mem_cons_self | apply List.mem_cons_of_mem)) Try.underlying77 (List.length_map _)) rfl rfl ?_
                    | refine SL.val (Val.lenNil rfl Try.underlying77) rfl rfl ?_
                  refine SL.val (Val.move rfl) rfl rfl ?_
                  refine SL.nil ?_
                  refine SE.seq ?_
                  refine SC.block ?_
                  refine SC.loop (ι := Nat) (fun z => [.blk b2 80 c.abs]) (fun z => [(1, int n), (2, ptr b2), (62, .sl 33 (c.points.map Pnt.abs)), (63, int (c.points.length : Nat)), (64, int (z : Nat))]) (fun z => z ≤ c.points.length ∧ ∀ j (hj : j < c.points.length), j < z → isMark c.points[j].seq ∧ (∀ h0 : 0 < j, c.points[j - 1].seq < c.points[j].seq)) (fun z => c.points.length - z) (0) (⟨Nat.zero_le _, by omega⟩) (by exact ⟨rfl, rfl, rfl, rfl, rfl, trivial⟩) (by repeat (first | exact List.nil_sublist _ | exact List.Sublist.refl _ | apply List.Sublist.cons_cons | apply List.Sublist.cons)) ?_
                  intro z hz
                  refine SC.seq ?_
                  refine SC.region ?_
                  refine SL.val (Val.ltI rfl rfl) rfl rfl ?_
                  refine SL.nil ?_
                  refine SE.seq ?_
                  refine SC.seq ?_
                  refine SC.condP rfl ?_ ?_
                  · intro hc65
                    have hlt : z < c.points.length := by omega
                    refine SC.skip ?_
                    refine SE.seq ?_
                    refine SC.seq ?_
                    refine SC.block ?_
                    refine SC.seq ?_
                    refine SC.region ?_
                    refine SL.val (Val.move rfl) rfl rfl ?_
                    refine SL.val (Val.indexSl tabOk Try.underlying77 rfl rfl rfl rfl (at_map (by omega)) rfl rfl) rfl rfl ?_
                    refine SL.val (Val.loadAR tabOk rfl rfl rfl (Pnt.size _)) rfl rfl ?_
                    refine SL.eff (Eff.alloc tabOk rfl) rfl rfl ?_
                    rintro _ _ ⟨b6, rfl, rfl⟩
                    refine SL.val (Val.assign rfl) rfl rfl ?_
                    refine SL.eff (Eff.store (L' := (c.points[z]'hlt).abs) tabOk rfl rfl rfl (by repeat (first | assumption | exact Upd.here | apply Upd.there)) (Pnt.size _) (Nat.le_of_ble_eq_true (by rfl)) (Pnt.ones _) (by exact putL_all (Pnt.size _))) rfl rfl ?_
                    rintro _ _ ⟨rfl, rfl⟩
                    refine SL.nil ?_
                    refine SE.seq ?_
                    refine SC.seq ?_
                    refine SC.draw [] (.q 0 (.q 1 (.e 2 (.q 3 (.q 4 (.q 5 (.q 6 (.q 7 (.q 8 (.q 9 (.q 10 (.q 11 (.q 12 (.q 13 (.q 14 (.q 15 (.q 16 (.q 17 (.q 18 (.q 19 .nil)))))))))))))))))))) (by kernel_rfl) (by kernel_rfl) ?_
                    refine SX.val rfl (Val.fieldAddr tabOk rfl rfl rfl rfl rfl) (by first | (simp [mids, It.mids, ownPc]; done) | (intro k hk; simp [mids, It.mids, ownPc] at hk ⊢; grind)) rfl rfl ?_
                    refine SX.val rfl (Val.load1 tabOk rfl rfl (by first | (apply Or.inl; (repeat (first | assumption | exact List.mem_cons_self | apply List.mem_cons_of_mem)); done) | (apply Or.inr; (repeat (first | assumption | exact List.mem_cons_self | apply List.mem_cons_of_mem)); done)) List.not_mem_nil (by rfl)) (by first | (simp [mids, It.mids, ownPc]; done) | (intro k hk; simp [mids, It.mids, ownPc] at hk ⊢; grind)) rfl rfl ?_
                    refine SX.call rfl (rmark_s (x := (c.points[z]'hlt).seq)) (by simp [mids, It.mids]) Casts.refl (by kernel_rfl) rfl rfl rfl ?_
                    refine After.pure (by repeat (first | exact Reads.nil | refine Reads.blk (by repeat (first | assumption | exact List.mem_cons_self | apply List.mem_cons_of_mem)) ?_ | refine Reads.rd (by repeat (first | assumption | exact List.mem_cons_self | apply List.mem_cons_of_mem)) ?_ | refine Reads.pc (by repeat (first | assumption | exact List.mem_cons_self | apply List.mem_cons_of_mem)) ?_ | refine Reads.rdpc (by repeat (first | assumption | exact List.mem_cons_self | apply List.mem_cons_of_mem)) ?_)) (fun _ => rfl) ?_
                    intro _
                    refine SX.val rfl (Val.notP rfl) (by first | (simp [mids, It.mids, ownPc]; done) | (intro k hk; simp [mids, It.mids, ownPc] at hk ⊢; grind)) rfl rfl ?_
                    refine SX.val rfl (Val.move rfl) (by first | (simp [mids, It.mids, ownPc]; done) | (intro k hk; simp [mids, It.mids, ownPc] at hk ⊢; grind)) rfl rfl ?_
                    refine SX.bothP (t := 73) rfl ?_ ?_
                    · intro hc73
                      refine SX.skip rfl rfl rfl ?_
                      refine SX.skip rfl rfl rfl ?_
                      refine SX.skip rfl rfl rfl ?_
                      refine SX.skip rfl rfl rfl ?_
                      refine SX.skip rfl rfl rfl ?_
                      refine SX.skip rfl rfl rfl ?_
                      refine SX.skip rfl rfl rfl ?_
                      refine SX.skip rfl rfl rfl ?_
                      refine SX.skip rfl rfl rfl ?_
                      refine SX.skip rfl rfl rfl ?_
                      refine SX.skip rfl rfl rfl ?_
                      refine SX.skip rfl rfl rfl ?_
                      refine SX.skip rfl rfl rfl ?_
                      refine SX.skip rfl rfl rfl ?_
                      refine SX.val rfl (Val.pickT rfl rfl) (by first | (simp [mids, It.mids, ownPc]; done) | (intro k hk; simp [mids, It.mids, ownPc] at hk ⊢; grind)) rfl rfl ?_
                      refine SX.nil ?_
                      refine SE.seq ?_
                      refine SC.condT rfl ?_
                      refine SC.seq ?_
                      refine SC.region ?_
                      refine SL.val (Val.assign rfl) rfl rfl ?_
                      refine SL.nil ?_
                      refine SE.seq ?_
                      refine SC.ret ?_
                      refine SE.ret ?_
                      refine SE.then_ (by intro h; cases h) ?_
                      refine SE.then_ (by intro h; cases h) ?_
                      refine SE.ret ?_
                      refine SE.then_ (by intro h; cases h) ?_
                      refine SE.fin (rs := [.tmp 4]) rfl (RV.tmp rfl RV.nil) (()) (by repeat (first | exact List.nil_sublist _ | exact List.Sublist.refl _ | apply List.Sublist.cons_cons | apply List.Sublist.cons)) (by simp [It.rids]) ?_
                      refine boo_no fun h => ?_
                      have m1 := h.2.2.2.1.2.2.2.1 _ (List.getElem_mem hlt)
                      have m2 : 0 < z → c.points[z - 1].seq < c.points[z].seq := fun h0 => of_decide_eq_true (rises_at h.2.2.2.1.2.2.2.2 h0 hlt)
                      first | omega | exact absurd m1 (by assumption) | simp_all
                    · intro hc73
                      refine SX.val rfl (Val.move rfl) (by first | (simp [mids, It.mids, ownPc]; done) | (intro k hk; simp [mids, It.mids, ownPc] at hk ⊢; grind)) rfl rfl ?_
                      refine SX.val rfl (Val.gtI rfl rfl) (by first | (simp [mids, It.mids, ownPc]; done) | (intro k hk; simp [mids, It.mids, ownPc] at hk ⊢; grind)) rfl rfl ?_
                      refine SX.val rfl (Val.move rfl) (by first | (simp [mids, It.mids, ownPc]; done) | (intro k hk; simp [mids, It.mids, ownPc] at hk ⊢; grind)) rfl rfl ?_
                      refine SX.bothP (t := 76) rfl ?_ ?_
                      · intro hc76
                        refine SX.val rfl (Val.fieldAddr tabOk rfl rfl rfl rfl rfl) (by first | (simp [mids, It.mids, ownPc]; done) | (intro k hk; simp [mids, It.mids, ownPc] at hk ⊢; grind)) rfl rfl ?_
                        refine SX.val rfl (Val.load1 tabOk rfl rfl (by first | (apply Or.inl; (repeat (first | assumption | exact List.mem_cons_self | apply List.mem_cons_of_mem)); done) | (apply Or.inr; (repeat (first | assumption | exact List.mem_cons_self | apply List.mem_cons_of_mem)); done)) List.not_mem_nil (by rfl)) (by first | (simp [mids, It.mids, ownPc]; done) | (intro k hk; simp [mids, It.mids, ownPc] at hk ⊢; grind)) rfl rfl ?_
                        refine SX.val rfl (Val.move rfl) (by first | (simp [mids, It.mids, ownPc]; done) | (intro k hk; simp [mids, It.mids, ownPc] at hk ⊢; grind)) rfl rfl ?_
                        first
                          | refine SX.val rfl (Val.subI rfl rfl (by simp only [InR, lo, hi]; omega)) (by first | (simp [mids, It.mids, ownPc]; done) | (intro k hk; simp [mids, It.mids, ownPc] at hk ⊢; grind)) rfl rfl ?_
                          | refine SX.val rfl (Val.subW rfl rfl) (by first | (simp [mids, It.mids, ownPc]; done) | (intro k hk; simp [mids, It.mids, ownPc] at hk ⊢; grind)) rfl rfl ?_
                        refine SX.val rfl (Val.indexSl (q := z - 1) tabOk Try.underlying77 rfl rfl rfl (by omega) (at_map (by omega)) rfl rfl) (by first | (simp [mids, It.mids, ownPc]; done) | (intro k hk; simp [mids, It.mids, ownPc] at hk ⊢; grind)) rfl rfl ?_
                        refine SX.val rfl (Val.fieldAddrR tabOk rfl rfl rfl rfl rfl) (by first | (simp [mids, It.mids, ownPc]; done) | (intro k hk; simp [mids, It.mids, ownPc] at hk ⊢; grind)) rfl rfl ?_
                        refine SX.val rfl (Val.load1R tabOk rfl rfl rfl) (by first | (simp [mids, It.mids, ownPc]; done) | (intro k hk; simp [mids, It.mids, ownPc] at hk ⊢; grind)) rfl rfl ?_
                        refine SX.val rfl (Val.fieldAddr tabOk rfl rfl rfl rfl rfl) (by first | (simp [mids, It.mids, ownPc]; done) | (intro k hk; simp [mids, It.mids, ownPc] at hk ⊢; grind)) rfl rfl ?_
                        refine SX.val rfl (Val.load1 tabOk rfl rfl (by first | (apply Or.inl; (repeat (first | assumption | exact List.mem_cons_self | apply List.mem_cons_of_mem)); done) | (apply Or.inr; (repeat (first | assumption | exact List.mem_cons_self | apply List.mem_cons_of_mem)); done)) List.not_mem_nil (by rfl)) (by first | (simp [mids, It.mids, ownPc]; done) | (intro k hk; simp [mids, It.mids, ownPc] at hk ⊢; grind)) rfl rfl ?_
                        refine SX.val rfl (Val.geI rfl rfl) (by first | (simp [mids, It.mids, ownPc]; done) | (intro k hk; simp [mids, It.mids, ownPc] at hk ⊢; grind)) rfl rfl ?_
                        refine SX.val rfl (Val.pickT rfl rfl) (by first | (simp [mids, It.mids, ownPc]; done) | (intro k hk; simp [mids, It.mids, ownPc] at hk ⊢; grind)) rfl rfl ?_
                        refine SX.val rfl (Val.pickF rfl rfl) (by first | (simp [mids, It.mids, ownPc]; done) | (intro k hk; simp [mids, It.mids, ownPc] at hk ⊢; grind)) rfl rfl ?_
                        refine SX.nil ?_
                        refine SE.seq ?_
                        refine SC.condP rfl ?_ ?_
                        · intro hc88
                          refine SC.seq ?_
                          refine SC.region ?_
                          refine SL.val (Val.assign rfl) rfl rfl ?_
                          refine SL.nil ?_
                          refine SE.seq ?_
                          refine SC.ret ?_
                          refine SE.ret ?_
                          refine SE.then_ (by intro h; cases h) ?_
                          refine SE.then_ (by intro h; cases h) ?_
                          refine SE.ret ?_
                          refine SE.then_ (by intro h; cases h) ?_
                          refine SE.fin (rs := [.tmp 4]) rfl (RV.tmp rfl RV.nil) (()) (by repeat (first | exact List.nil_sublist _ | exact List.Sublist.refl _ | apply List.Sublist.cons_cons | apply List.Sublist.cons)) (by simp [It.rids]) ?_
                          refine boo_no fun h => ?_
                          have m1 := h.2.2.2.1.2.2.2.1 _ (List.getElem_mem hlt)
                          have m2 : 0 < z → c.points[z - 1].seq < c.points[z].seq := fun h0 => of_decide_eq_true (rises_at h.2.2.2.1.2.2.2.2 h0 hlt)
                          first | omega | exact absurd m1 (by assumption) | simp_all
                        · intro hc88
                          refine SC.skip ?_
                          refine SE.inBlock ?_
                          refine SE.seq ?_
                          refine SC.region ?_
                          first
                            | refine SL.val (Val.addI rfl rfl (by simp only [InR, lo, hi]; omega)) rfl rfl ?_
                            | refine SL.val (Val.addW rfl rfl) rfl rfl ?_
                          refine SL.val (Val.move rfl) rfl rfl ?_
                          refine SL.nil ?_
                          refine SE.round (z + 1) (by first | omega | (dsimp only; omega)) (⟨by omega, fun j hj hjz => by
                            rcases Nat.lt_or_ge j z with h1 | h1
                            · exact hz.2 j hj h1
                            obtain rfl : j = z := (by omega)
                            simp_all⟩) (by exact ⟨rfl, rfl, rfl, rfl, rfl, trivial⟩) (by repeat (first | exact List.nil_sublist _ | exact List.Sublist.refl _ | apply List.Sublist.cons_cons | apply List.Sublist.cons))
                      · intro hc76
                        refine SX.skip rfl rfl rfl ?_
                        refine SX.skip rfl rfl rfl ?_
                        refine SX.skip rfl rfl rfl ?_
                        refine SX.skip rfl rfl rfl ?_
                        refine SX.skip rfl rfl rfl ?_
                        refine SX.skip rfl rfl rfl ?_
                        refine SX.skip rfl rfl rfl ?_
                        refine SX.skip rfl rfl rfl ?_
                        refine SX.skip rfl rfl rfl ?_
                        refine SX.skip rfl rfl rfl ?_
                        refine SX.val rfl (Val.pickF rfl rfl) (by first | (simp [mids, It.mids, ownPc]; done) | (intro k hk; simp [mids, It.mids, ownPc] at hk ⊢; grind)) rfl rfl ?_
                        refine SX.val rfl (Val.pickF rfl rfl) (by first | (simp [mids, It.mids, ownPc]; done) | (intro k hk; simp [mids, It.mids, ownPc] at hk ⊢; grind)) rfl rfl ?_
                        refine SX.nil ?_
                        refine SE.seq ?_
                        refine SC.condF rfl ?_
                        refine SC.skip ?_
                        refine SE.inBlock ?_
                        refine SE.seq ?_
                        refine SC.region ?_
                        first
                          | refine SL.val (Val.addI rfl rfl (by simp only [InR, lo, hi]; omega)) rfl rfl ?_
                          | refine SL.val (Val.addW rfl rfl) rfl rfl ?_
                        refine SL.val (Val.move rfl) rfl rfl ?_
                        refine SL.nil ?_
                        refine SE.round (z + 1) (by first | omega | (dsimp only; omega)) (⟨by omega, fun j hj hjz => by
                          rcases Nat.lt_or_ge j z with h1 | h1
                          · exact hz.2 j hj h1
                          obtain rfl : j = z := (by omega)
                          simp_all⟩) (by exact ⟨rfl, rfl, rfl, rfl, rfl, trivial⟩) (by repeat (first | exact List.nil_sublist _ | exact List.Sublist.refl _ | apply List.Sublist.cons_cons | apply List.Sublist.cons))
                  · intro hc65
                    have hallp := hz.2
                    have hzp := hz.1
                    have hcp := hc65
                    refine SC.exit ?_
                    refine SE.then_ (by intro h; cases h) ?_
                    refine SE.then_ (by intro h; cases h) ?_
                    refine SE.exit ?_
                    refine SE.seq ?_
                    refine SC.seq ?_
                    refine SC.seq ?_
                    refine SC.region ?_
                    refine SL.val (Val.fieldAddr tabOk rfl rfl rfl rfl rfl) rfl rfl ?_
                    refine SL.val (Val.load1 tabOk rfl rfl (by first | (apply Or.inl; (repeat (first | assumption | exact List.mem_cons_self | apply List.mem_cons_of_mem)); done) | (apply Or.inr; (repeat (first | assumption | exact List.mem_cons_self | apply List.mem_cons_of_mem)); done)) List.not_mem_nil (by rfl)) rfl rfl ?_
                    first
                      | refine SL.val (Val.lenSl rfl Try.underlying78 (List.length_map _)) rfl rfl ?_
                      | refine SL.val (Val.lenOwn rfl (by repeat (first | assumption | exact List.mem_cons_self | apply List.mem_cons_of_mem)) Try.underlying78 (List.length_map _)) rfl rfl ?_
                      | refine SL.val (Val.lenNil rfl Try.underlying78) rfl rfl ?_
                    refine SL.val (Val.move rfl) rfl rfl ?_
                    refine SL.nil ?_
                    refine SE.seq ?_
                    refine SC.block ?_
                    refine SC.loop (ι := Nat) (fun z => [.blk b2 80 c.abs]) (fun z => [(1, int n), (2, ptr b2), (91, .sl 3 (c.prepared.map Prf.abs)), (92, int (c.prepared.length : Nat)), (93, int (z : Nat))]) (fun z => z ≤ c.prepared.length ∧ ∀ j (hj : j < c.prepared.length), j < z → c.prepared[j].fits c.low c.view n ∧ (∀ h0 : 0 < j, c.prepared[j - 1].lt c.prepared[j])) (fun z => c.prepared.length - z) (0) (⟨Nat.zero_le _, by omega⟩) (by exact ⟨rfl, rfl, rfl, rfl, rfl, trivial⟩) (by repeat (first | exact List.nil_sublist _ | exact List.Sublist.refl _ | apply List.Sublist.cons_cons | apply List.Sublist.cons)) ?_
                    intro z hz
                    refine SC.seq ?_
                    refine SC.region ?_
                    refine SL.val (Val.ltI rfl rfl) rfl rfl ?_
                    refine SL.nil ?_
                    refine SE.seq ?_
                    refine SC.seq ?_
                    refine SC.condP rfl ?_ ?_
                    · intro hc94
                      have hlt : z < c.prepared.length := by omega
                      refine SC.skip ?_
                      refine SE.seq ?_
                      refine SC.seq ?_
                      refine SC.block ?_
                      refine SC.seq ?_
                      refine SC.region ?_
                      refine SL.val (Val.move rfl) rfl rfl ?_
                      refine SL.val (Val.indexSl tabOk Try.underlying78 rfl rfl rfl rfl (at_map (by omega)) rfl rfl) rfl rfl ?_
                      first
                        | refine SL.val (Val.loadAR tabOk rfl rfl rfl (by rfl)) rfl rfl ?_
                        | refine SL.val (Val.loadPR tabOk rfl rfl rfl (Nat.le_of_ble_eq_true (by rfl))) rfl rfl ?_
                      refine SL.eff (Eff.alloc tabOk rfl) rfl rfl ?_
                      rintro _ _ ⟨b8, rfl, rfl⟩
                      refine SL.val (Val.assign rfl) rfl rfl ?_
                      refine SL.eff (Eff.store tabOk rfl rfl rfl (by repeat (first | assumption | exact Upd.here | apply Upd.there)) (by rfl) (Nat.le_of_ble_eq_true (by rfl)) (by rfl) (by rfl)) rfl rfl ?_
                      rintro _ _ ⟨rfl, rfl⟩
                      refine SL.nil ?_
                      refine SE.seq ?_
                      refine SC.seq ?_
                      refine SC.draw [] (.q 0 (.q 1 (.q 2 (.e 3 (.q 4 (.q 5 (.q 6 (.q 7 (.q 8 (.q 9 (.q 10 (.q 11 (.q 12 (.q 13 (.q 14 (.q 15 (.q 16 (.q 17 (.q 18 (.q 19 (.q 20 .nil))))))))))))))))))))) (by kernel_rfl) (by kernel_rfl) ?_
                      first
                        | refine SX.val rfl (Val.loadA tabOk rfl rfl rfl (by first | (apply Or.inl; (repeat (first | assumption | exact List.mem_cons_self | apply List.mem_cons_of_mem)); done) | (apply Or.inr; (repeat (first | assumption | exact List.mem_cons_self | apply List.mem_cons_of_mem)); done)) List.not_mem_nil (by rfl)) (by first | (simp [mids, It.mids, ownPc]; done) | (intro k hk; simp [mids, It.mids, ownPc] at hk ⊢; grind)) rfl rfl ?_
                        | refine SX.val rfl (Val.loadP tabOk rfl rfl rfl (by first | (apply Or.inl; (repeat (first | assumption | exact List.mem_cons_self | apply List.mem_cons_of_mem)); done) | (apply Or.inr; (repeat (first | assumption | exact List.mem_cons_self | apply List.mem_cons_of_mem)); done)) List.not_mem_nil (Nat.le_of_ble_eq_true (by rfl))) (by first | (simp [mids, It.mids, ownPc]; done) | (intro k hk; simp [mids, It.mids, ownPc] at hk ⊢; grind)) rfl rfl ?_
                      first
                        | refine SX.val rfl (Val.loadA tabOk rfl rfl rfl (by first | (apply Or.inl; (repeat (first | assumption | exact List.mem_cons_self | apply List.mem_cons_of_mem)); done) | (apply Or.inr; (repeat (first | assumption | exact List.mem_cons_self | apply List.mem_cons_of_mem)); done)) List.not_mem_nil (by rfl)) (by first | (simp [mids, It.mids, ownPc]; done) | (intro k hk; simp [mids, It.mids, ownPc] at hk ⊢; grind)) rfl rfl ?_
                        | refine SX.val rfl (Val.loadP tabOk rfl rfl rfl (by first | (apply Or.inl; (repeat (first | assumption | exact List.mem_cons_self | apply List.mem_cons_of_mem)); done) | (apply Or.inr; (repeat (first | assumption | exact List.mem_cons_self | apply List.mem_cons_of_mem)); done)) List.not_mem_nil (Nat.le_of_ble_eq_true (by rfl))) (by first | (simp [mids, It.mids, ownPc]; done) | (intro k hk; simp [mids, It.mids, ownPc] at hk ⊢; grind)) rfl rfl ?_
                      refine SX.val rfl (Val.move rfl) (by first | (simp [mids, It.mids, ownPc]; done) | (intro k hk; simp [mids, It.mids, ownPc] at hk ⊢; grind)) rfl rfl ?_
                      refine SX.call rfl (rproof_s (p := (c.prepared[z]'hlt)) (c := c) (n := n) (h1.2 _ (List.getElem_mem hlt)) (g1 _ (List.getElem_mem hlt)) hm) (by simp [mids, It.mids]) Casts.refl (by kernel_rfl) rfl rfl rfl ?_
                      refine After.pure (by repeat (first | exact Reads.nil | refine Reads.blk (by repeat (first | assumption | exact List.mem_cons_self | apply List.mem_cons_of_mem)) ?_ | refine Reads.rd (by repeat (first | assumption | exact List.mem_cons_self | apply List.mem_cons_of_mem)) ?_ | refine Reads.pc (by repeat (first | assumption | exact List.mem_cons_self | apply List.mem_cons_of_mem)) ?_ | refine Reads.rdpc (by repeat (first | assumption | exact List.mem_cons_self | apply List.mem_cons_of_mem)) ?_)) (fun _ => rfl) ?_
                      intro _
                      refine SX.val rfl (Val.notB rfl) (by first | (simp [mids, It.mids, ownPc]; done) | (intro k hk; simp [mids, It.mids, ownPc] at hk ⊢; grind)) rfl rfl ?_
                      refine SX.val rfl (Val.move rfl) (by first | (simp [mids, It.mids, ownPc]; done) | (intro k hk; simp [mids, It.mids, ownPc] at hk ⊢; grind)) rfl rfl ?_
                      refine SX.both (t := 103) rfl ?_ ?_
                      · intro hc103
                        refine SX.skip rfl rfl rfl ?_
                        refine SX.skip rfl rfl rfl ?_
                        refine SX.skip rfl rfl rfl ?_
                        refine SX.skip rfl rfl rfl ?_
                        refine SX.skip rfl rfl rfl ?_
                        refine SX.skip rfl rfl rfl ?_
                        refine SX.skip rfl rfl rfl ?_
                        refine SX.skip rfl rfl rfl ?_
                        refine SX.skip rfl rfl rfl ?_
                        refine SX.skip rfl rfl rfl ?_
                        refine SX.skip rfl rfl rfl ?_
                        refine SX.skip rfl rfl rfl ?_
                        refine SX.skip rfl rfl rfl ?_
                        refine SX.skip rfl rfl rfl ?_
                        refine SX.val rfl (Val.pickT rfl rfl) (by first | (simp [mids, It.mids, ownPc]; done) | (intro k hk; simp [mids, It.mids, ownPc] at hk ⊢; grind)) rfl rfl ?_
                        refine SX.nil ?_
                        refine SE.seq ?_
                        refine SC.condT rfl ?_
                        refine SC.seq ?_
                        refine SC.region ?_
                        refine SL.val (Val.assign rfl) rfl rfl ?_
                        refine SL.nil ?_
                        refine SE.seq ?_
                        refine SC.ret ?_
                        refine SE.ret ?_
                        refine SE.then_ (by intro h; cases h) ?_
                        refine SE.then_ (by intro h; cases h) ?_
                        refine SE.ret ?_
                        refine SE.then_ (by intro h; cases h) ?_
                        refine SE.fin (rs := [.tmp 4]) rfl (RV.tmp rfl RV.nil) (()) (by repeat (first | exact List.nil_sublist _ | exact List.Sublist.refl _ | apply List.Sublist.cons_cons | apply List.Sublist.cons)) (by simp [It.rids]) ?_
                        refine boo_no fun h => ?_
                        have m1 := h.2.2.2.2.1.2.2 _ (List.getElem_mem hlt)
                        have m2 : 0 < z → c.prepared[z - 1].lt c.prepared[z] := fun h0 => of_decide_eq_true (rises_at h.2.2.2.2.1.2.1 h0 hlt)
                        unfold Prf.lt at m2
                        first | omega | (have m3 := yes_iff.2 m1; simp_all)
                      · intro hc103
                        refine SX.val rfl (Val.move rfl) (by first | (simp [mids, It.mids, ownPc]; done) | (intro k hk; simp [mids, It.mids, ownPc] at hk ⊢; grind)) rfl rfl ?_
                        refine SX.val rfl (Val.gtI rfl rfl) (by first | (simp [mids, It.mids, ownPc]; done) | (intro k hk; simp [mids, It.mids, ownPc] at hk ⊢; grind)) rfl rfl ?_
                        refine SX.val rfl (Val.move rfl) (by first | (simp [mids, It.mids, ownPc]; done) | (intro k hk; simp [mids, It.mids, ownPc] at hk ⊢; grind)) rfl rfl ?_
                        refine SX.bothP (t := 106) rfl ?_ ?_
                        · intro hc106
                          refine SX.val rfl (Val.fieldAddr tabOk rfl rfl rfl rfl rfl) (by first | (simp [mids, It.mids, ownPc]; done) | (intro k hk; simp [mids, It.mids, ownPc] at hk ⊢; grind)) rfl rfl ?_
                          refine SX.val rfl (Val.load1 tabOk rfl rfl (by first | (apply Or.inl; (repeat (first | assumption | exact List.mem_cons_self | apply List.mem_cons_of_mem)); done) | (apply Or.inr; (repeat (first | assumption | exact List.mem_cons_self | apply List.mem_cons_of_mem)); done)) List.not_mem_nil (by rfl)) (by first | (simp [mids, It.mids, ownPc]; done) | (intro k hk; simp [mids, It.mids, ownPc] at hk ⊢; grind)) rfl rfl ?_
                          refine SX.val rfl (Val.move rfl) (by first | (simp [mids, It.mids, ownPc]; done) | (intro k hk; simp [mids, It.mids, ownPc] at hk ⊢; grind)) rfl rfl ?_
                          first
                            | refine SX.val rfl (Val.subI rfl rfl (by simp only [InR, lo, hi]; omega)) (by first | (simp [mids, It.mids, ownPc]; done) | (intro k hk; simp [mids, It.mids, ownPc] at hk ⊢; grind)) rfl rfl ?_
                            | refine SX.val rfl (Val.subW rfl rfl) (by first | (simp [mids, It.mids, ownPc]; done) | (intro k hk; simp [mids, It.mids, ownPc] at hk ⊢; grind)) rfl rfl ?_
                          refine SX.val rfl (Val.indexSl (q := z - 1) tabOk Try.underlying78 rfl rfl rfl (by omega) (at_map (by omega)) rfl rfl) (by first | (simp [mids, It.mids, ownPc]; done) | (intro k hk; simp [mids, It.mids, ownPc] at hk ⊢; grind)) rfl rfl ?_
                          refine SX.val rfl (Val.fieldAddrR tabOk rfl rfl rfl rfl rfl) (by first | (simp [mids, It.mids, ownPc]; done) | (intro k hk; simp [mids, It.mids, ownPc] at hk ⊢; grind)) rfl rfl ?_
                          refine SX.val rfl (Val.load1R tabOk rfl rfl rfl) (by first | (simp [mids, It.mids, ownPc]; done) | (intro k hk; simp [mids, It.mids, ownPc] at hk ⊢; grind)) rfl rfl ?_
                          refine SX.val rfl (Val.fieldAddr tabOk rfl rfl rfl rfl rfl) (by first | (simp [mids, It.mids, ownPc]; done) | (intro k hk; simp [mids, It.mids, ownPc] at hk ⊢; grind)) rfl rfl ?_
                          refine SX.val rfl (Val.load1 tabOk rfl rfl (by first | (apply Or.inl; (repeat (first | assumption | exact List.mem_cons_self | apply List.mem_cons_of_mem)); done) | (apply Or.inr; (repeat (first | assumption | exact List.mem_cons_self | apply List.mem_cons_of_mem)); done)) List.not_mem_nil (by rfl)) (by first | (simp [mids, It.mids, ownPc]; done) | (intro k hk; simp [mids, It.mids, ownPc] at hk ⊢; grind)) rfl rfl ?_
                          refine SX.val rfl (Val.geI rfl rfl) (by first | (simp [mids, It.mids, ownPc]; done) | (intro k hk; simp [mids, It.mids, ownPc] at hk ⊢; grind)) rfl rfl ?_
                          refine SX.val rfl (Val.pickT rfl rfl) (by first | (simp [mids, It.mids, ownPc]; done) | (intro k hk; simp [mids, It.mids, ownPc] at hk ⊢; grind)) rfl rfl ?_
                          refine SX.val rfl (Val.pickF rfl rfl) (by first | (simp [mids, It.mids, ownPc]; done) | (intro k hk; simp [mids, It.mids, ownPc] at hk ⊢; grind)) rfl rfl ?_
                          refine SX.nil ?_
                          refine SE.seq ?_
                          refine SC.condP rfl ?_ ?_
                          · intro hc118
                            refine SC.seq ?_
                            refine SC.region ?_
                            refine SL.val (Val.assign rfl) rfl rfl ?_
                            refine SL.nil ?_
                            refine SE.seq ?_
                            refine SC.ret ?_
                            refine SE.ret ?_
                            refine SE.then_ (by intro h; cases h) ?_
                            refine SE.then_ (by intro h; cases h) ?_
                            refine SE.ret ?_
                            refine SE.then_ (by intro h; cases h) ?_
                            refine SE.fin (rs := [.tmp 4]) rfl (RV.tmp rfl RV.nil) (()) (by repeat (first | exact List.nil_sublist _ | exact List.Sublist.refl _ | apply List.Sublist.cons_cons | apply List.Sublist.cons)) (by simp [It.rids]) ?_
                            refine boo_no fun h => ?_
                            have m1 := h.2.2.2.2.1.2.2 _ (List.getElem_mem hlt)
                            have m2 : 0 < z → c.prepared[z - 1].lt c.prepared[z] := fun h0 => of_decide_eq_true (rises_at h.2.2.2.2.1.2.1 h0 hlt)
                            unfold Prf.lt at m2
                            first | omega | (have m3 := yes_iff.2 m1; simp_all)
                          · intro hc118
                            refine SC.skip ?_
                            refine SE.inBlock ?_
                            refine SE.seq ?_
                            refine SC.region ?_
                            first
                              | refine SL.val (Val.addI rfl rfl (by simp only [InR, lo, hi]; omega)) rfl rfl ?_
                              | refine SL.val (Val.addW rfl rfl) rfl rfl ?_
                            refine SL.val (Val.move rfl) rfl rfl ?_
                            refine SL.nil ?_
                            refine SE.round (z + 1) (by first | omega | (dsimp only; omega)) (⟨by omega, fun j hj hjz => by
                              rcases Nat.lt_or_ge j z with h1 | h1
                              · exact hz.2 j hj h1
                              obtain rfl : j = z := (by omega)
                              exact ⟨yes_iff.1 (by simpa using hc103), fun h0 => by unfold Prf.lt; omega⟩⟩) (by exact ⟨rfl, rfl, rfl, rfl, rfl, trivial⟩) (by repeat (first | exact List.nil_sublist _ | exact List.Sublist.refl _ | apply List.Sublist.cons_cons | apply List.Sublist.cons))
                        · intro hc106
                          refine SX.skip rfl rfl rfl ?_
                          refine SX.skip rfl rfl rfl ?_
                          refine SX.skip rfl rfl rfl ?_
                          refine SX.skip rfl rfl rfl ?_
                          refine SX.skip rfl rfl rfl ?_
                          refine SX.skip rfl rfl rfl ?_
                          refine SX.skip rfl rfl rfl ?_
                          refine SX.skip rfl rfl rfl ?_
                          refine SX.skip rfl rfl rfl ?_
                          refine SX.skip rfl rfl rfl ?_
                          refine SX.val rfl (Val.pickF rfl rfl) (by first | (simp [mids, It.mids, ownPc]; done) | (intro k hk; simp [mids, It.mids, ownPc] at hk ⊢; grind)) rfl rfl ?_
                          refine SX.val rfl (Val.pickF rfl rfl) (by first | (simp [mids, It.mids, ownPc]; done) | (intro k hk; simp [mids, It.mids, ownPc] at hk ⊢; grind)) rfl rfl ?_
                          refine SX.nil ?_
                          refine SE.seq ?_
                          refine SC.condF rfl ?_
                          refine SC.skip ?_
                          refine SE.inBlock ?_
                          refine SE.seq ?_
                          refine SC.region ?_
                          first
                            | refine SL.val (Val.addI rfl rfl (by simp only [InR, lo, hi]; omega)) rfl rfl ?_
                            | refine SL.val (Val.addW rfl rfl) rfl rfl ?_
                          refine SL.val (Val.move rfl) rfl rfl ?_
                          refine SL.nil ?_
                          refine SE.round (z + 1) (by first | omega | (dsimp only; omega)) (⟨by omega, fun j hj hjz => by
                            rcases Nat.lt_or_ge j z with h1 | h1
                            · exact hz.2 j hj h1
                            obtain rfl : j = z := (by omega)
                            exact ⟨yes_iff.1 (by simpa using hc103), fun h0 => by unfold Prf.lt; omega⟩⟩) (by exact ⟨rfl, rfl, rfl, rfl, rfl, trivial⟩) (by repeat (first | exact List.nil_sublist _ | exact List.Sublist.refl _ | apply List.Sublist.cons_cons | apply List.Sublist.cons))
                    · intro hc94
                      have hall := hz.2
                      have hza := hz.1
                      have hca := hc94
                      refine SC.exit ?_
                      refine SE.then_ (by intro h; cases h) ?_
                      refine SE.then_ (by intro h; cases h) ?_
                      refine SE.exit ?_
                      refine SE.seq ?_
                      refine SC.seq ?_
                      refine SC.seq ?_
                      refine SC.region ?_
                      refine SL.val (Val.fieldAddr tabOk rfl rfl rfl rfl rfl) rfl rfl ?_
                      refine SL.val (Val.load1 tabOk rfl rfl (by first | (apply Or.inl; (repeat (first | assumption | exact List.mem_cons_self | apply List.mem_cons_of_mem)); done) | (apply Or.inr; (repeat (first | assumption | exact List.mem_cons_self | apply List.mem_cons_of_mem)); done)) List.not_mem_nil (by rfl)) rfl rfl ?_
                      first
                        | refine SL.val (Val.lenSl rfl Try.underlying78 (List.length_map _)) rfl rfl ?_
                        | refine SL.val (Val.lenOwn rfl (by repeat (first | assumption | exact List.mem_cons_self | apply List.mem_cons_of_mem)) Try.underlying78 (List.length_map _)) rfl rfl ?_
                        | refine SL.val (Val.lenNil rfl Try.underlying78) rfl rfl ?_
                      refine SL.val (Val.move rfl) rfl rfl ?_
                      refine SL.nil ?_
                      refine SE.seq ?_
                      refine SC.block ?_
                      refine SC.loop (ι := Nat) (fun z => [.blk b2 80 c.abs]) (fun z => [(1, int n), (2, ptr b2), (121, .sl 3 (c.proposed.map Prf.abs)), (122, int (c.proposed.length : Nat)), (123, int (z : Nat))]) (fun z => z ≤ c.proposed.length ∧ ∀ j (hj : j < c.proposed.length), j < z → c.proposed[j].fits c.low c.view n ∧ (∀ h0 : 0 < j, c.proposed[j - 1].lt2 c.proposed[j])) (fun z => c.proposed.length - z) (0) (⟨Nat.zero_le _, by omega⟩) (by exact ⟨rfl, rfl, rfl, rfl, rfl, trivial⟩) (by repeat (first | exact List.nil_sublist _ | exact List.Sublist.refl _ | apply List.Sublist.cons_cons | apply List.Sublist.cons)) ?_
                      intro z hz
                      refine SC.seq ?_
                      refine SC.region ?_
                      refine SL.val (Val.ltI rfl rfl) rfl rfl ?_
                      refine SL.nil ?_
                      refine SE.seq ?_
                      refine SC.seq ?_
                      refine SC.condP rfl ?_ ?_
                      · intro hc124
                        have hlt : z < c.proposed.length := by omega
                        refine SC.skip ?_
                        refine SE.seq ?_
                        refine SC.seq ?_
                        refine SC.block ?_
                        refine SC.seq ?_
                        refine SC.region ?_
                        refine SL.val (Val.move rfl) rfl rfl ?_
                        refine SL.val (Val.indexSl tabOk Try.underlying78 rfl rfl rfl rfl (at_map (by omega)) rfl rfl) rfl rfl ?_
                        first
                          | refine SL.val (Val.loadAR tabOk rfl rfl rfl (by rfl)) rfl rfl ?_
                          | refine SL.val (Val.loadPR tabOk rfl rfl rfl (Nat.le_of_ble_eq_true (by rfl))) rfl rfl ?_
                        refine SL.eff (Eff.alloc tabOk rfl) rfl rfl ?_
                        rintro _ _ ⟨b10, rfl, rfl⟩
                        refine SL.val (Val.assign rfl) rfl rfl ?_
                        refine SL.eff (Eff.store tabOk rfl rfl rfl (by repeat (first | assumption | exact Upd.here | apply Upd.there)) (by rfl) (Nat.le_of_ble_eq_true (by rfl)) (by rfl) (by rfl)) rfl rfl ?_
                        rintro _ _ ⟨rfl, rfl⟩
                        refine SL.nil ?_
                        refine SE.seq ?_
                        refine SC.seq ?_
                        refine SC.seq ?_
                        refine SC.region ?_
                        first
                          | refine SL.val (Val.loadA tabOk rfl rfl rfl (by first | (apply Or.inl; (repeat (first | assumption | exact List.mem_cons_self | apply List.mem_cons_of_mem)); done) | (apply Or.inr; (repeat (first | assumption | exact List.mem_cons_self | apply List.mem_cons_of_mem)); done)) List.not_mem_nil (by rfl)) rfl rfl ?_
                          | refine SL.val (Val.loadP tabOk rfl rfl rfl (by first | (apply Or.inl; (repeat (first | assumption | exact List.mem_cons_self | apply List.mem_cons_of_mem)); done) | (apply Or.inr; (repeat (first | assumption | exact List.mem_cons_self | apply List.mem_cons_of_mem)); done)) List.not_mem_nil (Nat.le_of_ble_eq_true (by rfl))) rfl rfl ?_
                        first
                          | refine SL.val (Val.loadA tabOk rfl rfl rfl (by first | (apply Or.inl; (repeat (first | assumption | exact List.mem_cons_self | apply List.mem_cons_of_mem)); done) | (apply Or.inr; (repeat (first | assumption | exact List.mem_cons_self | apply List.mem_cons_of_mem)); done)) List.not_mem_nil (by rfl)) rfl rfl ?_
                          | refine SL.val (Val.loadP tabOk rfl rfl rfl (by first | (apply Or.inl; (repeat (first | assumption | exact List.mem_cons_self | apply List.mem_cons_of_mem)); done) | (apply Or.inr; (repeat (first | assumption | exact List.mem_cons_self | apply List.mem_cons_of_mem)); done)) List.not_mem_nil (Nat.le_of_ble_eq_true (by rfl))) rfl rfl ?_
                        refine SL.val (Val.move rfl) rfl rfl ?_
                        refine SL.call (rproof_s (p := (c.proposed[z]'hlt)) (c := c) (n := n) (h2.2 _ (List.getElem_mem hlt)) (g2 _ (List.getElem_mem hlt)) hm) Casts.refl (by kernel_rfl) rfl rfl rfl ?_
                        refine After.pure (by repeat (first | exact Reads.nil | refine Reads.blk (by repeat (first | assumption | exact List.mem_cons_self | apply List.mem_cons_of_mem)) ?_ | refine Reads.rd (by repeat (first | assumption | exact List.mem_cons_self | apply List.mem_cons_of_mem)) ?_ | refine Reads.pc (by repeat (first | assumption | exact List.mem_cons_self | apply List.mem_cons_of_mem)) ?_ | refine Reads.rdpc (by repeat (first | assumption | exact List.mem_cons_self | apply List.mem_cons_of_mem)) ?_)) (fun _ => rfl) ?_
                        intro _
                        refine SL.val (Val.notB rfl) rfl rfl ?_
                        refine SL.nil ?_
                        refine SE.seq ?_
                        refine SC.cond rfl ?_ ?_
                        · intro hc132
                          refine SC.seq ?_
                          refine SC.region ?_
                          refine SL.val (Val.assign rfl) rfl rfl ?_
                          refine SL.nil ?_
                          refine SE.seq ?_
                          refine SC.ret ?_
                          refine SE.then_ (by intro h; cases h) ?_
                          refine SE.ret ?_
                          refine SE.then_ (by intro h; cases h) ?_
                          refine SE.then_ (by intro h; cases h) ?_
                          refine SE.ret ?_
                          refine SE.then_ (by intro h; cases h) ?_
                          refine SE.fin (rs := [.tmp 4]) rfl (RV.tmp rfl RV.nil) (()) (by repeat (first | exact List.nil_sublist _ | exact List.Sublist.refl _ | apply List.Sublist.cons_cons | apply List.Sublist.cons)) (by simp [It.rids]) ?_
                          refine boo_no fun h => ?_
                          have m1 := h.2.2.2.2.2.2.2 _ (List.getElem_mem hlt)
                          have m3 := yes_iff.2 m1
                          simp_all
                        · intro hc132
                          refine SC.skip ?_
                          refine SE.seq ?_
                          refine SC.seq ?_
                          refine SC.region ?_
                          refine SL.val (Val.move rfl) rfl rfl ?_
                          refine SL.val (Val.gtI rfl rfl) rfl rfl ?_
                          refine SL.nil ?_
                          refine SE.seq ?_
                          refine SC.condP rfl ?_ ?_
                          · intro hc134
                            refine SC.seq ?_
                            refine SC.region ?_
                            refine SL.val (Val.fieldAddr tabOk rfl rfl rfl rfl rfl) rfl rfl ?_
                            refine SL.val (Val.load1 tabOk rfl rfl (by first | (apply Or.inl; (repeat (first | assumption | exact List.mem_cons_self | apply List.mem_cons_of_mem)); done) | (apply Or.inr; (repeat (first | assumption | exact List.mem_cons_self | apply List.mem_cons_of_mem)); done)) List.not_mem_nil (by rfl)) rfl rfl ?_
                            refine SL.val (Val.move rfl) rfl rfl ?_
                            first
                              | refine SL.val (Val.subI rfl rfl (by simp only [InR, lo, hi]; omega)) rfl rfl ?_
                              | refine SL.val (Val.subW rfl rfl) rfl rfl ?_
                            refine SL.val (Val.indexSl (q := z - 1) tabOk Try.underlying78 rfl rfl rfl (by omega) (at_map (by omega)) rfl rfl) rfl rfl ?_
                            first
                              | refine SL.val (Val.loadAR tabOk rfl rfl rfl (by rfl)) rfl rfl ?_
                              | refine SL.val (Val.loadPR tabOk rfl rfl rfl (Nat.le_of_ble_eq_true (by rfl))) rfl rfl ?_
                            refine SL.eff (Eff.alloc tabOk rfl) rfl rfl ?_
                            rintro _ _ ⟨b11, rfl, rfl⟩
                            refine SL.eff (Eff.store tabOk rfl rfl rfl (by repeat (first | assumption | exact Upd.here | apply Upd.there)) (by rfl) (Nat.le_of_ble_eq_true (by rfl)) (by rfl) (by rfl)) rfl rfl ?_
                            rintro _ _ ⟨rfl, rfl⟩
                            refine SL.nil ?_
                            refine SE.seq ?_
                            refine SC.seq ?_
                            refine SC.region ?_
                            refine SL.val (Val.fieldAddr tabOk rfl rfl rfl rfl rfl) rfl rfl ?_
                            refine SL.val (Val.load1 tabOk rfl rfl (by first | (apply Or.inl; (repeat (first | assumption | exact List.mem_cons_self | apply List.mem_cons_of_mem)); done) | (apply Or.inr; (repeat (first | assumption | exact List.mem_cons_self | apply List.mem_cons_of_mem)); done)) List.not_mem_nil (by rfl)) rfl rfl ?_
                            refine SL.val (Val.fieldAddr tabOk rfl rfl rfl rfl rfl) rfl rfl ?_
                            refine SL.val (Val.load1 tabOk rfl rfl (by first | (apply Or.inl; (repeat (first | assumption | exact List.mem_cons_self | apply List.mem_cons_of_mem)); done) | (apply Or.inr; (repeat (first | assumption | exact List.mem_cons_self | apply List.mem_cons_of_mem)); done)) List.not_mem_nil (by rfl)) rfl rfl ?_
                            refine SL.val (Val.gtI rfl rfl) rfl rfl ?_
                            refine SL.val (Val.move rfl) rfl rfl ?_
                            refine SL.bothP (t := 146) rfl ?_ ?_
                            · intro hc146
                              refine SL.skip rfl rfl ?_
                              refine SL.skip rfl rfl ?_
                              refine SL.skip rfl rfl ?_
                              refine SL.skip rfl rfl ?_
                              refine SL.skip rfl rfl ?_
                              refine SL.skip rfl rfl ?_
                              refine SL.skip rfl rfl ?_
                              refine SL.skip rfl rfl ?_
                              refine SL.skip rfl rfl ?_
                              refine SL.skip rfl rfl ?_
                              refine SL.skip rfl rfl ?_
                              refine SL.skip rfl rfl ?_
                              refine SL.val (Val.pickT rfl rfl) rfl rfl ?_
                              refine SL.nil ?_
                              refine SE.seq ?_
                              refine SC.condT rfl ?_
                              refine SC.seq ?_
                              refine SC.region ?_
                              refine SL.val (Val.assign rfl) rfl rfl ?_
                              refine SL.nil ?_
                              refine SE.seq ?_
                              refine SC.ret ?_
                              refine SE.ret ?_
                              refine SE.then_ (by intro h; cases h) ?_
                              refine SE.then_ (by intro h; cases h) ?_
                              refine SE.ret ?_
                              refine SE.then_ (by intro h; cases h) ?_
                              refine SE.fin (rs := [.tmp 4]) rfl (RV.tmp rfl RV.nil) (()) (by repeat (first | exact List.nil_sublist _ | exact List.Sublist.refl _ | apply List.Sublist.cons_cons | apply List.Sublist.cons)) (by simp [It.rids]) ?_
                              refine boo_no fun h => ?_
                              have m2 : 0 < z → c.proposed[z - 1].lt2 c.proposed[z] := fun h0 => of_decide_eq_true (rises_at h.2.2.2.2.2.2.1 h0 hlt)
                              unfold Prf.lt2 at m2
                              omega
                            · intro hc146
                              refine SL.val (Val.fieldAddr tabOk rfl rfl rfl rfl rfl) rfl rfl ?_
                              refine SL.val (Val.load1 tabOk rfl rfl (by first | (apply Or.inl; (repeat (first | assumption | exact List.mem_cons_self | apply List.mem_cons_of_mem)); done) | (apply Or.inr; (repeat (first | assumption | exact List.mem_cons_self | apply List.mem_cons_of_mem)); done)) List.not_mem_nil (by rfl)) rfl rfl ?_
                              refine SL.val (Val.fieldAddr tabOk rfl rfl rfl rfl rfl) rfl rfl ?_
                              refine SL.val (Val.load1 tabOk rfl rfl (by first | (apply Or.inl; (repeat (first | assumption | exact List.mem_cons_self | apply List.mem_cons_of_mem)); done) | (apply Or.inr; (repeat (first | assumption | exact List.mem_cons_self | apply List.mem_cons_of_mem)); done)) List.not_mem_nil (by rfl)) rfl rfl ?_
                              refine SL.val (Val.eqI rfl rfl) rfl rfl ?_
                              refine SL.val (Val.move rfl) rfl rfl ?_
                              refine SL.bothP (t := 152) rfl ?_ ?_
                              · intro hc152
                                refine SL.val (Val.fieldAddr tabOk rfl rfl rfl rfl rfl) rfl rfl ?_
                                refine SL.val (Val.load1 tabOk rfl rfl (by first | (apply Or.inl; (repeat (first | assumption | exact List.mem_cons_self | apply List.mem_cons_of_mem)); done) | (apply Or.inr; (repeat (first | assumption | exact List.mem_cons_self | apply List.mem_cons_of_mem)); done)) List.not_mem_nil (by rfl)) rfl rfl ?_
                                refine SL.val (Val.fieldAddr tabOk rfl rfl rfl rfl rfl) rfl rfl ?_
                                refine SL.val (Val.load1 tabOk rfl rfl (by first | (apply Or.inl; (repeat (first | assumption | exact List.mem_cons_self | apply List.mem_cons_of_mem)); done) | (apply Or.inr; (repeat (first | assumption | exact List.mem_cons_self | apply List.mem_cons_of_mem)); done)) List.not_mem_nil (by rfl)) rfl rfl ?_
                                refine SL.val (Val.geI rfl rfl) rfl rfl ?_
                                refine SL.val (Val.pickT rfl rfl) rfl rfl ?_
                                refine SL.val (Val.pickF rfl rfl) rfl rfl ?_
                                refine SL.nil ?_
                                refine SE.seq ?_
                                refine SC.condP rfl ?_ ?_
                                · intro hc159
                                  refine SC.seq ?_
                                  refine SC.region ?_
                                  refine SL.val (Val.assign rfl) rfl rfl ?_
                                  refine SL.nil ?_
                                  refine SE.seq ?_
                                  refine SC.ret ?_
                                  refine SE.ret ?_
                                  refine SE.then_ (by intro h; cases h) ?_
                                  refine SE.then_ (by intro h; cases h) ?_
                                  refine SE.ret ?_
                                  refine SE.then_ (by intro h; cases h) ?_
                                  refine SE.fin (rs := [.tmp 4]) rfl (RV.tmp rfl RV.nil) (()) (by repeat (first | exact List.nil_sublist _ | exact List.Sublist.refl _ | apply List.Sublist.cons_cons | apply List.Sublist.cons)) (by simp [It.rids]) ?_
                                  refine boo_no fun h => ?_
                                  have m2 : 0 < z → c.proposed[z - 1].lt2 c.proposed[z] := fun h0 => of_decide_eq_true (rises_at h.2.2.2.2.2.2.1 h0 hlt)
                                  unfold Prf.lt2 at m2
                                  omega
                                · intro hc159
                                  refine SC.skip ?_
                                  refine SE.inBlock ?_
                                  refine SE.seq ?_
                                  refine SC.region ?_
                                  first
                                    | refine SL.val (Val.addI rfl rfl (by simp only [InR, lo, hi]; omega)) rfl rfl ?_
                                    | refine SL.val (Val.addW rfl rfl) rfl rfl ?_
                                  refine SL.val (Val.move rfl) rfl rfl ?_
                                  refine SL.nil ?_
                                  refine SE.round (z + 1) (by first | omega | (dsimp only; omega)) (⟨by omega, fun j hj hjz => by
                                    rcases Nat.lt_or_ge j z with h1 | h1
                                    · exact hz.2 j hj h1
                                    obtain rfl : j = z := (by omega)
                                    exact ⟨yes_iff.1 (by simpa using hc132), fun h0 => by unfold Prf.lt2; omega⟩⟩) (by exact ⟨rfl, rfl, rfl, rfl, rfl, trivial⟩) (by repeat (first | exact List.nil_sublist _ | exact List.Sublist.refl _ | apply List.Sublist.cons_cons | apply List.Sublist.cons))
                              · intro hc152
                                refine SL.skip rfl rfl ?_
                                refine SL.skip rfl rfl ?_
                                refine SL.skip rfl rfl ?_
                                refine SL.skip rfl rfl ?_
                                refine SL.skip rfl rfl ?_
                                refine SL.val (Val.pickF rfl rfl) rfl rfl ?_
                                refine SL.val (Val.pickF rfl rfl) rfl rfl ?_
                                refine SL.nil ?_
                                refine SE.seq ?_
                                refine SC.condF rfl ?_
                                refine SC.skip ?_
                                refine SE.inBlock ?_
                                refine SE.seq ?_
                                refine SC.region ?_
                                first
                                  | refine SL.val (Val.addI rfl rfl (by simp only [InR, lo, hi]; omega)) rfl rfl ?_
                                  | refine SL.val (Val.addW rfl rfl) rfl rfl ?_
                                refine SL.val (Val.move rfl) rfl rfl ?_
                                refine SL.nil ?_
                                refine SE.round (z + 1) (by first | omega | (dsimp only; omega)) (⟨by omega, fun j hj hjz => by
                                  rcases Nat.lt_or_ge j z with h1 | h1
                                  · exact hz.2 j hj h1
                                  obtain rfl : j = z := (by omega)
                                  exact ⟨yes_iff.1 (by simpa using hc132), fun h0 => by unfold Prf.lt2; omega⟩⟩) (by exact ⟨rfl, rfl, rfl, rfl, rfl, trivial⟩) (by repeat (first | exact List.nil_sublist _ | exact List.Sublist.refl _ | apply List.Sublist.cons_cons | apply List.Sublist.cons))
                          · intro hc134
                            refine SC.skip ?_
                            refine SE.inBlock ?_
                            refine SE.seq ?_
                            refine SC.region ?_
                            first
                              | refine SL.val (Val.addI rfl rfl (by simp only [InR, lo, hi]; omega)) rfl rfl ?_
                              | refine SL.val (Val.addW rfl rfl) rfl rfl ?_
                            refine SL.val (Val.move rfl) rfl rfl ?_
                            refine SL.nil ?_
                            refine SE.round (z + 1) (by first | omega | (dsimp only; omega)) (⟨by omega, fun j hj hjz => by
                              rcases Nat.lt_or_ge j z with h1 | h1
                              · exact hz.2 j hj h1
                              obtain rfl : j = z := (by omega)
                              exact ⟨yes_iff.1 (by simpa using hc132), fun h0 => by unfold Prf.lt2; omega⟩⟩) (by exact ⟨rfl, rfl, rfl, rfl, rfl, trivial⟩) (by repeat (first | exact List.nil_sublist _ | exact List.Sublist.refl _ | apply List.Sublist.cons_cons | apply List.Sublist.cons))
                      · intro hc124
                        refine SC.exit ?_
                        refine SE.then_ (by intro h; cases h) ?_
                        refine SE.then_ (by intro h; cases h) ?_
                        refine SE.exit ?_
                        refine SE.seq ?_
                        refine SC.seq ?_
                        refine SC.region ?_
                        refine SL.val (Val.assign rfl) rfl rfl ?_
                        refine SL.nil ?_
                        refine SE.seq ?_
                        refine SC.ret ?_
                        refine SE.fin (rs := [.tmp 4]) rfl (RV.tmp rfl RV.nil) (()) (by repeat (first | exact List.nil_sublist _ | exact List.Sublist.refl _ | apply List.Sublist.cons_cons | apply List.Sublist.cons)) (by simp [It.rids]) ?_
                        refine boo_yes ⟨fun _ => ?_, fun _ => rfl⟩
                        refine ⟨hview.1, hview.2, hm, ⟨hlen.1, hlen.2.1, fun p hp => by rw [List.getElem?_eq_getElem h00] at hp; cases hp; exact hp0, fun p hp => ?_, fun j hj => ?_⟩, ⟨by omega, fun j hj => ?_, fun p hp => ?_⟩, ⟨by omega, fun j hj => ?_, fun p hp => ?_⟩⟩
                        · obtain ⟨j, hj, rfl⟩ := List.getElem_of_mem hp
                          exact (hallp j hj (by omega)).1
                        · exact decide_eq_true ((hallp (j + 1) hj (by omega)).2 (by omega))
                        · exact decide_eq_true ((hall (j + 1) hj (by omega)).2 (by omega))
                        · obtain ⟨j, hj, rfl⟩ := List.getElem_of_mem hp
                          exact (hall j hj (by omega)).1
                        · exact decide_eq_true ((hz.2 (j + 1) hj (by omega)).2 (by omega))
                        · obtain ⟨j, hj, rfl⟩ := List.getElem_of_mem hp
                          exact (hz.2 j hj (by omega)).1
theorem rcheck_s (h1 : Long c.prepared) (h2 : Long c.proposed) (h3 : c.points.length < 9223372036854775807) (g1 : Lets c.prepared) (g2 : Lets c.proposed) : Spec Try.prog 61 [.agg c.abs, int n] [] (fun _ : Unit => []) (fun _ => int (c.check n)) := by
  refine spec_of Try.func61 rfl Try.ntmps61 rfl fun G w => ?_
  refine SC.seq ?_
  refine SC.region ?_
  refine SL.eff (Eff.boxA rfl) rfl rfl ?_
  rintro _ _ ⟨b2, rfl, rfl⟩
  refine SL.val (Val.assign rfl) rfl rfl ?_
  refine SL.nil ?_
  refine SE.seq ?_
  refine SC.seq ?_
  refine SC.seq ?_
  refine SC.region ?_
  refine SL.val (Val.move rfl) rfl rfl ?_
  refine SL.val (Val.ltI rfl rfl) rfl rfl ?_
  refine SL.val (Val.move rfl) rfl rfl ?_
  refine SL.bothP (t := 7) rfl ?_ ?_
  · intro hc7
    refine SL.skip rfl rfl ?_
    refine SL.skip rfl rfl ?_
    refine SL.val (Val.pickT rfl rfl) rfl rfl ?_
    refine SL.nil ?_
    refine SE.seq ?_
    refine SC.condT rfl ?_
    refine SC.seq ?_
    refine SC.region ?_
    refine SL.val (Val.assign rfl) rfl rfl ?_
    refine SL.nil ?_
    refine SE.seq ?_
    refine SC.ret ?_
    refine SE.then_ (by intro h; cases h) ?_
    refine SE.fin (rs := [.tmp 4]) rfl (RV.tmp rfl RV.nil) (()) (by repeat (first | exact List.nil_sublist _ | exact List.Sublist.refl _ | apply List.Sublist.cons_cons | apply List.Sublist.cons)) (by simp [It.rids]) ?_
    refine congrArg int ?_
    unfold Chg.check
    first
      | (rw [if_pos (by omega)])
      | (rw [if_neg (by omega)]; simp_all)
  · intro hc7
    refine SL.val (Val.move rfl) rfl rfl ?_
    refine SL.val (Val.gtI rfl rfl) rfl rfl ?_
    refine SL.val (Val.pickF rfl rfl) rfl rfl ?_
    refine SL.nil ?_
    refine SE.seq ?_
    refine SC.condP rfl ?_ ?_
    · intro hc10
      refine SC.seq ?_
      refine SC.region ?_
      refine SL.val (Val.assign rfl) rfl rfl ?_
      refine SL.nil ?_
      refine SE.seq ?_
      refine SC.ret ?_
      refine SE.then_ (by intro h; cases h) ?_
      refine SE.fin (rs := [.tmp 4]) rfl (RV.tmp rfl RV.nil) (()) (by repeat (first | exact List.nil_sublist _ | exact List.Sublist.refl _ | apply List.Sublist.cons_cons | apply List.Sublist.cons)) (by simp [It.rids]) ?_
      refine congrArg int ?_
      unfold Chg.check
      first
        | (rw [if_pos (by omega)])
        | (rw [if_neg (by omega)]; simp_all)
    · intro hc10
      refine SC.skip ?_
      refine SE.seq ?_
      refine SC.seq ?_
      refine SC.seq ?_
      refine SC.region ?_
      first
        | refine SL.val (Val.loadA tabOk rfl rfl rfl (by first | (apply Or.inl; (repeat (first | assumption | exact List.mem_cons_self | apply List.mem_cons_of_mem)); done) | (apply Or.inr; (repeat (first | assumption | exact List.mem_cons_self | apply List.mem_cons_of_mem)); done)) List.not_mem_nil (by rfl)) rfl rfl ?_
        | refine SL.val (Val.loadP tabOk rfl rfl rfl (by first | (apply Or.inl; (repeat (first | assumption | exact List.mem_cons_self | apply List.mem_cons_of_mem)); done) | (apply Or.inr; (repeat (first | assumption | exact List.mem_cons_self | apply List.mem_cons_of_mem)); done)) List.not_mem_nil (Nat.le_of_ble_eq_true (by rfl))) rfl rfl ?_
      refine SL.val (Val.move rfl) rfl rfl ?_
      refine SL.call (right_s (n := n) h1 h2 h3 g1 g2) Casts.refl (by kernel_rfl) rfl rfl rfl ?_
      refine After.pure (by repeat (first | exact Reads.nil | refine Reads.blk (by repeat (first | assumption | exact List.mem_cons_self | apply List.mem_cons_of_mem)) ?_ | refine Reads.rd (by repeat (first | assumption | exact List.mem_cons_self | apply List.mem_cons_of_mem)) ?_ | refine Reads.pc (by repeat (first | assumption | exact List.mem_cons_self | apply List.mem_cons_of_mem)) ?_ | refine Reads.rdpc (by repeat (first | assumption | exact List.mem_cons_self | apply List.mem_cons_of_mem)) ?_)) (fun _ => rfl) ?_
      intro _
      refine SL.val (Val.notB rfl) rfl rfl ?_
      refine SL.nil ?_
      refine SE.seq ?_
      refine SC.cond rfl ?_ ?_
      · intro hc14
        refine SC.seq ?_
        refine SC.region ?_
        refine SL.val (Val.assign rfl) rfl rfl ?_
        refine SL.nil ?_
        refine SE.seq ?_
        refine SC.ret ?_
        refine SE.then_ (by intro h; cases h) ?_
        refine SE.fin (rs := [.tmp 4]) rfl (RV.tmp rfl RV.nil) (()) (by repeat (first | exact List.nil_sublist _ | exact List.Sublist.refl _ | apply List.Sublist.cons_cons | apply List.Sublist.cons)) (by simp [It.rids]) ?_
        refine congrArg int ?_
        unfold Chg.check
        first
          | (rw [if_pos (by omega)])
          | (rw [if_neg (by omega)]; simp_all)
      · intro hc14
        refine SC.skip ?_
        refine SE.seq ?_
        refine SC.seq ?_
        refine SC.region ?_
        refine SL.val (Val.assign rfl) rfl rfl ?_
        refine SL.nil ?_
        refine SE.seq ?_
        refine SC.ret ?_
        refine SE.fin (rs := [.tmp 4]) rfl (RV.tmp rfl RV.nil) (()) (by repeat (first | exact List.nil_sublist _ | exact List.Sublist.refl _ | apply List.Sublist.cons_cons | apply List.Sublist.cons)) (by simp [It.rids]) ?_
        refine congrArg int ?_
        unfold Chg.check
        first
          | (rw [if_pos (by omega)])
          | (rw [if_neg (by omega)]; simp_all)
end
end Go.Proofs.Ytdbeinbgekdnmaa.A
