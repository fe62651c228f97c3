/-
  Packed out of the texts: CO6, CO7, LedK, LedL, TDoc, TM5.
-/
import Derived.Test.YtkeapnefdjkhoaaGreatDoorQ09
/-
  The document's ledgers: which may be.
-/
set_option maxRecDepth 100000
set_option linter.unusedSimpArgs false
set_option linter.unusedVariables false
namespace Go.Proofs.YtkeapnefdjkhoaaGreatDoor.A
open Go.RowKit

section
variable {l a b : Lg} {x : Ltr} {o : Oc} {k n : Int} {s : ByteArray} {c : Core} {e : Ent} {p : Nat} {es : List Ent} {ls : List Ltr}
set_option maxHeartbeats 2000000 in
theorem letters_s (hs : ∀ x ∈ ls, x.name.size ≤ lots) : Spec Tryz.prog 28 [ltrsA ls] [] (fun _ : Unit => []) (fun _ => boo (decide (LtsR ls ∧ ls.length ≤ 16))) := by
  refine spec_of Tryz.func28 rfl Tryz.ntmps28 rfl fun G w => ?_
  refine SC.seq (SC.region ?_)
  refine SL.val (Val.assign rfl) rfl rfl ?_
  refine SL.nil (SE.seq ?_)
  refine SC.seq ?_
  refine SC.seq (SC.region ?_)
  refine SL.val (Val.move rfl) rfl rfl ?_
  first
    | refine SL.val (Val.lenSl rfl Tryz.underlying22 (List.length_map _)) rfl rfl ?_
    | refine SL.val (Val.lenOwn rfl (by repeat first|assumption|exact m0|apply m1) Tryz.underlying22 (List.length_map _)) rfl rfl ?_
    | refine SL.val (Val.lenNil rfl Tryz.underlying22) rfl rfl ?_
  refine SL.val (Val.move rfl) rfl rfl ?_
  refine SL.nil (SE.seq ?_)
  refine SC.block ?_
  refine SC.rowLe (i := 5) rfl fun hrow => ?_
  rw [List.length_map] at hrow
  unfold maxLen at hrow
  refine SC.loop (ι := Nat) (fun y => []) (fun y => [(0, ltrsA ls), (5, ltrsA ls), (6, int (ls.length : Nat)), (7, int (y : Nat))]) (fun y => y ≤ ls.length ∧ ∀ j (h : j < ls.length), j < y → LtR ls[j] ∧ (0 < j → ltB (ls[j - 1]'(by omega)).name ls[j].name)) (fun y => ls.length - y) (0) (⟨Nat.zero_le _, fun j h h2 => by omega⟩) (by exact ⟨rfl, rfl, rfl, rfl, trivial⟩) (by repeat first|exact s0 _|exact s1 _|apply s2|apply s3) ?_
  intro y hy
  refine SC.seq (SC.region ?_)
  refine SL.val (Val.ltI rfl rfl) rfl rfl ?_
  refine SL.nil (SE.seq ?_)
  refine SC.seq ?_
  refine SC.condP rfl ?_ ?_
  rotate_left
  · intro hc8
    refine SC.exit ?_
    refine SE.then_ (by intro h; cases h) ?_
    refine SE.then_ (by intro h; cases h) ?_
    refine SE.exit ?_
    refine SE.seq ?_
    refine SC.seq (SC.region ?_)
    refine SL.val (Val.move rfl) rfl rfl ?_
    first
      | refine SL.val (Val.lenSl rfl Tryz.underlying22 (List.length_map _)) rfl rfl ?_
      | refine SL.val (Val.lenOwn rfl (by repeat first|assumption|exact m0|apply m1) Tryz.underlying22 (List.length_map _)) rfl rfl ?_
      | refine SL.val (Val.lenNil rfl Tryz.underlying22) rfl rfl ?_
    refine SL.val (Val.leI rfl rfl) rfl rfl ?_
    refine SL.val (Val.assign rfl) rfl rfl ?_
    refine SL.nil (SE.seq ?_)
    refine SC.ret ?_
    refine SE.fin (rs := [.tmp 2]) rfl (RV.tmp rfl RV.nil) (()) (by repeat first|exact s0 _|exact s1 _|apply s2|apply s3) (by simp [It.rids]) ?_
    have hr : LtsR ls := ⟨fun j h => (hy.2 j h (by omega)).1, fun j h => (hy.2 j h (by omega)).2⟩
    refine congrArg (fun b => Abs.v (Value.bool b)) ?_
    rw [decide_eq_decide]
    exact ⟨fun h => ⟨hr, by omega⟩, fun h => by have := h.2; omega⟩
  intro hc8
  have hlt : y < ls.length := by omega
  refine SC.skip ?_
  refine SE.seq ?_
  refine SC.seq ?_
  refine SC.block ?_
  refine SC.seq (SC.region ?_)
  refine SL.val (Val.move rfl) rfl rfl ?_
  refine SL.val (Val.indexSl tabOk Tryz.underlying22 rfl rfl rfl rfl (at_map (by omega)) rfl rfl) rfl rfl ?_
  refine SL.val (Val.loadAR tabOk rfl rfl rfl (by rfl)) rfl rfl ?_
  refine SL.eff (Eff.alloc tabOk rfl) rfl rfl ?_
  rintro _ _ ⟨b4, rfl, rfl⟩
  refine SL.val (Val.assign rfl) rfl rfl ?_
  refine SL.eff (Eff.store (L' := ltrA (ls[y]'hlt)) tabOk rfl rfl rfl (by repeat first|assumption|exact Upd.here|apply Upd.there) rfl (Nat.le_of_ble_eq_true (by rfl)) rfl (by exact putL_whole rfl)) rfl rfl ?_
  rintro _ _ ⟨rfl, rfl⟩
  refine SL.nil (SE.seq ?_)
  refine SC.cutS (ι := Unit) (fun z => [.blk b4 39 (ltrA (ls[y]'hlt))]) (fun z => [(0, ltrsA ls), (5, ltrsA ls), (6, int (ls.length : Nat)), (7, int (y : Nat)), (4, ptr b4)]) (fun z => 0 < y → ltB (ls[y - 1]'(by omega)).name (ls[y]'hlt).name) ?_ ?_
  · skip
    refine SC.seq ?_
    refine SC.draw [] (.q 0 (.q 1 (.q 2 (.q 3 (.q 4 (.q 5 (.q 6 (.q 7 (.q 8 (.q 9 (.q 10 (.q 11 (.q 12 .nil))))))))))))) (by kernel_rfl) (by kernel_rfl) ?_
    refine SX.val rfl (Val.move rfl) (by simp) rfl rfl ?_
    refine SX.val rfl (Val.gtI rfl rfl) (by simp) rfl rfl ?_
    refine SX.val rfl (Val.move rfl) (by simp) rfl rfl ?_
    refine SX.bothP (t := 14) rfl ?_ ?_
    rotate_left
    · intro hc14
      iterate 9 refine SX.skip rfl rfl rfl ?_
      refine SX.val rfl (Val.pickF rfl rfl) (by simp) rfl rfl ?_
      refine SX.nil (SE.seq ?_)
      refine SC.condF rfl ?_
      refine SC.skip ?_
      refine SE.meet (()) (fun h0 => by first | exact Classical.byContradiction hc24 | omega) (by exact ⟨rfl, rfl, rfl, rfl, rfl, trivial⟩) (by repeat first|exact s0 _|exact s1 _|apply s2|apply s3)
    intro hc14
    refine SX.val rfl (Val.move rfl) (by simp) rfl rfl ?_
    refine SX.val rfl (Val.move rfl) (by simp) rfl rfl ?_
    refine SX.hx (by first|(simp[mids,It.mids,ownPc];done)|(intro k hk;simp[mids,It.mids,ownPc] at hk ⊢;grind)) fun hx9 => ?_
    refine SX.val rfl (Val.subI rfl rfl (by simp only [InR, lo, hi]; omega)) hx9 rfl rfl ?_
    refine SX.val rfl (Val.indexSl (q := y - 1) tabOk Tryz.underlying22 rfl rfl rfl (by omega) (at_map (by omega)) rfl rfl) hx9 rfl rfl ?_
    first
      | refine SX.val rfl (Val.fieldAddr tabOk rfl rfl rfl rfl rfl) (by simp) rfl rfl ?_
      | refine SX.val rfl (Val.fieldAddrR tabOk rfl rfl rfl rfl rfl) (by simp) rfl rfl ?_
    first
      | refine SX.val rfl (Val.load1R tabOk rfl rfl rfl) (by simp) rfl rfl ?_
      | refine SX.val rfl (Val.load1 tabOk rfl rfl (by first|(apply Or.inl;(repeat first|assumption|exact m0|apply m1);done)|(apply Or.inr;(repeat first|assumption|exact m0|apply m1);done)) List.not_mem_nil (by rfl)) (by simp) rfl rfl ?_
    refine SX.val rfl (Val.fieldAddr tabOk rfl rfl rfl rfl rfl) (by simp) rfl rfl ?_
    refine SX.val rfl (Val.to (C := st (ls[y]'hlt).name) (Val.load1 tabOk rfl rfl (by first|(apply Or.inl;(repeat first|assumption|exact m0|apply m1);done)|(apply Or.inr;(repeat first|assumption|exact m0|apply m1);done)) List.not_mem_nil (by rfl)) rfl) hx9 rfl rfl ?_
    refine SX.val rfl (Val.geS rfl rfl) hx9 rfl rfl ?_
    refine SX.val rfl (Val.pickT rfl rfl) (by simp) rfl rfl ?_
    refine SX.nil (SE.seq ?_)
    refine SC.condP rfl ?_ ?_
    rotate_left
    · intro hc24
      refine SC.skip ?_
      refine SE.meet (()) (fun h0 => by first | exact Classical.byContradiction hc24 | omega) (by exact ⟨rfl, rfl, rfl, rfl, rfl, trivial⟩) (by repeat first|exact s0 _|exact s1 _|apply s2|apply s3)
    intro hc24
    refine SC.seq (SC.region ?_)
    refine SL.val (Val.assign rfl) rfl rfl ?_
    refine SL.nil (SE.seq ?_)
    refine SC.ret ?_
    refine SE.then_ (by intro h; cases h) ?_
    refine SE.ret ?_
    refine SE.then_ (by intro h; cases h) ?_
    refine SE.then_ (by intro h; cases h) ?_
    refine SE.ret ?_
    refine SE.then_ (by intro h; cases h) ?_
    refine SE.fin (rs := [.tmp 2]) rfl (RV.tmp rfl RV.nil) (()) (by repeat first|exact s0 _|exact s1 _|apply s2|apply s3) (by simp [It.rids]) ?_
    refine boo_dec0 fun he => ?_
    exact hc24 (he.1.rise y hlt (by omega))
  · intro z hz
    refine SC.seq (SC.region ?_)
    refine SL.val (Val.fieldAddr tabOk rfl rfl rfl rfl rfl) rfl rfl ?_
    refine SL.val (Val.to (C := st (ls[y]'hlt).name) (Val.load1 tabOk rfl rfl (by first|(apply Or.inl;(repeat first|assumption|exact m0|apply m1);done)|(apply Or.inr;(repeat first|assumption|exact m0|apply m1);done)) List.not_mem_nil (by rfl)) rfl) rfl rfl ?_
    refine SL.call (risname_s (s := (ls[y]'hlt).name) (hs _ (List.getElem_mem hlt))) Casts.refl (by kernel_rfl) rfl rfl rfl ?_
    refine After.pure (by repeat (first | exact Reads.nil | (refine Reads.blk ?_ ?_; focus ((repeat first|assumption|exact m0|apply m1); done)) | (refine Reads.rd ?_ ?_; focus ((repeat first|assumption|exact m0|apply m1); done)) | (refine Reads.pc ?_ ?_; focus ((repeat first|assumption|exact m0|apply m1); done)) | (refine Reads.rdpc ?_ ?_; focus ((repeat first|assumption|exact m0|apply m1); done)))) (fun _ => rfl) ?_
    intro _
    refine SL.val (Val.notB rfl) rfl rfl ?_
    refine SL.val (Val.move rfl) rfl rfl ?_
    refine SL.both (t := 29) rfl ?_ ?_
    · intro hc29
      iterate 3 refine SL.skip rfl rfl ?_
      refine SL.val (Val.pickT rfl rfl) rfl rfl ?_
      refine SL.val (Val.move rfl) rfl rfl ?_
      iterate 3 refine SL.skip rfl rfl ?_
      refine SL.val (Val.pickT rfl rfl) rfl rfl ?_
      refine SL.val (Val.move rfl) rfl rfl ?_
      iterate 3 refine SL.skip rfl rfl ?_
      refine SL.val (Val.pickT rfl rfl) rfl rfl ?_
      refine SL.val (Val.move rfl) rfl rfl ?_
      iterate 4 refine SL.skip rfl rfl ?_
      refine SL.val (Val.pickT rfl rfl) rfl rfl ?_
      refine SL.val (Val.move rfl) rfl rfl ?_
      iterate 4 refine SL.skip rfl rfl ?_
      refine SL.val (Val.pickT rfl rfl) rfl rfl ?_
      refine SL.val (Val.move rfl) rfl rfl ?_
      iterate 4 refine SL.skip rfl rfl ?_
      refine SL.val (Val.pickT rfl rfl) rfl rfl ?_
      refine SL.val (Val.move rfl) rfl rfl ?_
      iterate 4 refine SL.skip rfl rfl ?_
      refine SL.val (Val.pickT rfl rfl) rfl rfl ?_
      refine SL.nil (SE.seq ?_)
      refine SC.condT rfl ?_
      refine SC.seq (SC.region ?_)
      refine SL.val (Val.assign rfl) rfl rfl ?_
      refine SL.nil (SE.seq ?_)
      refine SC.ret ?_
      refine SE.ret ?_
      refine SE.then_ (by intro h; cases h) ?_
      refine SE.then_ (by intro h; cases h) ?_
      refine SE.ret ?_
      refine SE.then_ (by intro h; cases h) ?_
      refine SE.fin (rs := [.tmp 2]) rfl (RV.tmp rfl RV.nil) (()) (by repeat first|exact s0 _|exact s1 _|apply s2|apply s3) (by simp [It.rids]) ?_
      refine boo_dec0 fun he => ?_
      obtain ⟨g1, ⟨g2, g3⟩, ⟨g4, g5⟩, g6, g7, g8⟩ := he.1.each y hlt
      have g9 : isAmt (ls[y]'hlt).amount = true := isAmt_mk (by omega) g5
      first
        | (simp [g1] at hc29; done)
        | (simp [g9] at hc50; done)
        | (simp [g6] at hc56; done)
        | omega
    intro hc29
    refine SL.val (Val.fieldAddr tabOk rfl rfl rfl rfl rfl) rfl rfl ?_
    refine SL.val (Val.to (C := int (ls[y]'hlt).state) (Val.load1 tabOk rfl rfl (by first|(apply Or.inl;(repeat first|assumption|exact m0|apply m1);done)|(apply Or.inr;(repeat first|assumption|exact m0|apply m1);done)) List.not_mem_nil (by rfl)) rfl) rfl rfl ?_
    refine SL.val (Val.ltI rfl rfl) rfl rfl ?_
    refine SL.val (Val.pickF rfl rfl) rfl rfl ?_
    refine SL.val (Val.move rfl) rfl rfl ?_
    refine SL.bothP (t := 34) rfl ?_ ?_
    · intro hc34
      iterate 3 refine SL.skip rfl rfl ?_
      refine SL.val (Val.pickT rfl rfl) rfl rfl ?_
      refine SL.val (Val.move rfl) rfl rfl ?_
      iterate 3 refine SL.skip rfl rfl ?_
      refine SL.val (Val.pickT rfl rfl) rfl rfl ?_
      refine SL.val (Val.move rfl) rfl rfl ?_
      iterate 4 refine SL.skip rfl rfl ?_
      refine SL.val (Val.pickT rfl rfl) rfl rfl ?_
      refine SL.val (Val.move rfl) rfl rfl ?_
      iterate 4 refine SL.skip rfl rfl ?_
      refine SL.val (Val.pickT rfl rfl) rfl rfl ?_
      refine SL.val (Val.move rfl) rfl rfl ?_
      iterate 4 refine SL.skip rfl rfl ?_
      refine SL.val (Val.pickT rfl rfl) rfl rfl ?_
      refine SL.val (Val.move rfl) rfl rfl ?_
      iterate 4 refine SL.skip rfl rfl ?_
      refine SL.val (Val.pickT rfl rfl) rfl rfl ?_
      refine SL.nil (SE.seq ?_)
      refine SC.condT rfl ?_
      refine SC.seq (SC.region ?_)
      refine SL.val (Val.assign rfl) rfl rfl ?_
      refine SL.nil (SE.seq ?_)
      refine SC.ret ?_
      refine SE.ret ?_
      refine SE.then_ (by intro h; cases h) ?_
      refine SE.then_ (by intro h; cases h) ?_
      refine SE.ret ?_
      refine SE.then_ (by intro h; cases h) ?_
      refine SE.fin (rs := [.tmp 2]) rfl (RV.tmp rfl RV.nil) (()) (by repeat first|exact s0 _|exact s1 _|apply s2|apply s3) (by simp [It.rids]) ?_
      refine boo_dec0 fun he => ?_
      obtain ⟨g1, ⟨g2, g3⟩, ⟨g4, g5⟩, g6, g7, g8⟩ := he.1.each y hlt
      have g9 : isAmt (ls[y]'hlt).amount = true := isAmt_mk (by omega) g5
      first
        | (simp [g1] at hc29; done)
        | (simp [g9] at hc50; done)
        | (simp [g6] at hc56; done)
        | omega
    intro hc34
    refine SL.val (Val.fieldAddr tabOk rfl rfl rfl rfl rfl) rfl rfl ?_
    refine SL.val (Val.to (C := int (ls[y]'hlt).state) (Val.load1 tabOk rfl rfl (by first|(apply Or.inl;(repeat first|assumption|exact m0|apply m1);done)|(apply Or.inr;(repeat first|assumption|exact m0|apply m1);done)) List.not_mem_nil (by rfl)) rfl) rfl rfl ?_
    refine SL.val (Val.gtI rfl rfl) rfl rfl ?_
    refine SL.val (Val.pickF rfl rfl) rfl rfl ?_
    refine SL.val (Val.move rfl) rfl rfl ?_
    refine SL.bothP (t := 39) rfl ?_ ?_
    · intro hc39
      iterate 3 refine SL.skip rfl rfl ?_
      refine SL.val (Val.pickT rfl rfl) rfl rfl ?_
      refine SL.val (Val.move rfl) rfl rfl ?_
      iterate 4 refine SL.skip rfl rfl ?_
      refine SL.val (Val.pickT rfl rfl) rfl rfl ?_
      refine SL.val (Val.move rfl) rfl rfl ?_
      iterate 4 refine SL.skip rfl rfl ?_
      refine SL.val (Val.pickT rfl rfl) rfl rfl ?_
      refine SL.val (Val.move rfl) rfl rfl ?_
      iterate 4 refine SL.skip rfl rfl ?_
      refine SL.val (Val.pickT rfl rfl) rfl rfl ?_
      refine SL.val (Val.move rfl) rfl rfl ?_
      iterate 4 refine SL.skip rfl rfl ?_
      refine SL.val (Val.pickT rfl rfl) rfl rfl ?_
      refine SL.nil (SE.seq ?_)
      refine SC.condT rfl ?_
      refine SC.seq (SC.region ?_)
      refine SL.val (Val.assign rfl) rfl rfl ?_
      refine SL.nil (SE.seq ?_)
      refine SC.ret ?_
      refine SE.ret ?_
      refine SE.then_ (by intro h; cases h) ?_
      refine SE.then_ (by intro h; cases h) ?_
      refine SE.ret ?_
      refine SE.then_ (by intro h; cases h) ?_
      refine SE.fin (rs := [.tmp 2]) rfl (RV.tmp rfl RV.nil) (()) (by repeat first|exact s0 _|exact s1 _|apply s2|apply s3) (by simp [It.rids]) ?_
      refine boo_dec0 fun he => ?_
      obtain ⟨g1, ⟨g2, g3⟩, ⟨g4, g5⟩, g6, g7, g8⟩ := he.1.each y hlt
      have g9 : isAmt (ls[y]'hlt).amount = true := isAmt_mk (by omega) g5
      first
        | (simp [g1] at hc29; done)
        | (simp [g9] at hc50; done)
        | (simp [g6] at hc56; done)
        | omega
    intro hc39
    refine SL.val (Val.fieldAddr tabOk rfl rfl rfl rfl rfl) rfl rfl ?_
    refine SL.val (Val.to (C := int (ls[y]'hlt).amount) (Val.load1 tabOk rfl rfl (by first|(apply Or.inl;(repeat first|assumption|exact m0|apply m1);done)|(apply Or.inr;(repeat first|assumption|exact m0|apply m1);done)) List.not_mem_nil (by rfl)) rfl) rfl rfl ?_
    refine SL.val (Val.ltI rfl rfl) rfl rfl ?_
    refine SL.val (Val.pickF rfl rfl) rfl rfl ?_
    refine SL.val (Val.move rfl) rfl rfl ?_
    refine SL.bothP (t := 44) rfl ?_ ?_
    · intro hc44
      iterate 4 refine SL.skip rfl rfl ?_
      refine SL.val (Val.pickT rfl rfl) rfl rfl ?_
      refine SL.val (Val.move rfl) rfl rfl ?_
      iterate 4 refine SL.skip rfl rfl ?_
      refine SL.val (Val.pickT rfl rfl) rfl rfl ?_
      refine SL.val (Val.move rfl) rfl rfl ?_
      iterate 4 refine SL.skip rfl rfl ?_
      refine SL.val (Val.pickT rfl rfl) rfl rfl ?_
      refine SL.val (Val.move rfl) rfl rfl ?_
      iterate 4 refine SL.skip rfl rfl ?_
      refine SL.val (Val.pickT rfl rfl) rfl rfl ?_
      refine SL.nil (SE.seq ?_)
      refine SC.condT rfl ?_
      refine SC.seq (SC.region ?_)
      refine SL.val (Val.assign rfl) rfl rfl ?_
      refine SL.nil (SE.seq ?_)
      refine SC.ret ?_
      refine SE.ret ?_
      refine SE.then_ (by intro h; cases h) ?_
      refine SE.then_ (by intro h; cases h) ?_
      refine SE.ret ?_
      refine SE.then_ (by intro h; cases h) ?_
      refine SE.fin (rs := [.tmp 2]) rfl (RV.tmp rfl RV.nil) (()) (by repeat first|exact s0 _|exact s1 _|apply s2|apply s3) (by simp [It.rids]) ?_
      refine boo_dec0 fun he => ?_
      obtain ⟨g1, ⟨g2, g3⟩, ⟨g4, g5⟩, g6, g7, g8⟩ := he.1.each y hlt
      have g9 : isAmt (ls[y]'hlt).amount = true := isAmt_mk (by omega) g5
      first
        | (simp [g1] at hc29; done)
        | (simp [g9] at hc50; done)
        | (simp [g6] at hc56; done)
        | omega
    intro hc44
    refine SL.val (Val.fieldAddr tabOk rfl rfl rfl rfl rfl) rfl rfl ?_
    refine SL.val (Val.to (C := int (ls[y]'hlt).amount) (Val.load1 tabOk rfl rfl (by first|(apply Or.inl;(repeat first|assumption|exact m0|apply m1);done)|(apply Or.inr;(repeat first|assumption|exact m0|apply m1);done)) List.not_mem_nil (by rfl)) rfl) rfl rfl ?_
    refine SL.call (rmis_s (a := (ls[y]'hlt).amount)) Casts.refl (by kernel_rfl) rfl rfl rfl ?_
    refine After.pure (by repeat (first | exact Reads.nil | (refine Reads.blk ?_ ?_; focus ((repeat first|assumption|exact m0|apply m1); done)) | (refine Reads.rd ?_ ?_; focus ((repeat first|assumption|exact m0|apply m1); done)) | (refine Reads.pc ?_ ?_; focus ((repeat first|assumption|exact m0|apply m1); done)) | (refine Reads.rdpc ?_ ?_; focus ((repeat first|assumption|exact m0|apply m1); done)))) (fun _ => rfl) ?_
    intro _
    refine SL.val (Val.notB rfl) rfl rfl ?_
    refine SL.val (Val.pickF rfl rfl) rfl rfl ?_
    refine SL.val (Val.move rfl) rfl rfl ?_
    refine SL.both (t := 50) rfl ?_ ?_
    · intro hc50
      iterate 4 refine SL.skip rfl rfl ?_
      refine SL.val (Val.pickT rfl rfl) rfl rfl ?_
      refine SL.val (Val.move rfl) rfl rfl ?_
      iterate 4 refine SL.skip rfl rfl ?_
      refine SL.val (Val.pickT rfl rfl) rfl rfl ?_
      refine SL.val (Val.move rfl) rfl rfl ?_
      iterate 4 refine SL.skip rfl rfl ?_
      refine SL.val (Val.pickT rfl rfl) rfl rfl ?_
      refine SL.nil (SE.seq ?_)
      refine SC.condT rfl ?_
      refine SC.seq (SC.region ?_)
      refine SL.val (Val.assign rfl) rfl rfl ?_
      refine SL.nil (SE.seq ?_)
      refine SC.ret ?_
      refine SE.ret ?_
      refine SE.then_ (by intro h; cases h) ?_
      refine SE.then_ (by intro h; cases h) ?_
      refine SE.ret ?_
      refine SE.then_ (by intro h; cases h) ?_
      refine SE.fin (rs := [.tmp 2]) rfl (RV.tmp rfl RV.nil) (()) (by repeat first|exact s0 _|exact s1 _|apply s2|apply s3) (by simp [It.rids]) ?_
      refine boo_dec0 fun he => ?_
      obtain ⟨g1, ⟨g2, g3⟩, ⟨g4, g5⟩, g6, g7, g8⟩ := he.1.each y hlt
      have g9 : isAmt (ls[y]'hlt).amount = true := isAmt_mk (by omega) g5
      first
        | (simp [g1] at hc29; done)
        | (simp [g9] at hc50; done)
        | (simp [g6] at hc56; done)
        | omega
    intro hc50
    refine SL.val (Val.fieldAddr tabOk rfl rfl rfl rfl rfl) rfl rfl ?_
    refine SL.val (Val.to (C := int (ls[y]'hlt).due) (Val.load1 tabOk rfl rfl (by first|(apply Or.inl;(repeat first|assumption|exact m0|apply m1);done)|(apply Or.inr;(repeat first|assumption|exact m0|apply m1);done)) List.not_mem_nil (by rfl)) rfl) rfl rfl ?_
    refine SL.call (rday_s (a := (ls[y]'hlt).due)) Casts.refl (by kernel_rfl) rfl rfl rfl ?_
    refine After.pure (by repeat (first | exact Reads.nil | (refine Reads.blk ?_ ?_; focus ((repeat first|assumption|exact m0|apply m1); done)) | (refine Reads.rd ?_ ?_; focus ((repeat first|assumption|exact m0|apply m1); done)) | (refine Reads.pc ?_ ?_; focus ((repeat first|assumption|exact m0|apply m1); done)) | (refine Reads.rdpc ?_ ?_; focus ((repeat first|assumption|exact m0|apply m1); done)))) (fun _ => rfl) ?_
    intro _
    refine SL.val (Val.notB rfl) rfl rfl ?_
    refine SL.val (Val.pickF rfl rfl) rfl rfl ?_
    refine SL.val (Val.move rfl) rfl rfl ?_
    refine SL.both (t := 56) rfl ?_ ?_
    · intro hc56
      iterate 4 refine SL.skip rfl rfl ?_
      refine SL.val (Val.pickT rfl rfl) rfl rfl ?_
      refine SL.val (Val.move rfl) rfl rfl ?_
      iterate 4 refine SL.skip rfl rfl ?_
      refine SL.val (Val.pickT rfl rfl) rfl rfl ?_
      refine SL.nil (SE.seq ?_)
      refine SC.condT rfl ?_
      refine SC.seq (SC.region ?_)
      refine SL.val (Val.assign rfl) rfl rfl ?_
      refine SL.nil (SE.seq ?_)
      refine SC.ret ?_
      refine SE.ret ?_
      refine SE.then_ (by intro h; cases h) ?_
      refine SE.then_ (by intro h; cases h) ?_
      refine SE.ret ?_
      refine SE.then_ (by intro h; cases h) ?_
      refine SE.fin (rs := [.tmp 2]) rfl (RV.tmp rfl RV.nil) (()) (by repeat first|exact s0 _|exact s1 _|apply s2|apply s3) (by simp [It.rids]) ?_
      refine boo_dec0 fun he => ?_
      obtain ⟨g1, ⟨g2, g3⟩, ⟨g4, g5⟩, g6, g7, g8⟩ := he.1.each y hlt
      have g9 : isAmt (ls[y]'hlt).amount = true := isAmt_mk (by omega) g5
      first
        | (simp [g1] at hc29; done)
        | (simp [g9] at hc50; done)
        | (simp [g6] at hc56; done)
        | omega
    intro hc56
    refine SL.val (Val.fieldAddr tabOk rfl rfl rfl rfl rfl) rfl rfl ?_
    refine SL.val (Val.to (C := st (ls[y]'hlt).policy) (Val.load1 tabOk rfl rfl (by first|(apply Or.inl;(repeat first|assumption|exact m0|apply m1);done)|(apply Or.inr;(repeat first|assumption|exact m0|apply m1);done)) List.not_mem_nil (by rfl)) rfl) rfl rfl ?_
    refine SL.val (Val.lenSt rfl Tryz.underlying9) rfl rfl ?_
    refine SL.val (Val.gtI rfl rfl) rfl rfl ?_
    refine SL.val (Val.pickF rfl rfl) rfl rfl ?_
    refine SL.val (Val.move rfl) rfl rfl ?_
    refine SL.bothP (t := 62) rfl ?_ ?_
    · intro hc62
      iterate 4 refine SL.skip rfl rfl ?_
      refine SL.val (Val.pickT rfl rfl) rfl rfl ?_
      refine SL.nil (SE.seq ?_)
      refine SC.condT rfl ?_
      refine SC.seq (SC.region ?_)
      refine SL.val (Val.assign rfl) rfl rfl ?_
      refine SL.nil (SE.seq ?_)
      refine SC.ret ?_
      refine SE.ret ?_
      refine SE.then_ (by intro h; cases h) ?_
      refine SE.then_ (by intro h; cases h) ?_
      refine SE.ret ?_
      refine SE.then_ (by intro h; cases h) ?_
      refine SE.fin (rs := [.tmp 2]) rfl (RV.tmp rfl RV.nil) (()) (by repeat first|exact s0 _|exact s1 _|apply s2|apply s3) (by simp [It.rids]) ?_
      refine boo_dec0 fun he => ?_
      obtain ⟨g1, ⟨g2, g3⟩, ⟨g4, g5⟩, g6, g7, g8⟩ := he.1.each y hlt
      have g9 : isAmt (ls[y]'hlt).amount = true := isAmt_mk (by omega) g5
      first
        | (simp [g1] at hc29; done)
        | (simp [g9] at hc50; done)
        | (simp [g6] at hc56; done)
        | omega
    intro hc62
    refine SL.val (Val.fieldAddr tabOk rfl rfl rfl rfl rfl) rfl rfl ?_
    refine SL.val (Val.to (C := st (ls[y]'hlt).papers) (Val.load1 tabOk rfl rfl (by first|(apply Or.inl;(repeat first|assumption|exact m0|apply m1);done)|(apply Or.inr;(repeat first|assumption|exact m0|apply m1);done)) List.not_mem_nil (by rfl)) rfl) rfl rfl ?_
    refine SL.val (Val.lenSt rfl Tryz.underlying9) rfl rfl ?_
    refine SL.val (Val.gtI rfl rfl) rfl rfl ?_
    refine SL.val (Val.pickF rfl rfl) rfl rfl ?_
    refine SL.nil (SE.seq ?_)
    refine SC.condP rfl ?_ ?_
    rotate_left
    · intro hc67
      refine SC.skip ?_
      refine SE.inBlock ?_
      refine SE.seq ?_
      refine SC.region ?_
      first
        | refine SL.val (Val.addI rfl rfl (by simp only [InR, lo, hi]; omega)) rfl rfl ?_
        | refine SL.val (Val.addW rfl rfl) rfl rfl ?_
      refine SL.val (Val.move rfl) rfl rfl ?_
      refine SL.nil ?_
      have hok : LtR (ls[y]'hlt) := ⟨by simpa using hc29, by omega, ⟨by omega, (isAmt_true (by simpa using hc50)).2⟩, by simpa using hc56, by omega, by omega⟩
      refine SE.round (y + 1) (by first | omega | (dsimp only; omega)) (⟨by omega, fun j h h2 => by rcases Nat.lt_or_ge j y with h3 | h3; exact hy.2 j h h3; obtain rfl : j = y := (by omega); exact ⟨hok, hz⟩⟩) (by exact ⟨rfl, rfl, rfl, rfl, trivial⟩) (by repeat first|exact s0 _|exact s1 _|apply s2|apply s3)
    intro hc67
    refine SC.seq (SC.region ?_)
    refine SL.val (Val.assign rfl) rfl rfl ?_
    refine SL.nil (SE.seq ?_)
    refine SC.ret ?_
    refine SE.ret ?_
    refine SE.then_ (by intro h; cases h) ?_
    refine SE.then_ (by intro h; cases h) ?_
    refine SE.ret ?_
    refine SE.then_ (by intro h; cases h) ?_
    refine SE.fin (rs := [.tmp 2]) rfl (RV.tmp rfl RV.nil) (()) (by repeat first|exact s0 _|exact s1 _|apply s2|apply s3) (by simp [It.rids]) ?_
    refine boo_dec0 fun he => ?_
    obtain ⟨g1, ⟨g2, g3⟩, ⟨g4, g5⟩, g6, g7, g8⟩ := he.1.each y hlt
    have g9 : isAmt (ls[y]'hlt).amount = true := isAmt_mk (by omega) g5
    first
      | (simp [g1] at hc29; done)
      | (simp [g9] at hc50; done)
      | (simp [g6] at hc56; done)
      | omega
set_option maxHeartbeats 2000000 in
theorem rright_s (hs : ∀ x ∈ l.ls, x.name.size ≤ lots) : Spec Tryz.prog 13 [.agg l.abs] [] (fun _ : Unit => []) (fun _ => boo (decide l.Right)) := by
  refine spec_of Tryz.func13 rfl Tryz.ntmps13 rfl fun G w => ?_
  refine SC.seq (SC.region ?_)
  refine SL.eff (Eff.boxA (cs := l.abs) rfl) rfl rfl ?_
  rintro _ _ ⟨b1, rfl, rfl⟩
  refine SL.val (Val.assign rfl) rfl rfl ?_
  refine SL.nil (SE.seq ?_)
  refine SC.seq ?_
  refine SC.seq (SC.region ?_)
  refine SL.val (Val.fieldAddr tabOk rfl rfl rfl rfl rfl) rfl rfl ?_
  refine SL.val (Val.to (C := .sl 3 (l.os.map Oc.abs)) (Val.load1 tabOk rfl rfl (by first|(apply Or.inl;(repeat first|assumption|exact m0|apply m1);done)|(apply Or.inr;(repeat first|assumption|exact m0|apply m1);done)) List.not_mem_nil (by rfl)) rfl) rfl rfl ?_
  first
    | refine SL.val (Val.lenSl rfl Tryz.underlying23 (List.length_map _)) rfl rfl ?_
    | refine SL.val (Val.lenOwn rfl (by repeat first|assumption|exact m0|apply m1) Tryz.underlying23 (List.length_map _)) rfl rfl ?_
    | refine SL.val (Val.lenNil rfl Tryz.underlying23) rfl rfl ?_
  refine SL.val (Val.move rfl) rfl rfl ?_
  refine SL.nil (SE.seq ?_)
  refine SC.block ?_
  refine SC.rowLe (i := 6) rfl fun hrow => ?_
  rw [List.length_map] at hrow
  unfold maxLen at hrow
  refine SC.loop (ι := Nat) (fun y => [.blk b1 25 l.abs]) (fun y => [(1, ptr b1), (6, outA l.os), (7, int (l.os.length : Nat)), (8, int (y : Nat))]) (fun y => y ≤ l.os.length ∧ ∀ j (h : j < l.os.length), j < y → OcR l.os[j] ∧ (0 < j → (l.os[j - 1]'(by omega)).client < l.os[j].client)) (fun y => l.os.length - y) (0) (⟨Nat.zero_le _, fun j h h2 => by omega⟩) (by exact ⟨rfl, rfl, rfl, rfl, trivial⟩) (by repeat first|exact s0 _|exact s1 _|apply s2|apply s3) ?_
  intro y hy
  refine SC.seq (SC.region ?_)
  refine SL.val (Val.ltI rfl rfl) rfl rfl ?_
  refine SL.nil (SE.seq ?_)
  refine SC.seq ?_
  refine SC.condP rfl ?_ ?_
  rotate_left
  · intro hc9
    refine SC.exit ?_
    refine SE.then_ (by intro h; cases h) ?_
    refine SE.then_ (by intro h; cases h) ?_
    refine SE.exit ?_
    refine SE.seq ?_
    refine SC.seq (SC.region ?_)
    refine SL.val (Val.fieldAddr tabOk rfl rfl rfl rfl rfl) rfl rfl ?_
    refine SL.val (Val.to (C := int l.seq) (Val.load1 tabOk rfl rfl (by first|(apply Or.inl;(repeat first|assumption|exact m0|apply m1);done)|(apply Or.inr;(repeat first|assumption|exact m0|apply m1);done)) List.not_mem_nil (by rfl)) rfl) rfl rfl ?_
    refine SL.val (Val.geI rfl rfl) rfl rfl ?_
    refine SL.val (Val.move rfl) rfl rfl ?_
    refine SL.bothP (t := 61) rfl ?_ ?_
    rotate_left
    · intro hc61
      iterate 3 refine SL.skip rfl rfl ?_
      refine SL.val (Val.pickF rfl rfl) rfl rfl ?_
      refine SL.val (Val.move rfl) rfl rfl ?_
      iterate 3 refine SL.skip rfl rfl ?_
      refine SL.val (Val.pickF rfl rfl) rfl rfl ?_
      refine SL.val (Val.move rfl) rfl rfl ?_
      iterate 4 refine SL.skip rfl rfl ?_
      refine SL.val (Val.pickF rfl rfl) rfl rfl ?_
      refine SL.val (Val.move rfl) rfl rfl ?_
      iterate 3 refine SL.skip rfl rfl ?_
      refine SL.val (Val.pickF rfl rfl) rfl rfl ?_
      refine SL.val (Val.assign rfl) rfl rfl ?_
      refine SL.nil (SE.seq ?_)
      refine SC.ret ?_
      have hr : OcsR l.os := ⟨fun j h => (hy.2 j h (by omega)).1, fun j h => (hy.2 j h (by omega)).2⟩
      refine SE.fin (rs := [.tmp 2]) rfl (RV.tmp rfl RV.nil) (()) (by repeat first|exact s0 _|exact s1 _|apply s2|apply s3) (by simp [It.rids]) ?_
      first
        | (refine boo_dec0 fun he => ?_; obtain ⟨g1, ⟨g2, g2'⟩, g3, g4, g5, g6⟩ := he; first | omega | (rw [g3] at hc66; cases hc66; done) | (rw [g3] at hc71; cases hc71; done))
        | (refine congrArg (fun b => Abs.v (Value.bool b)) ?_; rw [decide_eq_decide]; exact ⟨fun h => ⟨hr, by omega, by assumption, by omega, h.1, h.2⟩, fun h => ⟨h.ls, h.lsFew⟩⟩)
    intro hc61
    refine SL.val (Val.fieldAddr tabOk rfl rfl rfl rfl rfl) rfl rfl ?_
    refine SL.val (Val.to (C := int l.seq) (Val.load1 tabOk rfl rfl (by first|(apply Or.inl;(repeat first|assumption|exact m0|apply m1);done)|(apply Or.inr;(repeat first|assumption|exact m0|apply m1);done)) List.not_mem_nil (by rfl)) rfl) rfl rfl ?_
    refine SL.val (Val.leI rfl rfl) rfl rfl ?_
    refine SL.val (Val.pickT rfl rfl) rfl rfl ?_
    refine SL.val (Val.move rfl) rfl rfl ?_
    refine SL.bothP (t := 66) rfl ?_ ?_
    rotate_left
    · intro hc66
      iterate 3 refine SL.skip rfl rfl ?_
      refine SL.val (Val.pickF rfl rfl) rfl rfl ?_
      refine SL.val (Val.move rfl) rfl rfl ?_
      iterate 4 refine SL.skip rfl rfl ?_
      refine SL.val (Val.pickF rfl rfl) rfl rfl ?_
      refine SL.val (Val.move rfl) rfl rfl ?_
      iterate 3 refine SL.skip rfl rfl ?_
      refine SL.val (Val.pickF rfl rfl) rfl rfl ?_
      refine SL.val (Val.assign rfl) rfl rfl ?_
      refine SL.nil (SE.seq ?_)
      refine SC.ret ?_
      have hr : OcsR l.os := ⟨fun j h => (hy.2 j h (by omega)).1, fun j h => (hy.2 j h (by omega)).2⟩
      refine SE.fin (rs := [.tmp 2]) rfl (RV.tmp rfl RV.nil) (()) (by repeat first|exact s0 _|exact s1 _|apply s2|apply s3) (by simp [It.rids]) ?_
      first
        | (refine boo_dec0 fun he => ?_; obtain ⟨g1, ⟨g2, g2'⟩, g3, g4, g5, g6⟩ := he; first | omega | (rw [g3] at hc66; cases hc66; done) | (rw [g3] at hc71; cases hc71; done))
        | (refine congrArg (fun b => Abs.v (Value.bool b)) ?_; rw [decide_eq_decide]; exact ⟨fun h => ⟨hr, by omega, by assumption, by omega, h.1, h.2⟩, fun h => ⟨h.ls, h.lsFew⟩⟩)
    intro hc66
    refine SL.val (Val.fieldAddr tabOk rfl rfl rfl rfl rfl) rfl rfl ?_
    refine SL.val (Val.to (C := int l.total) (Val.load1 tabOk rfl rfl (by first|(apply Or.inl;(repeat first|assumption|exact m0|apply m1);done)|(apply Or.inr;(repeat first|assumption|exact m0|apply m1);done)) List.not_mem_nil (by rfl)) rfl) rfl rfl ?_
    refine SL.call (rmis_s (a := l.total)) Casts.refl (by kernel_rfl) rfl rfl rfl ?_
    refine After.pure (by repeat (first | exact Reads.nil | (refine Reads.blk ?_ ?_; focus ((repeat first|assumption|exact m0|apply m1); done)) | (refine Reads.rd ?_ ?_; focus ((repeat first|assumption|exact m0|apply m1); done)) | (refine Reads.pc ?_ ?_; focus ((repeat first|assumption|exact m0|apply m1); done)) | (refine Reads.rdpc ?_ ?_; focus ((repeat first|assumption|exact m0|apply m1); done)))) (fun _ => rfl) ?_
    intro _
    refine SL.val (Val.pickT rfl rfl) rfl rfl ?_
    refine SL.val (Val.move rfl) rfl rfl ?_
    refine SL.both (t := 71) rfl ?_ ?_
    rotate_left
    · intro hc71
      iterate 4 refine SL.skip rfl rfl ?_
      refine SL.val (Val.pickF rfl rfl) rfl rfl ?_
      refine SL.val (Val.move rfl) rfl rfl ?_
      iterate 3 refine SL.skip rfl rfl ?_
      refine SL.val (Val.pickF rfl rfl) rfl rfl ?_
      refine SL.val (Val.assign rfl) rfl rfl ?_
      refine SL.nil (SE.seq ?_)
      refine SC.ret ?_
      have hr : OcsR l.os := ⟨fun j h => (hy.2 j h (by omega)).1, fun j h => (hy.2 j h (by omega)).2⟩
      refine SE.fin (rs := [.tmp 2]) rfl (RV.tmp rfl RV.nil) (()) (by repeat first|exact s0 _|exact s1 _|apply s2|apply s3) (by simp [It.rids]) ?_
      first
        | (refine boo_dec0 fun he => ?_; obtain ⟨g1, ⟨g2, g2'⟩, g3, g4, g5, g6⟩ := he; first | omega | (rw [g3] at hc66; cases hc66; done) | (rw [g3] at hc71; cases hc71; done))
        | (refine congrArg (fun b => Abs.v (Value.bool b)) ?_; rw [decide_eq_decide]; exact ⟨fun h => ⟨hr, by omega, by assumption, by omega, h.1, h.2⟩, fun h => ⟨h.ls, h.lsFew⟩⟩)
    intro hc71
    refine SL.val (Val.fieldAddr tabOk rfl rfl rfl rfl rfl) rfl rfl ?_
    refine SL.val (Val.to (C := .sl 3 (l.os.map Oc.abs)) (Val.load1 tabOk rfl rfl (by first|(apply Or.inl;(repeat first|assumption|exact m0|apply m1);done)|(apply Or.inr;(repeat first|assumption|exact m0|apply m1);done)) List.not_mem_nil (by rfl)) rfl) rfl rfl ?_
    first
      | refine SL.val (Val.lenSl rfl Tryz.underlying23 (List.length_map _)) rfl rfl ?_
      | refine SL.val (Val.lenOwn rfl (by repeat first|assumption|exact m0|apply m1) Tryz.underlying23 (List.length_map _)) rfl rfl ?_
      | refine SL.val (Val.lenNil rfl Tryz.underlying23) rfl rfl ?_
    refine SL.val (Val.leI rfl rfl) rfl rfl ?_
    refine SL.val (Val.pickT rfl rfl) rfl rfl ?_
    refine SL.val (Val.move rfl) rfl rfl ?_
    refine SL.bothP (t := 77) rfl ?_ ?_
    rotate_left
    · intro hc77
      iterate 3 refine SL.skip rfl rfl ?_
      refine SL.val (Val.pickF rfl rfl) rfl rfl ?_
      refine SL.val (Val.assign rfl) rfl rfl ?_
      refine SL.nil (SE.seq ?_)
      refine SC.ret ?_
      have hr : OcsR l.os := ⟨fun j h => (hy.2 j h (by omega)).1, fun j h => (hy.2 j h (by omega)).2⟩
      refine SE.fin (rs := [.tmp 2]) rfl (RV.tmp rfl RV.nil) (()) (by repeat first|exact s0 _|exact s1 _|apply s2|apply s3) (by simp [It.rids]) ?_
      first
        | (refine boo_dec0 fun he => ?_; obtain ⟨g1, ⟨g2, g2'⟩, g3, g4, g5, g6⟩ := he; first | omega | (rw [g3] at hc66; cases hc66; done) | (rw [g3] at hc71; cases hc71; done))
        | (refine congrArg (fun b => Abs.v (Value.bool b)) ?_; rw [decide_eq_decide]; exact ⟨fun h => ⟨hr, by omega, by assumption, by omega, h.1, h.2⟩, fun h => ⟨h.ls, h.lsFew⟩⟩)
    intro hc77
    refine SL.val (Val.fieldAddr tabOk rfl rfl rfl rfl rfl) rfl rfl ?_
    refine SL.val (Val.to (C := .sl 6 (l.ls.map ltrA)) (Val.load1 tabOk rfl rfl (by first|(apply Or.inl;(repeat first|assumption|exact m0|apply m1);done)|(apply Or.inr;(repeat first|assumption|exact m0|apply m1);done)) List.not_mem_nil (by rfl)) rfl) rfl rfl ?_
    refine SL.call (letters_s hs) Casts.refl (by kernel_rfl) rfl rfl rfl ?_
    refine After.pure (by repeat (first | exact Reads.nil | (refine Reads.blk ?_ ?_; focus ((repeat first|assumption|exact m0|apply m1); done)) | (refine Reads.rd ?_ ?_; focus ((repeat first|assumption|exact m0|apply m1); done)) | (refine Reads.pc ?_ ?_; focus ((repeat first|assumption|exact m0|apply m1); done)) | (refine Reads.rdpc ?_ ?_; focus ((repeat first|assumption|exact m0|apply m1); done)))) (fun _ => rfl) ?_
    intro _
    refine SL.val (Val.pickT rfl rfl) rfl rfl ?_
    refine SL.val (Val.assign rfl) rfl rfl ?_
    refine SL.nil (SE.seq ?_)
    refine SC.ret ?_
    have hr : OcsR l.os := ⟨fun j h => (hy.2 j h (by omega)).1, fun j h => (hy.2 j h (by omega)).2⟩
    refine SE.fin (rs := [.tmp 2]) rfl (RV.tmp rfl RV.nil) (()) (by repeat first|exact s0 _|exact s1 _|apply s2|apply s3) (by simp [It.rids]) ?_
    first
      | (refine boo_dec0 fun he => ?_; obtain ⟨g1, ⟨g2, g2'⟩, g3, g4, g5, g6⟩ := he; first | omega | (rw [g3] at hc66; cases hc66; done) | (rw [g3] at hc71; cases hc71; done))
      | (refine congrArg (fun b => Abs.v (Value.bool b)) ?_; rw [decide_eq_decide]; exact ⟨fun h => ⟨hr, by omega, by assumption, by omega, h.1, h.2⟩, fun h => ⟨h.ls, h.lsFew⟩⟩)
  intro hc9
  have hlt : y < l.os.length := by omega
  refine SC.skip ?_
  refine SE.seq ?_
  refine SC.seq ?_
  refine SC.block ?_
  refine SC.seq (SC.region ?_)
  refine SL.val (Val.move rfl) rfl rfl ?_
  refine SL.val (Val.indexSl tabOk Tryz.underlying23 rfl rfl rfl rfl (at_map (by omega)) rfl rfl) rfl rfl ?_
  refine SL.val (Val.loadAR tabOk rfl rfl rfl (by rfl)) rfl rfl ?_
  refine SL.eff (Eff.alloc tabOk rfl) rfl rfl ?_
  rintro _ _ ⟨b4, rfl, rfl⟩
  refine SL.val (Val.assign rfl) rfl rfl ?_
  refine SL.eff (Eff.store (L' := Oc.abs (l.os[y]'hlt)) tabOk rfl rfl rfl (by repeat first|assumption|exact Upd.here|apply Upd.there) rfl (Nat.le_of_ble_eq_true (by rfl)) rfl (by exact putL_whole rfl)) rfl rfl ?_
  rintro _ _ ⟨rfl, rfl⟩
  refine SL.nil (SE.seq ?_)
  refine SC.seq ?_
  refine SC.draw [] (.q 0 (.q 1 (.q 2 (.q 3 (.q 4 (.q 5 (.q 6 (.q 7 (.q 8 (.q 9 (.q 10 (.q 11 (.q 12 (.q 13 (.q 14 (.q 15 (.q 16 (.q 17 (.q 18 (.q 19 (.q 20 (.q 21 (.q 22 (.q 23 (.q 24 (.q 25 (.q 26 (.q 27 (.q 28 (.q 29 (.q 30 (.q 31 (.q 32 (.q 33 (.q 34 (.q 35 (.q 36 (.q 37 (.q 38 (.q 39 (.q 40 (.q 41 (.q 42 (.q 43 .nil)))))))))))))))))))))))))))))))))))))))))))) (by kernel_rfl) (by kernel_rfl) ?_
  refine SX.val rfl (Val.move rfl) (by simp) rfl rfl ?_
  refine SX.val rfl (Val.gtI rfl rfl) (by simp) rfl rfl ?_
  refine SX.val rfl (Val.move rfl) (by simp) rfl rfl ?_
  refine SX.bothP (t := 15) rfl ?_ ?_
  rotate_left
  · intro hc15
    iterate 10 refine SX.skip rfl rfl rfl ?_
    refine SX.val rfl (Val.pickF rfl rfl) (by simp) rfl rfl ?_
    refine SX.val rfl (Val.move rfl) (by simp) rfl rfl ?_
    refine SX.val rfl (Val.fieldAddr tabOk rfl rfl rfl rfl rfl) (by simp) rfl rfl ?_
    refine SX.hx (by first|(simp[mids,It.mids,ownPc];done)|(intro k hk;simp[mids,It.mids,ownPc] at hk ⊢;grind)) fun hx9 => ?_
    refine SX.val rfl (Val.to (C := int (l.os[y]'hlt).client) (Val.load1 tabOk rfl rfl (by first|(apply Or.inl;(repeat first|assumption|exact m0|apply m1);done)|(apply Or.inr;(repeat first|assumption|exact m0|apply m1);done)) List.not_mem_nil (by rfl)) rfl) hx9 rfl rfl ?_
    refine SX.val rfl (Val.ltI rfl rfl) (by simp) rfl rfl ?_
    refine SX.val rfl (Val.pickF rfl rfl) (by simp) rfl rfl ?_
    refine SX.val rfl (Val.move rfl) (by simp) rfl rfl ?_
    refine SX.bothP (t := 32) rfl ?_ ?_
    · intro hc32
      iterate 3 refine SX.skip rfl rfl rfl ?_
      refine SX.val rfl (Val.pickT rfl rfl) (by simp) rfl rfl ?_
      refine SX.val rfl (Val.move rfl) (by simp) rfl rfl ?_
      iterate 3 refine SX.skip rfl rfl rfl ?_
      refine SX.val rfl (Val.pickT rfl rfl) (by simp) rfl rfl ?_
      refine SX.val rfl (Val.move rfl) (by simp) rfl rfl ?_
      iterate 3 refine SX.skip rfl rfl rfl ?_
      refine SX.val rfl (Val.pickT rfl rfl) (by simp) rfl rfl ?_
      refine SX.val rfl (Val.move rfl) (by simp) rfl rfl ?_
      iterate 3 refine SX.skip rfl rfl rfl ?_
      refine SX.val rfl (Val.pickT rfl rfl) (by simp) rfl rfl ?_
      refine SX.val rfl (Val.move rfl) (by simp) rfl rfl ?_
      iterate 3 refine SX.skip rfl rfl rfl ?_
      refine SX.val rfl (Val.pickT rfl rfl) (by simp) rfl rfl ?_
      refine SX.nil (SE.seq ?_)
      refine SC.condT rfl ?_
      refine SC.seq (SC.region ?_)
      refine SL.val (Val.assign rfl) rfl rfl ?_
      refine SL.nil (SE.seq ?_)
      refine SC.ret ?_
      refine SE.ret ?_
      refine SE.then_ (by intro h; cases h) ?_
      refine SE.then_ (by intro h; cases h) ?_
      refine SE.ret ?_
      refine SE.then_ (by intro h; cases h) ?_
      refine SE.fin (rs := [.tmp 2]) rfl (RV.tmp rfl RV.nil) (()) (by repeat first|exact s0 _|exact s1 _|apply s2|apply s3) (by simp [It.rids]) ?_
      refine boo_dec0 fun he => ?_
      obtain ⟨g1, g2, g3⟩ := he.os.each y hlt
      have g4 := he.os.rise y hlt
      omega
    intro hc32
    refine SX.val rfl (Val.fieldAddr tabOk rfl rfl rfl rfl rfl) (by simp) rfl rfl ?_
    refine SX.val rfl (Val.to (C := int (l.os[y]'hlt).client) (Val.load1 tabOk rfl rfl (by first|(apply Or.inl;(repeat first|assumption|exact m0|apply m1);done)|(apply Or.inr;(repeat first|assumption|exact m0|apply m1);done)) List.not_mem_nil (by rfl)) rfl) hx9 rfl rfl ?_
    refine SX.val rfl (Val.gtI rfl rfl) (by simp) rfl rfl ?_
    refine SX.val rfl (Val.pickF rfl rfl) (by simp) rfl rfl ?_
    refine SX.val rfl (Val.move rfl) (by simp) rfl rfl ?_
    refine SX.bothP (t := 37) rfl ?_ ?_
    · intro hc37
      iterate 3 refine SX.skip rfl rfl rfl ?_
      refine SX.val rfl (Val.pickT rfl rfl) (by simp) rfl rfl ?_
      refine SX.val rfl (Val.move rfl) (by simp) rfl rfl ?_
      iterate 3 refine SX.skip rfl rfl rfl ?_
      refine SX.val rfl (Val.pickT rfl rfl) (by simp) rfl rfl ?_
      refine SX.val rfl (Val.move rfl) (by simp) rfl rfl ?_
      iterate 3 refine SX.skip rfl rfl rfl ?_
      refine SX.val rfl (Val.pickT rfl rfl) (by simp) rfl rfl ?_
      refine SX.val rfl (Val.move rfl) (by simp) rfl rfl ?_
      iterate 3 refine SX.skip rfl rfl rfl ?_
      refine SX.val rfl (Val.pickT rfl rfl) (by simp) rfl rfl ?_
      refine SX.nil (SE.seq ?_)
      refine SC.condT rfl ?_
      refine SC.seq (SC.region ?_)
      refine SL.val (Val.assign rfl) rfl rfl ?_
      refine SL.nil (SE.seq ?_)
      refine SC.ret ?_
      refine SE.ret ?_
      refine SE.then_ (by intro h; cases h) ?_
      refine SE.then_ (by intro h; cases h) ?_
      refine SE.ret ?_
      refine SE.then_ (by intro h; cases h) ?_
      refine SE.fin (rs := [.tmp 2]) rfl (RV.tmp rfl RV.nil) (()) (by repeat first|exact s0 _|exact s1 _|apply s2|apply s3) (by simp [It.rids]) ?_
      refine boo_dec0 fun he => ?_
      obtain ⟨g1, g2, g3⟩ := he.os.each y hlt
      have g4 := he.os.rise y hlt
      omega
    intro hc37
    refine SX.val rfl (Val.fieldAddr tabOk rfl rfl rfl rfl rfl) (by simp) rfl rfl ?_
    refine SX.val rfl (Val.to (C := int (l.os[y]'hlt).stamp) (Val.load1 tabOk rfl rfl (by first|(apply Or.inl;(repeat first|assumption|exact m0|apply m1);done)|(apply Or.inr;(repeat first|assumption|exact m0|apply m1);done)) List.not_mem_nil (by rfl)) rfl) hx9 rfl rfl ?_
    refine SX.val rfl (Val.ltI rfl rfl) (by simp) rfl rfl ?_
    refine SX.val rfl (Val.pickF rfl rfl) (by simp) rfl rfl ?_
    refine SX.val rfl (Val.move rfl) (by simp) rfl rfl ?_
    refine SX.bothP (t := 42) rfl ?_ ?_
    · intro hc42
      iterate 3 refine SX.skip rfl rfl rfl ?_
      refine SX.val rfl (Val.pickT rfl rfl) (by simp) rfl rfl ?_
      refine SX.val rfl (Val.move rfl) (by simp) rfl rfl ?_
      iterate 3 refine SX.skip rfl rfl rfl ?_
      refine SX.val rfl (Val.pickT rfl rfl) (by simp) rfl rfl ?_
      refine SX.val rfl (Val.move rfl) (by simp) rfl rfl ?_
      iterate 3 refine SX.skip rfl rfl rfl ?_
      refine SX.val rfl (Val.pickT rfl rfl) (by simp) rfl rfl ?_
      refine SX.nil (SE.seq ?_)
      refine SC.condT rfl ?_
      refine SC.seq (SC.region ?_)
      refine SL.val (Val.assign rfl) rfl rfl ?_
      refine SL.nil (SE.seq ?_)
      refine SC.ret ?_
      refine SE.ret ?_
      refine SE.then_ (by intro h; cases h) ?_
      refine SE.then_ (by intro h; cases h) ?_
      refine SE.ret ?_
      refine SE.then_ (by intro h; cases h) ?_
      refine SE.fin (rs := [.tmp 2]) rfl (RV.tmp rfl RV.nil) (()) (by repeat first|exact s0 _|exact s1 _|apply s2|apply s3) (by simp [It.rids]) ?_
      refine boo_dec0 fun he => ?_
      obtain ⟨g1, g2, g3⟩ := he.os.each y hlt
      have g4 := he.os.rise y hlt
      omega
    intro hc42
    refine SX.val rfl (Val.fieldAddr tabOk rfl rfl rfl rfl rfl) (by simp) rfl rfl ?_
    refine SX.val rfl (Val.to (C := int (l.os[y]'hlt).stamp) (Val.load1 tabOk rfl rfl (by first|(apply Or.inl;(repeat first|assumption|exact m0|apply m1);done)|(apply Or.inr;(repeat first|assumption|exact m0|apply m1);done)) List.not_mem_nil (by rfl)) rfl) hx9 rfl rfl ?_
    refine SX.val rfl (Val.gtI rfl rfl) (by simp) rfl rfl ?_
    refine SX.val rfl (Val.pickF rfl rfl) (by simp) rfl rfl ?_
    refine SX.val rfl (Val.move rfl) (by simp) rfl rfl ?_
    refine SX.bothP (t := 47) rfl ?_ ?_
    · intro hc47
      iterate 3 refine SX.skip rfl rfl rfl ?_
      refine SX.val rfl (Val.pickT rfl rfl) (by simp) rfl rfl ?_
      refine SX.val rfl (Val.move rfl) (by simp) rfl rfl ?_
      iterate 3 refine SX.skip rfl rfl rfl ?_
      refine SX.val rfl (Val.pickT rfl rfl) (by simp) rfl rfl ?_
      refine SX.nil (SE.seq ?_)
      refine SC.condT rfl ?_
      refine SC.seq (SC.region ?_)
      refine SL.val (Val.assign rfl) rfl rfl ?_
      refine SL.nil (SE.seq ?_)
      refine SC.ret ?_
      refine SE.ret ?_
      refine SE.then_ (by intro h; cases h) ?_
      refine SE.then_ (by intro h; cases h) ?_
      refine SE.ret ?_
      refine SE.then_ (by intro h; cases h) ?_
      refine SE.fin (rs := [.tmp 2]) rfl (RV.tmp rfl RV.nil) (()) (by repeat first|exact s0 _|exact s1 _|apply s2|apply s3) (by simp [It.rids]) ?_
      refine boo_dec0 fun he => ?_
      obtain ⟨g1, g2, g3⟩ := he.os.each y hlt
      have g4 := he.os.rise y hlt
      omega
    intro hc47
    refine SX.val rfl (Val.fieldAddr tabOk rfl rfl rfl rfl rfl) (by simp) rfl rfl ?_
    refine SX.val rfl (Val.to (C := int (l.os[y]'hlt).result) (Val.load1 tabOk rfl rfl (by first|(apply Or.inl;(repeat first|assumption|exact m0|apply m1);done)|(apply Or.inr;(repeat first|assumption|exact m0|apply m1);done)) List.not_mem_nil (by rfl)) rfl) hx9 rfl rfl ?_
    refine SX.val rfl (Val.ltI rfl rfl) (by simp) rfl rfl ?_
    refine SX.val rfl (Val.pickF rfl rfl) (by simp) rfl rfl ?_
    refine SX.val rfl (Val.move rfl) (by simp) rfl rfl ?_
    refine SX.bothP (t := 52) rfl ?_ ?_
    · intro hc52
      iterate 3 refine SX.skip rfl rfl rfl ?_
      refine SX.val rfl (Val.pickT rfl rfl) (by simp) rfl rfl ?_
      refine SX.nil (SE.seq ?_)
      refine SC.condT rfl ?_
      refine SC.seq (SC.region ?_)
      refine SL.val (Val.assign rfl) rfl rfl ?_
      refine SL.nil (SE.seq ?_)
      refine SC.ret ?_
      refine SE.ret ?_
      refine SE.then_ (by intro h; cases h) ?_
      refine SE.then_ (by intro h; cases h) ?_
      refine SE.ret ?_
      refine SE.then_ (by intro h; cases h) ?_
      refine SE.fin (rs := [.tmp 2]) rfl (RV.tmp rfl RV.nil) (()) (by repeat first|exact s0 _|exact s1 _|apply s2|apply s3) (by simp [It.rids]) ?_
      refine boo_dec0 fun he => ?_
      obtain ⟨g1, g2, g3⟩ := he.os.each y hlt
      have g4 := he.os.rise y hlt
      omega
    intro hc52
    refine SX.val rfl (Val.fieldAddr tabOk rfl rfl rfl rfl rfl) (by simp) rfl rfl ?_
    refine SX.val rfl (Val.to (C := int (l.os[y]'hlt).result) (Val.load1 tabOk rfl rfl (by first|(apply Or.inl;(repeat first|assumption|exact m0|apply m1);done)|(apply Or.inr;(repeat first|assumption|exact m0|apply m1);done)) List.not_mem_nil (by rfl)) rfl) hx9 rfl rfl ?_
    refine SX.val rfl (Val.gtI rfl rfl) (by simp) rfl rfl ?_
    refine SX.val rfl (Val.pickF rfl rfl) (by simp) rfl rfl ?_
    refine SX.nil (SE.seq ?_)
    refine SC.condP rfl ?_ ?_
    rotate_left
    · intro hc56
      refine SC.skip ?_
      refine SE.inBlock ?_
      refine SE.seq ?_
      refine SC.region ?_
      first
        | refine SL.val (Val.addI rfl rfl (by simp only [InR, lo, hi]; omega)) rfl rfl ?_
        | refine SL.val (Val.addW rfl rfl) rfl rfl ?_
      refine SL.val (Val.move rfl) rfl rfl ?_
      refine SL.nil ?_
      have hok : OcR (l.os[y]'hlt) := ⟨by omega, by omega, by omega⟩
      have hri : 0 < y → (l.os[y - 1]'(by omega)).client < (l.os[y]'hlt).client := fun h => by omega
      refine SE.round (y + 1) (by first | omega | (dsimp only; omega)) (⟨by omega, fun j h h2 => by rcases Nat.lt_or_ge j y with h3 | h3; exact hy.2 j h h3; obtain rfl : j = y := (by omega); exact ⟨hok, hri⟩⟩) (by exact ⟨rfl, rfl, rfl, rfl, trivial⟩) (by repeat first|exact s0 _|exact s1 _|apply s2|apply s3)
    intro hc56
    refine SC.seq (SC.region ?_)
    refine SL.val (Val.assign rfl) rfl rfl ?_
    refine SL.nil (SE.seq ?_)
    refine SC.ret ?_
    refine SE.ret ?_
    refine SE.then_ (by intro h; cases h) ?_
    refine SE.then_ (by intro h; cases h) ?_
    refine SE.ret ?_
    refine SE.then_ (by intro h; cases h) ?_
    refine SE.fin (rs := [.tmp 2]) rfl (RV.tmp rfl RV.nil) (()) (by repeat first|exact s0 _|exact s1 _|apply s2|apply s3) (by simp [It.rids]) ?_
    refine boo_dec0 fun he => ?_
    obtain ⟨g1, g2, g3⟩ := he.os.each y hlt
    have g4 := he.os.rise y hlt
    omega
  intro hc15
  refine SX.val rfl (Val.fieldAddr tabOk rfl rfl rfl rfl rfl) (by simp) rfl rfl ?_
  refine SX.hx (by first|(simp[mids,It.mids,ownPc];done)|(intro k hk;simp[mids,It.mids,ownPc] at hk ⊢;grind)) fun hx9 => ?_
  refine SX.val rfl (Val.to (C := .sl 3 (l.os.map Oc.abs)) (Val.load1 tabOk rfl rfl (by first|(apply Or.inl;(repeat first|assumption|exact m0|apply m1);done)|(apply Or.inr;(repeat first|assumption|exact m0|apply m1);done)) List.not_mem_nil (by rfl)) rfl) hx9 rfl rfl ?_
  refine SX.val rfl (Val.move rfl) (by simp) rfl rfl ?_
  refine SX.val rfl (Val.subI rfl rfl (by simp only [InR, lo, hi]; omega)) hx9 rfl rfl ?_
  refine SX.val rfl (Val.indexSl (q := y - 1) tabOk Tryz.underlying23 rfl rfl rfl (by omega) (at_map (by omega)) rfl rfl) hx9 rfl rfl ?_
  first
    | refine SX.val rfl (Val.fieldAddr tabOk rfl rfl rfl rfl rfl) (by simp) rfl rfl ?_
    | refine SX.val rfl (Val.fieldAddrR tabOk rfl rfl rfl rfl rfl) (by simp) rfl rfl ?_
  refine SX.val rfl (Val.to (C := int (l.os[y - 1]'(by omega)).client) (Val.load1R tabOk rfl rfl rfl) rfl) hx9 rfl rfl ?_
  refine SX.val rfl (Val.fieldAddr tabOk rfl rfl rfl rfl rfl) (by simp) rfl rfl ?_
  refine SX.val rfl (Val.to (C := int (l.os[y]'hlt).client) (Val.load1 tabOk rfl rfl (by first|(apply Or.inl;(repeat first|assumption|exact m0|apply m1);done)|(apply Or.inr;(repeat first|assumption|exact m0|apply m1);done)) List.not_mem_nil (by rfl)) rfl) hx9 rfl rfl ?_
  refine SX.val rfl (Val.geI rfl rfl) (by simp) rfl rfl ?_
  refine SX.val rfl (Val.pickT rfl rfl) (by simp) rfl rfl ?_
  refine SX.val rfl (Val.move rfl) (by simp) rfl rfl ?_
  refine SX.bothP (t := 27) rfl ?_ ?_
  · intro hc27
    iterate 3 refine SX.skip rfl rfl rfl ?_
    refine SX.val rfl (Val.pickT rfl rfl) (by simp) rfl rfl ?_
    refine SX.val rfl (Val.move rfl) (by simp) rfl rfl ?_
    iterate 3 refine SX.skip rfl rfl rfl ?_
    refine SX.val rfl (Val.pickT rfl rfl) (by simp) rfl rfl ?_
    refine SX.val rfl (Val.move rfl) (by simp) rfl rfl ?_
    iterate 3 refine SX.skip rfl rfl rfl ?_
    refine SX.val rfl (Val.pickT rfl rfl) (by simp) rfl rfl ?_
    refine SX.val rfl (Val.move rfl) (by simp) rfl rfl ?_
    iterate 3 refine SX.skip rfl rfl rfl ?_
    refine SX.val rfl (Val.pickT rfl rfl) (by simp) rfl rfl ?_
    refine SX.val rfl (Val.move rfl) (by simp) rfl rfl ?_
    iterate 3 refine SX.skip rfl rfl rfl ?_
    refine SX.val rfl (Val.pickT rfl rfl) (by simp) rfl rfl ?_
    refine SX.val rfl (Val.move rfl) (by simp) rfl rfl ?_
    iterate 3 refine SX.skip rfl rfl rfl ?_
    refine SX.val rfl (Val.pickT rfl rfl) (by simp) rfl rfl ?_
    refine SX.nil (SE.seq ?_)
    refine SC.condT rfl ?_
    refine SC.seq (SC.region ?_)
    refine SL.val (Val.assign rfl) rfl rfl ?_
    refine SL.nil (SE.seq ?_)
    refine SC.ret ?_
    refine SE.ret ?_
    refine SE.then_ (by intro h; cases h) ?_
    refine SE.then_ (by intro h; cases h) ?_
    refine SE.ret ?_
    refine SE.then_ (by intro h; cases h) ?_
    refine SE.fin (rs := [.tmp 2]) rfl (RV.tmp rfl RV.nil) (()) (by repeat first|exact s0 _|exact s1 _|apply s2|apply s3) (by simp [It.rids]) ?_
    refine boo_dec0 fun he => ?_
    obtain ⟨g1, g2, g3⟩ := he.os.each y hlt
    have g4 := he.os.rise y hlt
    omega
  intro hc27
  refine SX.val rfl (Val.fieldAddr tabOk rfl rfl rfl rfl rfl) (by simp) rfl rfl ?_
  refine SX.val rfl (Val.to (C := int (l.os[y]'hlt).client) (Val.load1 tabOk rfl rfl (by first|(apply Or.inl;(repeat first|assumption|exact m0|apply m1);done)|(apply Or.inr;(repeat first|assumption|exact m0|apply m1);done)) List.not_mem_nil (by rfl)) rfl) hx9 rfl rfl ?_
  refine SX.val rfl (Val.ltI rfl rfl) (by simp) rfl rfl ?_
  refine SX.val rfl (Val.pickF rfl rfl) (by simp) rfl rfl ?_
  refine SX.val rfl (Val.move rfl) (by simp) rfl rfl ?_
  refine SX.bothP (t := 32) rfl ?_ ?_
  · intro hc32
    iterate 3 refine SX.skip rfl rfl rfl ?_
    refine SX.val rfl (Val.pickT rfl rfl) (by simp) rfl rfl ?_
    refine SX.val rfl (Val.move rfl) (by simp) rfl rfl ?_
    iterate 3 refine SX.skip rfl rfl rfl ?_
    refine SX.val rfl (Val.pickT rfl rfl) (by simp) rfl rfl ?_
    refine SX.val rfl (Val.move rfl) (by simp) rfl rfl ?_
    iterate 3 refine SX.skip rfl rfl rfl ?_
    refine SX.val rfl (Val.pickT rfl rfl) (by simp) rfl rfl ?_
    refine SX.val rfl (Val.move rfl) (by simp) rfl rfl ?_
    iterate 3 refine SX.skip rfl rfl rfl ?_
    refine SX.val rfl (Val.pickT rfl rfl) (by simp) rfl rfl ?_
    refine SX.val rfl (Val.move rfl) (by simp) rfl rfl ?_
    iterate 3 refine SX.skip rfl rfl rfl ?_
    refine SX.val rfl (Val.pickT rfl rfl) (by simp) rfl rfl ?_
    refine SX.nil (SE.seq ?_)
    refine SC.condT rfl ?_
    refine SC.seq (SC.region ?_)
    refine SL.val (Val.assign rfl) rfl rfl ?_
    refine SL.nil (SE.seq ?_)
    refine SC.ret ?_
    refine SE.ret ?_
    refine SE.then_ (by intro h; cases h) ?_
    refine SE.then_ (by intro h; cases h) ?_
    refine SE.ret ?_
    refine SE.then_ (by intro h; cases h) ?_
    refine SE.fin (rs := [.tmp 2]) rfl (RV.tmp rfl RV.nil) (()) (by repeat first|exact s0 _|exact s1 _|apply s2|apply s3) (by simp [It.rids]) ?_
    refine boo_dec0 fun he => ?_
    obtain ⟨g1, g2, g3⟩ := he.os.each y hlt
    have g4 := he.os.rise y hlt
    omega
  intro hc32
  refine SX.val rfl (Val.fieldAddr tabOk rfl rfl rfl rfl rfl) (by simp) rfl rfl ?_
  refine SX.val rfl (Val.to (C := int (l.os[y]'hlt).client) (Val.load1 tabOk rfl rfl (by first|(apply Or.inl;(repeat first|assumption|exact m0|apply m1);done)|(apply Or.inr;(repeat first|assumption|exact m0|apply m1);done)) List.not_mem_nil (by rfl)) rfl) hx9 rfl rfl ?_
  refine SX.val rfl (Val.gtI rfl rfl) (by simp) rfl rfl ?_
  refine SX.val rfl (Val.pickF rfl rfl) (by simp) rfl rfl ?_
  refine SX.val rfl (Val.move rfl) (by simp) rfl rfl ?_
  refine SX.bothP (t := 37) rfl ?_ ?_
  · intro hc37
    iterate 3 refine SX.skip rfl rfl rfl ?_
    refine SX.val rfl (Val.pickT rfl rfl) (by simp) rfl rfl ?_
    refine SX.val rfl (Val.move rfl) (by simp) rfl rfl ?_
    iterate 3 refine SX.skip rfl rfl rfl ?_
    refine SX.val rfl (Val.pickT rfl rfl) (by simp) rfl rfl ?_
    refine SX.val rfl (Val.move rfl) (by simp) rfl rfl ?_
    iterate 3 refine SX.skip rfl rfl rfl ?_
    refine SX.val rfl (Val.pickT rfl rfl) (by simp) rfl rfl ?_
    refine SX.val rfl (Val.move rfl) (by simp) rfl rfl ?_
    iterate 3 refine SX.skip rfl rfl rfl ?_
    refine SX.val rfl (Val.pickT rfl rfl) (by simp) rfl rfl ?_
    refine SX.nil (SE.seq ?_)
    refine SC.condT rfl ?_
    refine SC.seq (SC.region ?_)
    refine SL.val (Val.assign rfl) rfl rfl ?_
    refine SL.nil (SE.seq ?_)
    refine SC.ret ?_
    refine SE.ret ?_
    refine SE.then_ (by intro h; cases h) ?_
    refine SE.then_ (by intro h; cases h) ?_
    refine SE.ret ?_
    refine SE.then_ (by intro h; cases h) ?_
    refine SE.fin (rs := [.tmp 2]) rfl (RV.tmp rfl RV.nil) (()) (by repeat first|exact s0 _|exact s1 _|apply s2|apply s3) (by simp [It.rids]) ?_
    refine boo_dec0 fun he => ?_
    obtain ⟨g1, g2, g3⟩ := he.os.each y hlt
    have g4 := he.os.rise y hlt
    omega
  intro hc37
  refine SX.val rfl (Val.fieldAddr tabOk rfl rfl rfl rfl rfl) (by simp) rfl rfl ?_
  refine SX.val rfl (Val.to (C := int (l.os[y]'hlt).stamp) (Val.load1 tabOk rfl rfl (by first|(apply Or.inl;(repeat first|assumption|exact m0|apply m1);done)|(apply Or.inr;(repeat first|assumption|exact m0|apply m1);done)) List.not_mem_nil (by rfl)) rfl) hx9 rfl rfl ?_
  refine SX.val rfl (Val.ltI rfl rfl) (by simp) rfl rfl ?_
  refine SX.val rfl (Val.pickF rfl rfl) (by simp) rfl rfl ?_
  refine SX.val rfl (Val.move rfl) (by simp) rfl rfl ?_
  refine SX.bothP (t := 42) rfl ?_ ?_
  · intro hc42
    iterate 3 refine SX.skip rfl rfl rfl ?_
    refine SX.val rfl (Val.pickT rfl rfl) (by simp) rfl rfl ?_
    refine SX.val rfl (Val.move rfl) (by simp) rfl rfl ?_
    iterate 3 refine SX.skip rfl rfl rfl ?_
    refine SX.val rfl (Val.pickT rfl rfl) (by simp) rfl rfl ?_
    refine SX.val rfl (Val.move rfl) (by simp) rfl rfl ?_
    iterate 3 refine SX.skip rfl rfl rfl ?_
    refine SX.val rfl (Val.pickT rfl rfl) (by simp) rfl rfl ?_
    refine SX.nil (SE.seq ?_)
    refine SC.condT rfl ?_
    refine SC.seq (SC.region ?_)
    refine SL.val (Val.assign rfl) rfl rfl ?_
    refine SL.nil (SE.seq ?_)
    refine SC.ret ?_
    refine SE.ret ?_
    refine SE.then_ (by intro h; cases h) ?_
    refine SE.then_ (by intro h; cases h) ?_
    refine SE.ret ?_
    refine SE.then_ (by intro h; cases h) ?_
    refine SE.fin (rs := [.tmp 2]) rfl (RV.tmp rfl RV.nil) (()) (by repeat first|exact s0 _|exact s1 _|apply s2|apply s3) (by simp [It.rids]) ?_
    refine boo_dec0 fun he => ?_
    obtain ⟨g1, g2, g3⟩ := he.os.each y hlt
    have g4 := he.os.rise y hlt
    omega
  intro hc42
  refine SX.val rfl (Val.fieldAddr tabOk rfl rfl rfl rfl rfl) (by simp) rfl rfl ?_
  refine SX.val rfl (Val.to (C := int (l.os[y]'hlt).stamp) (Val.load1 tabOk rfl rfl (by first|(apply Or.inl;(repeat first|assumption|exact m0|apply m1);done)|(apply Or.inr;(repeat first|assumption|exact m0|apply m1);done)) List.not_mem_nil (by rfl)) rfl) hx9 rfl rfl ?_
  refine SX.val rfl (Val.gtI rfl rfl) (by simp) rfl rfl ?_
  refine SX.val rfl (Val.pickF rfl rfl) (by simp) rfl rfl ?_
  refine SX.val rfl (Val.move rfl) (by simp) rfl rfl ?_
  refine SX.bothP (t := 47) rfl ?_ ?_
  · intro hc47
    iterate 3 refine SX.skip rfl rfl rfl ?_
    refine SX.val rfl (Val.pickT rfl rfl) (by simp) rfl rfl ?_
    refine SX.val rfl (Val.move rfl) (by simp) rfl rfl ?_
    iterate 3 refine SX.skip rfl rfl rfl ?_
    refine SX.val rfl (Val.pickT rfl rfl) (by simp) rfl rfl ?_
    refine SX.nil (SE.seq ?_)
    refine SC.condT rfl ?_
    refine SC.seq (SC.region ?_)
    refine SL.val (Val.assign rfl) rfl rfl ?_
    refine SL.nil (SE.seq ?_)
    refine SC.ret ?_
    refine SE.ret ?_
    refine SE.then_ (by intro h; cases h) ?_
    refine SE.then_ (by intro h; cases h) ?_
    refine SE.ret ?_
    refine SE.then_ (by intro h; cases h) ?_
    refine SE.fin (rs := [.tmp 2]) rfl (RV.tmp rfl RV.nil) (()) (by repeat first|exact s0 _|exact s1 _|apply s2|apply s3) (by simp [It.rids]) ?_
    refine boo_dec0 fun he => ?_
    obtain ⟨g1, g2, g3⟩ := he.os.each y hlt
    have g4 := he.os.rise y hlt
    omega
  intro hc47
  refine SX.val rfl (Val.fieldAddr tabOk rfl rfl rfl rfl rfl) (by simp) rfl rfl ?_
  refine SX.val rfl (Val.to (C := int (l.os[y]'hlt).result) (Val.load1 tabOk rfl rfl (by first|(apply Or.inl;(repeat first|assumption|exact m0|apply m1);done)|(apply Or.inr;(repeat first|assumption|exact m0|apply m1);done)) List.not_mem_nil (by rfl)) rfl) hx9 rfl rfl ?_
  refine SX.val rfl (Val.ltI rfl rfl) (by simp) rfl rfl ?_
  refine SX.val rfl (Val.pickF rfl rfl) (by simp) rfl rfl ?_
  refine SX.val rfl (Val.move rfl) (by simp) rfl rfl ?_
  refine SX.bothP (t := 52) rfl ?_ ?_
  · intro hc52
    iterate 3 refine SX.skip rfl rfl rfl ?_
    refine SX.val rfl (Val.pickT rfl rfl) (by simp) rfl rfl ?_
    refine SX.nil (SE.seq ?_)
    refine SC.condT rfl ?_
    refine SC.seq (SC.region ?_)
    refine SL.val (Val.assign rfl) rfl rfl ?_
    refine SL.nil (SE.seq ?_)
    refine SC.ret ?_
    refine SE.ret ?_
    refine SE.then_ (by intro h; cases h) ?_
    refine SE.then_ (by intro h; cases h) ?_
    refine SE.ret ?_
    refine SE.then_ (by intro h; cases h) ?_
    refine SE.fin (rs := [.tmp 2]) rfl (RV.tmp rfl RV.nil) (()) (by repeat first|exact s0 _|exact s1 _|apply s2|apply s3) (by simp [It.rids]) ?_
    refine boo_dec0 fun he => ?_
    obtain ⟨g1, g2, g3⟩ := he.os.each y hlt
    have g4 := he.os.rise y hlt
    omega
  intro hc52
  refine SX.val rfl (Val.fieldAddr tabOk rfl rfl rfl rfl rfl) (by simp) rfl rfl ?_
  refine SX.val rfl (Val.to (C := int (l.os[y]'hlt).result) (Val.load1 tabOk rfl rfl (by first|(apply Or.inl;(repeat first|assumption|exact m0|apply m1);done)|(apply Or.inr;(repeat first|assumption|exact m0|apply m1);done)) List.not_mem_nil (by rfl)) rfl) hx9 rfl rfl ?_
  refine SX.val rfl (Val.gtI rfl rfl) (by simp) rfl rfl ?_
  refine SX.val rfl (Val.pickF rfl rfl) (by simp) rfl rfl ?_
  refine SX.nil (SE.seq ?_)
  refine SC.condP rfl ?_ ?_
  rotate_left
  · intro hc56
    refine SC.skip ?_
    refine SE.inBlock ?_
    refine SE.seq ?_
    refine SC.region ?_
    first
      | refine SL.val (Val.addI rfl rfl (by simp only [InR, lo, hi]; omega)) rfl rfl ?_
      | refine SL.val (Val.addW rfl rfl) rfl rfl ?_
    refine SL.val (Val.move rfl) rfl rfl ?_
    refine SL.nil ?_
    have hok : OcR (l.os[y]'hlt) := ⟨by omega, by omega, by omega⟩
    have hri : 0 < y → (l.os[y - 1]'(by omega)).client < (l.os[y]'hlt).client := fun h => by omega
    refine SE.round (y + 1) (by first | omega | (dsimp only; omega)) (⟨by omega, fun j h h2 => by rcases Nat.lt_or_ge j y with h3 | h3; exact hy.2 j h h3; obtain rfl : j = y := (by omega); exact ⟨hok, hri⟩⟩) (by exact ⟨rfl, rfl, rfl, rfl, trivial⟩) (by repeat first|exact s0 _|exact s1 _|apply s2|apply s3)
  intro hc56
  refine SC.seq (SC.region ?_)
  refine SL.val (Val.assign rfl) rfl rfl ?_
  refine SL.nil (SE.seq ?_)
  refine SC.ret ?_
  refine SE.ret ?_
  refine SE.then_ (by intro h; cases h) ?_
  refine SE.then_ (by intro h; cases h) ?_
  refine SE.ret ?_
  refine SE.then_ (by intro h; cases h) ?_
  refine SE.fin (rs := [.tmp 2]) rfl (RV.tmp rfl RV.nil) (()) (by repeat first|exact s0 _|exact s1 _|apply s2|apply s3) (by simp [It.rids]) ?_
  refine boo_dec0 fun he => ?_
  obtain ⟨g1, g2, g3⟩ := he.os.each y hlt
  have g4 := he.os.rise y hlt
  omega
end
end Go.Proofs.YtkeapnefdjkhoaaGreatDoor.A
/-
  Batches; what may be asked about.
-/
set_option maxRecDepth 100000
set_option linter.unusedSimpArgs false
set_option linter.unusedVariables false
namespace Go.Proofs.YtkeapnefdjkhoaaGreatDoor.A
open Go.RowKit

section
variable {l a b : Lg} {x : Ltr} {o : Oc} {k n : Int} {s : ByteArray} {c : Core} {e : Ent} {p : Nat} {es : List Ent} {e1 e2 : Value}
set_option maxHeartbeats 2000000 in
theorem few14_s  : Spec Tryz.prog 7 [.agg l.abs, entsR es] [] (fun _ : Unit => []) (fun _ => boo (decide (FewC l es))) := by
  refine spec_of Tryz.func7 rfl Tryz.ntmps7 rfl fun G w => ?_
  refine SC.seq (SC.region ?_)
  refine SL.eff (Eff.boxA (cs := l.abs) rfl) rfl rfl ?_
  rintro _ _ ⟨b2, rfl, rfl⟩
  refine SL.val (Val.assign rfl) rfl rfl ?_
  refine SL.nil (SE.seq ?_)
  refine SC.cutS (ι := Unit) (fun z => [.blk b2 25 l.abs]) (fun z => [(1, entsR es), (2, ptr b2)]) (fun z => ∀ j (h : j < l.ls.length), l.ls[j].name.size ≤ 100 ∧ l.ls[j].policy.size ≤ 300 ∧ l.ls[j].papers.size ≤ 300) ?_ ?_
  · skip
    refine SC.seq (SC.region ?_)
    refine SL.val (Val.fieldAddr tabOk rfl rfl rfl rfl rfl) rfl rfl ?_
    refine SL.val (Val.to (C := .sl 6 (l.ls.map ltrA)) (Val.load1 tabOk rfl rfl (by first|(apply Or.inl;(repeat first|assumption|exact m0|apply m1);done)|(apply Or.inr;(repeat first|assumption|exact m0|apply m1);done)) List.not_mem_nil (by rfl)) rfl) rfl rfl ?_
    first
      | refine SL.val (Val.lenSl rfl Tryz.underlying22 (List.length_map _)) rfl rfl ?_
      | refine SL.val (Val.lenOwn rfl (by repeat first|assumption|exact m0|apply m1) Tryz.underlying22 (List.length_map _)) rfl rfl ?_
      | refine SL.val (Val.lenNil rfl Tryz.underlying22) rfl rfl ?_
    refine SL.val (Val.move rfl) rfl rfl ?_
    refine SL.nil (SE.seq ?_)
    refine SC.block ?_
    refine SC.rowLe (i := 10) rfl fun hrow => ?_
    rw [List.length_map] at hrow
    unfold maxLen at hrow
    refine SC.loop (ι := Nat) (fun z => [.blk b2 25 l.abs]) (fun z => [(1, entsR es), (2, ptr b2), (10, ltrsA l.ls), (11, int (l.ls.length : Nat)), (12, int (z : Nat))]) (fun z => z ≤ l.ls.length ∧ ∀ j (h : j < l.ls.length), j < z → l.ls[j].name.size ≤ 100 ∧ l.ls[j].policy.size ≤ 300 ∧ l.ls[j].papers.size ≤ 300) (fun z => l.ls.length - z) (0) (⟨Nat.zero_le _, fun j h h2 => by omega⟩) (by exact ⟨rfl, rfl, rfl, rfl, rfl, trivial⟩) (by repeat first|exact s0 _|exact s1 _|apply s2|apply s3) ?_
    intro z hz
    refine SC.seq (SC.region ?_)
    refine SL.val (Val.ltI rfl rfl) rfl rfl ?_
    refine SL.nil (SE.seq ?_)
    refine SC.seq ?_
    refine SC.condP rfl ?_ ?_
    rotate_left
    · intro hc13
      refine SC.exit ?_
      refine SE.then_ (by intro h; cases h) ?_
      refine SE.then_ (by intro h; cases h) ?_
      refine SE.exit ?_
      refine SE.meet (()) (fun j h => hz.2 j h (by omega)) (by exact ⟨rfl, rfl, trivial⟩) (by repeat first|exact s0 _|exact s1 _|apply s2|apply s3)
    intro hc13
    have hlt : z < l.ls.length := by omega
    refine SC.skip ?_
    refine SE.seq ?_
    refine SC.seq ?_
    refine SC.block ?_
    refine SC.seq (SC.region ?_)
    refine SL.val (Val.indexSl tabOk Tryz.underlying22 rfl rfl rfl rfl (at_map (by omega)) rfl rfl) rfl rfl ?_
    refine SL.val (Val.loadAR tabOk rfl rfl rfl (by rfl)) rfl rfl ?_
    refine SL.eff (Eff.alloc tabOk rfl) rfl rfl ?_
    rintro _ _ ⟨b6, rfl, rfl⟩
    refine SL.eff (Eff.store (L' := ltrA (l.ls[z]'hlt)) tabOk rfl rfl rfl (by repeat first|assumption|exact Upd.here|apply Upd.there) rfl (Nat.le_of_ble_eq_true (by rfl)) rfl (by exact putL_whole rfl)) rfl rfl ?_
    rintro _ _ ⟨rfl, rfl⟩
    refine SL.nil (SE.seq ?_)
    refine SC.seq (SC.region ?_)
    refine SL.val (Val.fieldAddr tabOk rfl rfl rfl rfl rfl) rfl rfl ?_
    refine SL.val (Val.to (C := st (l.ls[z]'hlt).name) (Val.load1 tabOk rfl rfl (by first|(apply Or.inl;(repeat first|assumption|exact m0|apply m1);done)|(apply Or.inr;(repeat first|assumption|exact m0|apply m1);done)) List.not_mem_nil (by rfl)) rfl) rfl rfl ?_
    refine SL.val (Val.lenSt rfl Tryz.underlying9) rfl rfl ?_
    refine SL.val (Val.gtI rfl rfl) rfl rfl ?_
    refine SL.val (Val.move rfl) rfl rfl ?_
    refine SL.bothP (t := 20) rfl ?_ ?_
    · intro hc20
      iterate 4 refine SL.skip rfl rfl ?_
      refine SL.val (Val.pickT rfl rfl) rfl rfl ?_
      refine SL.val (Val.move rfl) rfl rfl ?_
      iterate 4 refine SL.skip rfl rfl ?_
      refine SL.val (Val.pickT rfl rfl) rfl rfl ?_
      refine SL.nil (SE.seq ?_)
      refine SC.condT rfl ?_
      refine SC.seq (SC.region ?_)
      refine SL.val (Val.assign rfl) rfl rfl ?_
      refine SL.nil (SE.seq ?_)
      refine SC.ret ?_
      refine SE.ret ?_
      refine SE.then_ (by intro h; cases h) ?_
      refine SE.then_ (by intro h; cases h) ?_
      refine SE.ret ?_
      refine SE.then_ (by intro h; cases h) ?_
      refine SE.fin (rs := [.tmp 4]) rfl (RV.tmp rfl RV.nil) (()) (by repeat first|exact s0 _|exact s1 _|apply s2|apply s3) (by simp [It.rids]) ?_
      refine boo_dec0 fun he => ?_
      have := he.ls z hlt
      omega
    intro hc20
    refine SL.val (Val.fieldAddr tabOk rfl rfl rfl rfl rfl) rfl rfl ?_
    refine SL.val (Val.to (C := st (l.ls[z]'hlt).policy) (Val.load1 tabOk rfl rfl (by first|(apply Or.inl;(repeat first|assumption|exact m0|apply m1);done)|(apply Or.inr;(repeat first|assumption|exact m0|apply m1);done)) List.not_mem_nil (by rfl)) rfl) rfl rfl ?_
    refine SL.val (Val.lenSt rfl Tryz.underlying9) rfl rfl ?_
    refine SL.val (Val.gtI rfl rfl) rfl rfl ?_
    refine SL.val (Val.pickF rfl rfl) rfl rfl ?_
    refine SL.val (Val.move rfl) rfl rfl ?_
    refine SL.bothP (t := 26) rfl ?_ ?_
    · intro hc26
      iterate 4 refine SL.skip rfl rfl ?_
      refine SL.val (Val.pickT rfl rfl) rfl rfl ?_
      refine SL.nil (SE.seq ?_)
      refine SC.condT rfl ?_
      refine SC.seq (SC.region ?_)
      refine SL.val (Val.assign rfl) rfl rfl ?_
      refine SL.nil (SE.seq ?_)
      refine SC.ret ?_
      refine SE.ret ?_
      refine SE.then_ (by intro h; cases h) ?_
      refine SE.then_ (by intro h; cases h) ?_
      refine SE.ret ?_
      refine SE.then_ (by intro h; cases h) ?_
      refine SE.fin (rs := [.tmp 4]) rfl (RV.tmp rfl RV.nil) (()) (by repeat first|exact s0 _|exact s1 _|apply s2|apply s3) (by simp [It.rids]) ?_
      refine boo_dec0 fun he => ?_
      have := he.ls z hlt
      omega
    intro hc26
    refine SL.val (Val.fieldAddr tabOk rfl rfl rfl rfl rfl) rfl rfl ?_
    refine SL.val (Val.to (C := st (l.ls[z]'hlt).papers) (Val.load1 tabOk rfl rfl (by first|(apply Or.inl;(repeat first|assumption|exact m0|apply m1);done)|(apply Or.inr;(repeat first|assumption|exact m0|apply m1);done)) List.not_mem_nil (by rfl)) rfl) rfl rfl ?_
    refine SL.val (Val.lenSt rfl Tryz.underlying9) rfl rfl ?_
    refine SL.val (Val.gtI rfl rfl) rfl rfl ?_
    refine SL.val (Val.pickF rfl rfl) rfl rfl ?_
    refine SL.nil (SE.seq ?_)
    refine SC.condP rfl ?_ ?_
    rotate_left
    · intro hc31
      refine SC.skip ?_
      refine SE.inBlock ?_
      refine SE.seq ?_
      refine SC.region ?_
      first
        | refine SL.val (Val.addI rfl rfl (by simp only [InR, lo, hi]; omega)) rfl rfl ?_
        | refine SL.val (Val.addW rfl rfl) rfl rfl ?_
      refine SL.val (Val.move rfl) rfl rfl ?_
      refine SL.nil ?_
      refine SE.round (z + 1) (by first | omega | (dsimp only; omega)) (⟨by omega, fun j h h2 => by rcases Nat.lt_or_ge j z with h3 | h3; exact hz.2 j h h3; obtain rfl : j = z := (by omega); omega⟩) (by exact ⟨rfl, rfl, rfl, rfl, rfl, trivial⟩) (by repeat first|exact s0 _|exact s1 _|apply s2|apply s3)
    intro hc31
    refine SC.seq (SC.region ?_)
    refine SL.val (Val.assign rfl) rfl rfl ?_
    refine SL.nil (SE.seq ?_)
    refine SC.ret ?_
    refine SE.ret ?_
    refine SE.then_ (by intro h; cases h) ?_
    refine SE.then_ (by intro h; cases h) ?_
    refine SE.ret ?_
    refine SE.then_ (by intro h; cases h) ?_
    refine SE.fin (rs := [.tmp 4]) rfl (RV.tmp rfl RV.nil) (()) (by repeat first|exact s0 _|exact s1 _|apply s2|apply s3) (by simp [It.rids]) ?_
    refine boo_dec0 fun he => ?_
    have := he.ls z hlt
    omega
  · intro z0 hls
    refine SC.seq ?_
    refine SC.seq (SC.region ?_)
    refine SL.val (Val.move rfl) rfl rfl ?_
    first
      | refine SL.val (Val.lenSl rfl Tryz.underlying33 (List.length_map _)) rfl rfl ?_
      | refine SL.val (Val.lenOwn rfl (by repeat first|assumption|exact m0|apply m1) Tryz.underlying33 (List.length_map _)) rfl rfl ?_
      | refine SL.val (Val.lenNil rfl Tryz.underlying33) rfl rfl ?_
    refine SL.val (Val.move rfl) rfl rfl ?_
    refine SL.nil (SE.seq ?_)
    refine SC.block ?_
    refine SC.rowLe (i := 33) rfl fun hro2 => ?_
    rw [List.length_map] at hro2
    unfold maxLen at hro2
    refine SC.loop (ι := Nat) (fun z => [.blk b2 25 l.abs]) (fun z => [(1, entsR es), (2, ptr b2), (33, entsR es), (34, int (es.length : Nat)), (35, int (z : Nat))]) (fun z => z ≤ es.length ∧ ∀ j (h : j < es.length), j < z → es[j].core.letter.size ≤ 100 ∧ es[j].core.text.size ≤ 300) (fun z => es.length - z) (0) (⟨Nat.zero_le _, fun j h h2 => by omega⟩) (by exact ⟨rfl, rfl, rfl, rfl, rfl, trivial⟩) (by repeat first|exact s0 _|exact s1 _|apply s2|apply s3) ?_
    intro z hz
    refine SC.seq (SC.region ?_)
    refine SL.val (Val.ltI rfl rfl) rfl rfl ?_
    refine SL.nil (SE.seq ?_)
    refine SC.seq ?_
    refine SC.condP rfl ?_ ?_
    rotate_left
    · intro hc36
      refine SC.exit ?_
      refine SE.then_ (by intro h; cases h) ?_
      refine SE.then_ (by intro h; cases h) ?_
      refine SE.exit ?_
      refine SE.seq ?_
      refine SC.seq (SC.region ?_)
      refine SL.val (Val.fieldAddr tabOk rfl rfl rfl rfl rfl) rfl rfl ?_
      refine SL.val (Val.to (C := .sl 6 (l.ls.map ltrA)) (Val.load1 tabOk rfl rfl (by first|(apply Or.inl;(repeat first|assumption|exact m0|apply m1);done)|(apply Or.inr;(repeat first|assumption|exact m0|apply m1);done)) List.not_mem_nil (by rfl)) rfl) rfl rfl ?_
      first
        | refine SL.val (Val.lenSl rfl Tryz.underlying22 (List.length_map _)) rfl rfl ?_
        | refine SL.val (Val.lenOwn rfl (by repeat first|assumption|exact m0|apply m1) Tryz.underlying22 (List.length_map _)) rfl rfl ?_
        | refine SL.val (Val.lenNil rfl Tryz.underlying22) rfl rfl ?_
      refine SL.val (Val.leI rfl rfl) rfl rfl ?_
      refine SL.val (Val.move rfl) rfl rfl ?_
      refine SL.bothP (t := 56) rfl ?_ ?_
      rotate_left
      · intro hc56
        iterate 4 refine SL.skip rfl rfl ?_
        refine SL.val (Val.pickF rfl rfl) rfl rfl ?_
        refine SL.val (Val.move rfl) rfl rfl ?_
        iterate 3 refine SL.skip rfl rfl ?_
        refine SL.val (Val.pickF rfl rfl) rfl rfl ?_
        refine SL.val (Val.assign rfl) rfl rfl ?_
        refine SL.nil (SE.seq ?_)
        refine SC.ret ?_
        refine SE.fin (rs := [.tmp 4]) rfl (RV.tmp rfl RV.nil) (()) (by repeat first|exact s0 _|exact s1 _|apply s2|apply s3) (by simp [It.rids]) ?_
        first
          | (refine boo_dec0 fun he => ?_; have g1 := he.nl; have g2 := he.no; have g3 := he.ne; omega)
          | (refine congrArg (fun b => Abs.v (Value.bool b)) ?_; rw [decide_eq_decide]; exact ⟨fun h => ⟨hls, fun j h1 => hz.2 j h1 (by omega), by omega, by omega, by omega⟩, fun h => by have := h.ne; omega⟩)
      intro hc56
      refine SL.val (Val.fieldAddr tabOk rfl rfl rfl rfl rfl) rfl rfl ?_
      refine SL.val (Val.to (C := .sl 3 (l.os.map Oc.abs)) (Val.load1 tabOk rfl rfl (by first|(apply Or.inl;(repeat first|assumption|exact m0|apply m1);done)|(apply Or.inr;(repeat first|assumption|exact m0|apply m1);done)) List.not_mem_nil (by rfl)) rfl) rfl rfl ?_
      first
        | refine SL.val (Val.lenSl rfl Tryz.underlying23 (List.length_map _)) rfl rfl ?_
        | refine SL.val (Val.lenOwn rfl (by repeat first|assumption|exact m0|apply m1) Tryz.underlying23 (List.length_map _)) rfl rfl ?_
        | refine SL.val (Val.lenNil rfl Tryz.underlying23) rfl rfl ?_
      refine SL.val (Val.leI rfl rfl) rfl rfl ?_
      refine SL.val (Val.pickT rfl rfl) rfl rfl ?_
      refine SL.val (Val.move rfl) rfl rfl ?_
      refine SL.bothP (t := 62) rfl ?_ ?_
      rotate_left
      · intro hc62
        iterate 3 refine SL.skip rfl rfl ?_
        refine SL.val (Val.pickF rfl rfl) rfl rfl ?_
        refine SL.val (Val.assign rfl) rfl rfl ?_
        refine SL.nil (SE.seq ?_)
        refine SC.ret ?_
        refine SE.fin (rs := [.tmp 4]) rfl (RV.tmp rfl RV.nil) (()) (by repeat first|exact s0 _|exact s1 _|apply s2|apply s3) (by simp [It.rids]) ?_
        first
          | (refine boo_dec0 fun he => ?_; have g1 := he.nl; have g2 := he.no; have g3 := he.ne; omega)
          | (refine congrArg (fun b => Abs.v (Value.bool b)) ?_; rw [decide_eq_decide]; exact ⟨fun h => ⟨hls, fun j h1 => hz.2 j h1 (by omega), by omega, by omega, by omega⟩, fun h => by have := h.ne; omega⟩)
      intro hc62
      refine SL.val (Val.move rfl) rfl rfl ?_
      first
        | refine SL.val (Val.lenSl rfl Tryz.underlying33 (List.length_map _)) rfl rfl ?_
        | refine SL.val (Val.lenOwn rfl (by repeat first|assumption|exact m0|apply m1) Tryz.underlying33 (List.length_map _)) rfl rfl ?_
        | refine SL.val (Val.lenNil rfl Tryz.underlying33) rfl rfl ?_
      refine SL.val (Val.leI rfl rfl) rfl rfl ?_
      refine SL.val (Val.pickT rfl rfl) rfl rfl ?_
      refine SL.val (Val.assign rfl) rfl rfl ?_
      refine SL.nil (SE.seq ?_)
      refine SC.ret ?_
      refine SE.fin (rs := [.tmp 4]) rfl (RV.tmp rfl RV.nil) (()) (by repeat first|exact s0 _|exact s1 _|apply s2|apply s3) (by simp [It.rids]) ?_
      first
        | (refine boo_dec0 fun he => ?_; have g1 := he.nl; have g2 := he.no; have g3 := he.ne; omega)
        | (refine congrArg (fun b => Abs.v (Value.bool b)) ?_; rw [decide_eq_decide]; exact ⟨fun h => ⟨hls, fun j h1 => hz.2 j h1 (by omega), by omega, by omega, by omega⟩, fun h => by have := h.ne; omega⟩)
    intro hc36
    have hlt : z < es.length := by omega
    refine SC.skip ?_
    refine SE.seq ?_
    refine SC.seq ?_
    refine SC.block ?_
    refine SC.seq (SC.region ?_)
    refine SL.val (Val.indexSl tabOk Tryz.underlying33 rfl rfl rfl rfl (at_map (by omega)) rfl rfl) rfl rfl ?_
    refine SL.val (Val.loadAR tabOk rfl rfl rfl (by rfl)) rfl rfl ?_
    refine SL.eff (Eff.alloc tabOk rfl) rfl rfl ?_
    rintro _ _ ⟨b8, rfl, rfl⟩
    refine SL.eff (Eff.store (L' := entA (es[z]'hlt)) tabOk rfl rfl rfl (by repeat first|assumption|exact Upd.here|apply Upd.there) rfl (Nat.le_of_ble_eq_true (by rfl)) rfl (by exact putL_whole rfl)) rfl rfl ?_
    rintro _ _ ⟨rfl, rfl⟩
    refine SL.nil (SE.seq ?_)
    refine SC.seq (SC.region ?_)
    refine SL.val (Val.fieldAddr tabOk rfl rfl rfl rfl rfl) rfl rfl ?_
    refine SL.val (Val.fieldAddr tabOk rfl rfl rfl rfl rfl) rfl rfl ?_
    refine SL.val (Val.to (C := st (es[z]'hlt).core.letter) (Val.load1 tabOk rfl rfl (by first|(apply Or.inl;(repeat first|assumption|exact m0|apply m1);done)|(apply Or.inr;(repeat first|assumption|exact m0|apply m1);done)) List.not_mem_nil (by rfl)) rfl) rfl rfl ?_
    refine SL.val (Val.lenSt rfl Tryz.underlying9) rfl rfl ?_
    refine SL.val (Val.gtI rfl rfl) rfl rfl ?_
    refine SL.val (Val.move rfl) rfl rfl ?_
    refine SL.bothP (t := 44) rfl ?_ ?_
    · intro hc44
      iterate 5 refine SL.skip rfl rfl ?_
      refine SL.val (Val.pickT rfl rfl) rfl rfl ?_
      refine SL.nil (SE.seq ?_)
      refine SC.condT rfl ?_
      refine SC.seq (SC.region ?_)
      refine SL.val (Val.assign rfl) rfl rfl ?_
      refine SL.nil (SE.seq ?_)
      refine SC.ret ?_
      refine SE.ret ?_
      refine SE.then_ (by intro h; cases h) ?_
      refine SE.then_ (by intro h; cases h) ?_
      refine SE.ret ?_
      refine SE.then_ (by intro h; cases h) ?_
      refine SE.fin (rs := [.tmp 4]) rfl (RV.tmp rfl RV.nil) (()) (by repeat first|exact s0 _|exact s1 _|apply s2|apply s3) (by simp [It.rids]) ?_
      refine boo_dec0 fun he => ?_
      have := he.en z hlt
      omega
    intro hc44
    refine SL.val (Val.fieldAddr tabOk rfl rfl rfl rfl rfl) rfl rfl ?_
    refine SL.val (Val.fieldAddr tabOk rfl rfl rfl rfl rfl) rfl rfl ?_
    refine SL.val (Val.to (C := st (es[z]'hlt).core.text) (Val.load1 tabOk rfl rfl (by first|(apply Or.inl;(repeat first|assumption|exact m0|apply m1);done)|(apply Or.inr;(repeat first|assumption|exact m0|apply m1);done)) List.not_mem_nil (by rfl)) rfl) rfl rfl ?_
    refine SL.val (Val.lenSt rfl Tryz.underlying9) rfl rfl ?_
    refine SL.val (Val.gtI rfl rfl) rfl rfl ?_
    refine SL.val (Val.pickF rfl rfl) rfl rfl ?_
    refine SL.nil (SE.seq ?_)
    refine SC.condP rfl ?_ ?_
    rotate_left
    · intro hc50
      refine SC.skip ?_
      refine SE.inBlock ?_
      refine SE.seq ?_
      refine SC.region ?_
      first
        | refine SL.val (Val.addI rfl rfl (by simp only [InR, lo, hi]; omega)) rfl rfl ?_
        | refine SL.val (Val.addW rfl rfl) rfl rfl ?_
      refine SL.val (Val.move rfl) rfl rfl ?_
      refine SL.nil ?_
      refine SE.round (z + 1) (by first | omega | (dsimp only; omega)) (⟨by omega, fun j h h2 => by rcases Nat.lt_or_ge j z with h3 | h3; exact hz.2 j h h3; obtain rfl : j = z := (by omega); omega⟩) (by exact ⟨rfl, rfl, rfl, rfl, rfl, trivial⟩) (by repeat first|exact s0 _|exact s1 _|apply s2|apply s3)
    intro hc50
    refine SC.seq (SC.region ?_)
    refine SL.val (Val.assign rfl) rfl rfl ?_
    refine SL.nil (SE.seq ?_)
    refine SC.ret ?_
    refine SE.ret ?_
    refine SE.then_ (by intro h; cases h) ?_
    refine SE.then_ (by intro h; cases h) ?_
    refine SE.ret ?_
    refine SE.then_ (by intro h; cases h) ?_
    refine SE.fin (rs := [.tmp 4]) rfl (RV.tmp rfl RV.nil) (()) (by repeat first|exact s0 _|exact s1 _|apply s2|apply s3) (by simp [It.rids]) ?_
    refine boo_dec0 fun he => ?_
    have := he.en z hlt
    omega
end
end Go.Proofs.YtkeapnefdjkhoaaGreatDoor.A
/-
  Rows with keys in order, plain: what is put in keeps the order; unlike keys may go in any order.
-/
set_option maxRecDepth 100000
set_option linter.unusedSimpArgs false
set_option linter.unusedVariables false
namespace Go.Proofs.YtkeapnefdjkhoaaGreatDoor.A
open Go.RowKit

/-- Keys in a strict order. -/
structure KOrd {α κ : Type} (key : α → κ) (lt : κ → κ → Prop) (eq gt : κ → α → Bool) : Prop where
  irr : ∀ k, ¬ lt k k
  trans : ∀ {a b c}, lt a b → lt b c → lt a c
  tri : ∀ a b, lt a b ∨ a = b ∨ lt b a
  eq_ : ∀ k x, eq k x = true ↔ key x = k
  gt_ : ∀ k x, gt k x = true ↔ lt k (key x)
theorem ltrOrd : KOrd (fun x : Ltr => x.name) ltB eqL gtL := ⟨ltB_irr, ltB_trans, ltB_tri, fun _ _ => decide_eq_true_iff, fun _ _ => decide_eq_true_iff⟩
theorem ocOrd : KOrd (fun o : Oc => o.client) (fun a b : Int => a < b) eqO gtO := ⟨fun k => by omega, fun h k => by omega, fun a b => by omega, fun _ _ => decide_eq_true_iff, fun _ _ => decide_eq_true_iff⟩
section
variable {α κ : Type} {key : α → κ} {lt : κ → κ → Prop} {eq gt : κ → α → Bool}
/-- In order. -/
def Asc (key : α → κ) (lt : κ → κ → Prop) (l : List α) : Prop := (l.map key).Pairwise lt
theorem Asc.of_adj (h : KOrd key lt eq gt) {l : List α} (ha : ∀ j (hj : j < l.length), 0 < j → lt (key (l[j - 1]'(by omega))) (key l[j])) : Asc key lt l := by
  unfold Asc
  rw [List.pairwise_iff_getElem]
  intro i j hi hj hij
  simp only [List.length_map] at hi hj
  simp only [List.getElem_map]
  have aux : ∀ d (hd : i + d + 1 < l.length), lt (key (l[i]'hi)) (key (l[i + d + 1]'hd)) := by
    intro d
    induction d with
    | zero => intro hd; exact ha (i + 1) hd (by omega)
    | succ d ih => intro hd; exact h.trans (ih (by omega)) (ha (i + (d + 1) + 1) hd (by omega))
  have h2 := aux (j - i - 1) (by omega)
  simpa only [show i + (j - i - 1) + 1 = j by omega] using h2
theorem Asc.adj {l : List α} (h : Asc key lt l) : ∀ j (hj : j < l.length), 0 < j → lt (key (l[j - 1]'(by omega))) (key l[j]) := fun j hj h0 => by
  unfold Asc at h
  rw [List.pairwise_iff_getElem] at h
  have := h (j - 1) j (by rw [List.length_map]; omega) (by rw [List.length_map]; omega) (by omega)
  simpa only [List.getElem_map] using this
theorem asc_cons {x : α} {l : List α} : Asc key lt (x :: l) ↔ (∀ y ∈ l, lt (key x) (key y)) ∧ Asc key lt l := by
  unfold Asc
  rw [List.map_cons, List.pairwise_cons]
  simp
theorem putG_keys {x : α} (h : KOrd key lt eq gt) : ∀ {l : List α}, l.any (eq (key x)) = true → (putG (eq (key x)) true x l).map key = l.map key
  | [], hl => by simp at hl
  | y :: l, hl => by
    unfold putG
    by_cases hy : eq (key x) y = true
    · rw [if_pos hy, if_pos rfl, List.map_cons, List.map_cons, (h.eq_ _ _).1 hy]
    · have h1 : l.any (eq (key x)) = true := by simpa [hy] using hl
      rw [if_neg hy, List.map_cons, List.map_cons, putG_keys h h1]
theorem putG_asc {x : α} (h : KOrd key lt eq gt) : ∀ {l : List α}, l.any (eq (key x)) = false → Asc key lt l → Asc key lt (putG (gt (key x)) false x l)
  | [], _, _ => by simp [putG, Asc]
  | y :: l, hn, ha => by
    obtain ⟨h1, h2⟩ := asc_cons.1 ha
    simp only [List.any_cons, Bool.or_eq_false_iff] at hn
    unfold putG
    by_cases hy : gt (key x) y = true
    · rw [if_pos hy, if_neg (by decide)]
      have hxy := (h.gt_ _ _).1 hy
      refine asc_cons.2 ⟨fun z hz => ?_, ha⟩
      rcases List.mem_cons.1 hz with rfl | hz
      · exact hxy
      · exact h.trans hxy (h1 z hz)
    · rw [if_neg hy]
      refine asc_cons.2 ⟨fun z hz => ?_, putG_asc h hn.2 h2⟩
      rcases putG_mem hz with rfl | hz
      · rcases h.tri (key y) (key z) with h3 | h3 | h3
        · exact h3
        · have := (h.eq_ (key z) y).2 h3
          rw [hn.1] at this; cases this
        · exact absurd ((h.gt_ _ _).2 h3) hy
      · exact h1 z hz
theorem withG_asc {x : α} (h : KOrd key lt eq gt) {l : List α} (ha : Asc key lt l) : Asc key lt (withG (eq (key x)) (gt (key x)) x l) := by
  unfold withG
  split
  · next hl => unfold Asc; rw [putG_keys h hl]; exact ha
  · next hl => exact putG_asc h (by simpa using hl) ha
/-- Who is in it. -/
theorem putG_true_mem {x z : α} (h : KOrd key lt eq gt) : ∀ {l : List α}, Asc key lt l → l.any (eq (key x)) = true → (z ∈ putG (eq (key x)) true x l ↔ z = x ∨ (z ∈ l ∧ key z ≠ key x))
  | [], _, hl => by simp at hl
  | y :: l, ha, hl => by
    obtain ⟨h1, h2⟩ := asc_cons.1 ha
    unfold putG
    by_cases hy : eq (key x) y = true
    · have hk := (h.eq_ _ _).1 hy
      rw [if_pos hy, if_pos rfl]
      simp only [List.mem_cons]
      constructor
      · rintro (rfl | hz)
        · exact .inl rfl
        · exact .inr ⟨.inr hz, fun e => h.irr (key y) (by have := h1 z hz; rw [e, ← hk] at this; exact this)⟩
      · rintro (rfl | ⟨rfl | hz, hne⟩)
        · exact .inl rfl
        · exact absurd hk hne
        · exact .inr hz
    · have hl2 : l.any (eq (key x)) = true := by simpa [hy] using hl
      rw [if_neg hy]
      simp only [List.mem_cons]
      rw [putG_true_mem h h2 hl2]
      have hne : key y ≠ key x := fun e => hy ((h.eq_ _ _).2 e)
      constructor
      · rintro (rfl | rfl | ⟨hz, hk⟩)
        · exact .inr ⟨.inl rfl, hne⟩
        · exact .inl rfl
        · exact .inr ⟨.inr hz, hk⟩
      · rintro (rfl | ⟨rfl | hz, hk⟩)
        · exact .inr (.inl rfl)
        · exact .inl rfl
        · exact .inr (.inr ⟨hz, hk⟩)
theorem putG_false_mem {p : α → Bool} {x z : α} : ∀ {l : List α}, z ∈ putG p false x l ↔ z = x ∨ z ∈ l
  | [] => by simp [putG]
  | y :: l => by
    unfold putG
    by_cases hy : p y = true
    · rw [if_pos hy, if_neg (by decide)]
      simp only [List.mem_cons]
    · rw [if_neg hy]
      simp only [List.mem_cons]
      rw [putG_false_mem]
      constructor
      · rintro (h | h | h) <;> simp [h]
      · rintro (h | h | h) <;> simp [h]
theorem withG_iff {x z : α} (h : KOrd key lt eq gt) {l : List α} (ha : Asc key lt l) : z ∈ withG (eq (key x)) (gt (key x)) x l ↔ z = x ∨ (z ∈ l ∧ key z ≠ key x) := by
  unfold withG
  split
  · next hl => exact putG_true_mem h ha hl
  · next hl =>
    rw [putG_false_mem]
    have hn : ∀ z ∈ l, key z ≠ key x := fun z hz e => by
      refine hl (List.any_eq_true.2 ⟨z, hz, (h.eq_ _ _).2 e⟩)
    constructor
    · rintro (e | hz)
      · exact .inl e
      · exact .inr ⟨hz, hn z hz⟩
    · rintro (e | ⟨hz, _⟩)
      · exact .inl e
      · exact .inr hz
/-- Rows in order with the same elements are the same. -/
theorem asc_ext (h : KOrd key lt eq gt) : ∀ {l m : List α}, Asc key lt l → Asc key lt m → (∀ z, z ∈ l ↔ z ∈ m) → l = m
  | [], [], _, _, _ => rfl
  | [], y :: m, _, _, hz => absurd ((hz y).2 List.mem_cons_self) (by simp)
  | x :: l, [], _, _, hz => absurd ((hz x).1 List.mem_cons_self) (by simp)
  | x :: l, y :: m, hl, hm, hz => by
    obtain ⟨h1, h2⟩ := asc_cons.1 hl
    obtain ⟨h3, h4⟩ := asc_cons.1 hm
    have hxy : x = y := by
      rcases List.mem_cons.1 ((hz x).1 List.mem_cons_self) with e | hx
      · exact e
      · rcases List.mem_cons.1 ((hz y).2 List.mem_cons_self) with e | hy
        · exact e.symm
        · exact absurd (h.trans (h1 y hy) (h3 x hx)) (h.irr _)
    subst hxy
    congr 1
    refine asc_ext h h2 h4 fun z => ?_
    constructor
    · intro hzl
      rcases List.mem_cons.1 ((hz z).1 (List.mem_cons_of_mem _ hzl)) with rfl | hzm
      · exact absurd (h1 z hzl) (h.irr _)
      · exact hzm
    · intro hzm
      rcases List.mem_cons.1 ((hz z).2 (List.mem_cons_of_mem _ hzm)) with rfl | hzl
      · exact absurd (h3 z hzm) (h.irr _)
      · exact hzl
theorem withG_swap {x y : α} (h : KOrd key lt eq gt) {l : List α} (ha : Asc key lt l) (hne : key x ≠ key y) :
    withG (eq (key x)) (gt (key x)) x (withG (eq (key y)) (gt (key y)) y l) = withG (eq (key y)) (gt (key y)) y (withG (eq (key x)) (gt (key x)) x l) := by
  refine asc_ext h (withG_asc h (withG_asc h ha)) (withG_asc h (withG_asc h ha)) fun z => ?_
  rw [withG_iff h (withG_asc h ha), withG_iff h (withG_asc h ha), withG_iff h ha, withG_iff h ha]
  constructor
  · rintro (rfl | ⟨rfl | ⟨h1, h2⟩, h3⟩)
    · exact .inr ⟨.inl rfl, hne⟩
    · exact .inl rfl
    · exact .inr ⟨.inr ⟨h1, h3⟩, h2⟩
  · rintro (rfl | ⟨rfl | ⟨h1, h2⟩, h3⟩)
    · exact .inr ⟨.inl rfl, fun e => hne e.symm⟩
    · exact .inl rfl
    · exact .inr ⟨.inr ⟨h1, h3⟩, h2⟩
end
theorem LtsR.asc {ls : List Ltr} (h : LtsR ls) : Asc (fun x : Ltr => x.name) ltB ls := Asc.of_adj ltrOrd h.rise
theorem OcsR.asc {os : List Oc} (h : OcsR os) : Asc (fun o : Oc => o.client) (fun a b : Int => a < b) os := Asc.of_adj ocOrd h.rise
theorem LtsR.mk' {ls : List Ltr} (h : ∀ x ∈ ls, LtR x) (ha : Asc (fun x : Ltr => x.name) ltB ls) : LtsR ls := ⟨fun j hj => h _ (List.getElem_mem hj), ha.adj⟩
theorem OcsR.mk' {os : List Oc} (h : ∀ x ∈ os, OcR x) (ha : Asc (fun o : Oc => o.client) (fun a b : Int => a < b) os) : OcsR os := ⟨fun j hj => h _ (List.getElem_mem hj), ha.adj⟩
/-- So few, if their numbers are so few. -/
theorem asc_few {os : List Oc} : ∀ {lo_ up : Int}, Asc (fun o : Oc => o.client) (fun a b : Int => a < b) os → (∀ o ∈ os, lo_ ≤ o.client ∧ o.client < up) → (os.length : Int) ≤ max (up - lo_) 0 := by
  induction os with
  | nil => intro lo_ up _ _; simp; omega
  | cons o os ih =>
    intro lo_ up ha hb
    obtain ⟨h1, h2⟩ := asc_cons.1 ha
    have h3 := hb o List.mem_cons_self
    have h4 := ih (lo_ := o.client + 1) (up := up) h2 fun p hp => by
      have h5 := h1 p hp
      have h6 := hb p (List.mem_cons_of_mem _ hp)
      omega
    rw [List.length_cons]
    omega
end Go.Proofs.YtkeapnefdjkhoaaGreatDoor.A
/-
  What entries do, plain: what is refused leaves letters; never twice; in any order; ledgers that may be stay so.
-/
set_option maxRecDepth 100000
set_option linter.unusedSimpArgs false
set_option linter.unusedVariables false
namespace Go.Proofs.YtkeapnefdjkhoaaGreatDoor.A
open Go.RowKit

section
variable {l : Lg} {x : Ltr} {e : Ent} {c : Core} {n : Int} {op a b : Int} {t : ByteArray}
theorem check_ok (h : c.check n = 0) : (1 ≤ n ∧ n ≤ 7) ∧ (n ≤ c.client ∧ c.client < n + 4) ∧ (1 ≤ c.stamp ∧ c.stamp ≤ 1099511627776) ∧ (1 ≤ c.op ∧ c.op ≤ 9) ∧ nameB c.letter = true ∧ c.text.size ≤ 200 := by
  unfold Core.check at h
  split at h
  · cases h
  · split at h
    · cases h
    · split at h
      · cases h
      · split at h
        · cases h
        · next h4 =>
          split at h
          · cases h
          · exact ⟨by omega, by omega, by omega, by omega, by simpa using h4, by omega⟩
/-- What is paid. -/
def paidF (x : Ltr) : Int := if x.state = 5 then x.amount else 0
def paidL (ls : List Ltr) : Int := (ls.map paidF).sum
/-- A ledger of four replicas, from the empty one on. -/
structure Lg.Keep (l : Lg) : Prop where
  each : ∀ x ∈ l.ls, LtR x
  asc : Asc (fun x : Ltr => x.name) ltB l.ls
  few : l.ls.length ≤ 16
  os : ∀ o ∈ l.os, OcR o ∧ 4 ≤ o.client ∧ o.client < 8
  oasc : Asc (fun o : Oc => o.client) (fun a b : Int => a < b) l.os
  total : isAmt l.total = true
  paid : l.total = paidL l.ls
theorem Lg.Keep.right (h : l.Keep) {s : Int} (hs : 0 ≤ s ∧ s ≤ 1048576) : ({ l with seq := s } : Lg).Right := by
  have hf := asc_few (lo_ := 4) (up := 8) h.oasc fun o ho => (h.os o ho).2
  exact ⟨OcsR.mk' (fun o ho => (h.os o ho).1) h.oasc, hs, h.total, by show l.os.length ≤ 4; omega, LtsR.mk' h.each h.asc, h.few⟩
/-! ### In any order -/
/-- What an entry does to its client's outcome, and to its letter. -/
def actF (S : Option Oc) (F : Option Ltr) (e : Ent) (n : Int) : Option (Option Ltr × Oc) × Int :=
  if (match S with | some o => decide (e.core.stamp ≤ o.stamp) | none => false) = true then (none, 10)
  else if e.core.check n ≠ 0 then (none, e.core.check n)
  else if F.isNone = true ∧ e.core.op ≠ 1 then (some (none, ⟨e.core.client, e.core.stamp, 7⟩), 7)
  else if endorsedF (F.getD Ltr.none) e n ≠ 0 then (some (none, ⟨e.core.client, e.core.stamp, endorsedF (F.getD Ltr.none) e n⟩), endorsedF (F.getD Ltr.none) e n)
  else if ((F.getD Ltr.none).step e.core.op e.core.a e.core.b e.core.text).2 ≠ 0 then (some (none, ⟨e.core.client, e.core.stamp, ((F.getD Ltr.none).step e.core.op e.core.a e.core.b e.core.text).2⟩), ((F.getD Ltr.none).step e.core.op e.core.a e.core.b e.core.text).2)
  else (some (some (nextL (F.getD Ltr.none) e.core), ⟨e.core.client, e.core.stamp, 0⟩), 0)
def Lg.takes (l : Lg) : Option (Option Ltr × Oc) → Lg
  | none => l
  | some (none, o) => l.told o
  | some (some y, o) => (l.putL y).told o
theorem doF_act (h7 : e.core.op ≠ 7) (hf : l.ls.length ≤ 15) : l.doF e n = (l.takes (actF (l.last e.core.client) (l.find e.core.letter) e n).1, (actF (l.last e.core.client) (l.find e.core.letter) e n).2) := by
  have hwl : (l.putL (nextL (l.old e.core.letter) e.core)).ls.length ≤ l.ls.length + 1 := withG_length _
  unfold Lg.doF actF
  by_cases h1 : l.stale e.core = true
  · rw [if_pos h1, if_pos (show (match l.last e.core.client with | some o => decide (e.core.stamp ≤ o.stamp) | none => false) = true from h1)]
    rfl
  · rw [if_neg h1, if_neg (show ¬ (match l.last e.core.client with | some o => decide (e.core.stamp ≤ o.stamp) | none => false) = true from h1)]
    by_cases h2 : e.core.check n ≠ 0
    · rw [if_pos h2, if_pos h2]; rfl
    · rw [if_neg h2, if_neg h2]
      have hcc := check_ok (Classical.byContradiction h2)
      unfold Lg.res Lg.known
      by_cases h3 : (l.find e.core.letter).isNone = true ∧ e.core.op ≠ 1
      · rw [if_pos h3, if_pos h3, if_pos (by decide)]; rfl
      · rw [if_neg h3, if_neg h3, if_neg (by decide)]
        by_cases h4 : endorsedF (l.old e.core.letter) e n ≠ 0
        · rw [if_pos h4, if_pos (show endorsedF ((l.find e.core.letter).getD Ltr.none) e n ≠ 0 from h4)]; rfl
        · rw [if_neg h4, if_neg (show ¬ endorsedF ((l.find e.core.letter).getD Ltr.none) e n ≠ 0 from h4)]
          by_cases h5 : ((l.old e.core.letter).step e.core.op e.core.a e.core.b e.core.text).2 ≠ 0
          · rw [stepped_a h5, if_pos (show (((l.find e.core.letter).getD Ltr.none).step e.core.op e.core.a e.core.b e.core.text).2 ≠ 0 from h5)]; rfl
          · have hw : l.with_ (nextL (l.old e.core.letter) e.core) = (l.putL (nextL (l.old e.core.letter) e.core), 0) := by
              unfold Lg.with_
              rw [if_neg (show ¬ nameB e.core.letter = false by rw [hcc.2.2.2.2.1]; decide), if_neg (show ¬ 16 < (l.putL (nextL (l.old e.core.letter) e.core)).ls.length by omega)]
            rw [stepped_c h5 (by rw [hw]; exact fun h => h rfl) h7, hw, if_neg (show ¬ (((l.find e.core.letter).getD Ltr.none).step e.core.op e.core.a e.core.b e.core.text).2 ≠ 0 from h5)]
            rfl
theorem act_keys {S : Option Oc} {F : Option Ltr} {y : Option Ltr} {o : Oc} (h : (actF S F e n).1 = some (y, o)) : o.client = e.core.client ∧ ∀ z, y = some z → z.name = e.core.letter := by
  unfold actF at h
  repeat' split at h
  all_goals first | (cases h; done) | (cases h; exact ⟨rfl, fun z hz => by cases hz <;> rfl⟩)
theorem takes_len (A : Option (Option Ltr × Oc)) : (l.takes A).ls.length ≤ l.ls.length + 1 := by
  unfold Lg.takes
  split
  · exact Nat.le_succ _
  · exact Nat.le_succ _
  · exact withG_length _
theorem takes_last {A : Option (Option Ltr × Oc)} {k : Int} (h : ∀ y o, A = some (y, o) → o.client ≠ k) : (l.takes A).last k = l.last k := by
  unfold Lg.takes
  split
  · rfl
  · next o => exact withG_other (eq := eqO o.client) (q := eqO k) (show eqO k o = false from decide_eq_false (h _ o rfl)) fun p hp => show eqO k p = false from decide_eq_false fun hk => h _ o rfl ((show p.client = o.client from of_decide_eq_true hp).symm.trans hk)
  · next y o => exact withG_other (eq := eqO o.client) (q := eqO k) (show eqO k o = false from decide_eq_false (h _ o rfl)) fun p hp => show eqO k p = false from decide_eq_false fun hk => h _ o rfl ((show p.client = o.client from of_decide_eq_true hp).symm.trans hk)
theorem takes_find {A : Option (Option Ltr × Oc)} {s : ByteArray} (h : ∀ y o, A = some (some y, o) → y.name ≠ s) : (l.takes A).find s = l.find s := by
  unfold Lg.takes
  split
  · rfl
  · rfl
  · next y o => exact withG_other (eq := eqL y.name) (q := eqL s) (show eqL s y = false from decide_eq_false (h y o rfl)) fun p hp => show eqL s p = false from decide_eq_false fun hk => h y o rfl ((show p.name = y.name from of_decide_eq_true hp).symm.trans hk)
theorem takes_swap (hl : Asc (fun x : Ltr => x.name) ltB l.ls) (ho : Asc (fun o : Oc => o.client) (fun a b : Int => a < b) l.os) {A B : Option (Option Ltr × Oc)}
    (hk : ∀ y o z p, A = some (y, o) → B = some (z, p) → o.client ≠ p.client) (hn : ∀ y o z p, A = some (some y, o) → B = some (some z, p) → y.name ≠ z.name) : (l.takes A).takes B = (l.takes B).takes A := by
  rcases A with _ | ⟨y, o⟩
  · rfl
  rcases B with _ | ⟨z, p⟩
  · rfl
  have h1 : withG (eqO p.client) (gtO p.client) p (withG (eqO o.client) (gtO o.client) o l.os) = withG (eqO o.client) (gtO o.client) o (withG (eqO p.client) (gtO p.client) p l.os) := withG_swap ocOrd ho fun e => hk _ _ _ _ rfl rfl e.symm
  rcases y with _ | y <;> rcases z with _ | z
  · exact congrArg (fun os => (⟨l.seq, l.total, l.ls, os⟩ : Lg)) h1
  · exact congrArg (fun os => (⟨l.seq, l.total, (l.putL z).ls, os⟩ : Lg)) h1
  · exact congrArg (fun os => (⟨l.seq, l.total, (l.putL y).ls, os⟩ : Lg)) h1
  · have h2 : withG (eqL z.name) (gtL z.name) z (withG (eqL y.name) (gtL y.name) y l.ls) = withG (eqL y.name) (gtL y.name) y (withG (eqL z.name) (gtL z.name) z l.ls) := withG_swap ltrOrd hl fun e => hn _ _ _ _ rfl rfl e.symm
    exact (congrArg (fun os => (⟨l.seq, l.total, withG (eqL z.name) (gtL z.name) z (withG (eqL y.name) (gtL y.name) y l.ls), os⟩ : Lg)) h1).trans (congrArg (fun ls => (⟨l.seq, l.total, ls, withG (eqO o.client) (gtO o.client) o (withG (eqO p.client) (gtO p.client) p l.os)⟩ : Lg)) h2)
theorem doF_swap {a b : Ent} (hr : l.Right) (hf : l.ls.length ≤ 10) (hc : a.core.client ≠ b.core.client) (hn : a.core.letter ≠ b.core.letter) (ha : a.core.op ≠ 7) (hb : b.core.op ≠ 7) :
    (l.doF a n).2 = ((l.doF b n).1.doF a n).2 ∧ ((l.doF a n).1.doF b n).2 = (l.doF b n).2 ∧ ((l.doF a n).1.doF b n).1 = ((l.doF b n).1.doF a n).1 := by
  have hA := doF_act (n := n) ha (show l.ls.length ≤ 15 by omega)
  have hB := doF_act (n := n) hb (show l.ls.length ≤ 15 by omega)
  obtain ⟨A, eA, hAd⟩ : ∃ A eA, actF (l.last a.core.client) (l.find a.core.letter) a n = (A, eA) := ⟨_, _, rfl⟩
  obtain ⟨B, eB, hBd⟩ : ∃ B eB, actF (l.last b.core.client) (l.find b.core.letter) b n = (B, eB) := ⟨_, _, rfl⟩
  rw [hAd] at hA
  rw [hBd] at hB
  dsimp only at hA hB
  have kA : ∀ y o, A = some (y, o) → o.client = a.core.client ∧ ∀ z, y = some z → z.name = a.core.letter := fun y o h => act_keys (by rw [hAd]; exact h)
  have kB : ∀ y o, B = some (y, o) → o.client = b.core.client ∧ ∀ z, y = some z → z.name = b.core.letter := fun y o h => act_keys (by rw [hBd]; exact h)
  have hAB : (l.takes A).doF b n = ((l.takes A).takes B, eB) := by
    have h1 := takes_len (l := l) A
    rw [doF_act hb (by omega), takes_last (fun y o h e => hc ((kA y o h).1.symm.trans e)), takes_find (fun y o h e => hn (((kA _ o h).2 y rfl).symm.trans e)), hBd]
  have hBA : (l.takes B).doF a n = ((l.takes B).takes A, eA) := by
    have h1 := takes_len (l := l) B
    rw [doF_act ha (by omega), takes_last (fun y o h e => hc (e.symm.trans (kB y o h).1)), takes_find (fun y o h e => hn (e.symm.trans ((kB _ o h).2 y rfl))), hAd]
  rw [hA, hB]
  dsimp only
  rw [hAB, hBA]
  exact ⟨rfl, rfl, takes_swap hr.ls.asc hr.os.asc (fun y o z p h1 h2 e => hc (by rw [← (kA _ _ h1).1, ← (kB _ _ h2).1]; exact e)) (fun y o z p h1 h2 e => hn (by rw [← (kA _ _ h1).2 y rfl, ← (kB _ _ h2).2 z rfl]; exact e))⟩
end
end Go.Proofs.YtkeapnefdjkhoaaGreatDoor.A
/-
  Policies' texts, plain: what the document's parser answers, step by step.
-/
set_option maxRecDepth 100000
set_option linter.unusedSimpArgs false
set_option linter.unusedVariables false
namespace Go.Proofs.YtkeapnefdjkhoaaGreatDoor.A
open Go.RowKit

/-- A number, as the document's parser answers. -/
def numF (t : Txt) : Int × Txt × Bool := match numT t with
  | none => (0, t, false)
  | some x => (((x.1 : Nat) : Int), x.2, true)
theorem numF_none {t : Txt} (h : numT t = none) : numF t = (0, t, false) := by unfold numF; rw [h]
theorem numF_some {t : Txt} {x : Nat × Txt} (h : numT t = some x) : numF t = (((x.1 : Nat) : Int), x.2, true) := by unfold numF; rw [h]
theorem numF_no {t : Txt} (h : (numF t).2.2 = false) : numT t = none := by
  cases hq : numT t with
  | none => rfl
  | some x => rw [numF_some hq] at h; cases h
theorem numF_ok {t : Txt} (h : (numF t).2.2 = true) : ∃ v : Nat, numT t = some (v, (numF t).2.1) ∧ (numF t).1 = (v : Int) ∧ (numF t).2.1.length < t.length ∧ v ≤ 9999 := by
  cases hq : numT t with
  | none => rw [numF_none hq] at h; cases h
  | some x =>
    obtain ⟨v, r⟩ := x
    rw [numF_some hq]
    exact ⟨v, rfl, rfl, numT_short hq, numT_le hq⟩
/-- What the document's parser answers of a policy. -/
def DocP (k : Nat) (l : Txt) (z : Frm × Txt × Bool) : Prop := (polT k l = none → z.2.2 = false) ∧ ∀ x, polT k l = some x → z = (x.1, x.2, true)
def DocR (k : Nat) (l : Txt) (z : List Frm × Txt × Bool) : Prop := (rowT (polT k) l = none → z.2.2 = false) ∧ ∀ x, rowT (polT k) l = some x → z = (x.1, x.2, true)
section
variable {k : Nat} {l : Txt} {y : Frm × Txt × Bool} {w : List Frm × Txt × Bool} {z : Txt × List Frm}
theorem DocP.no (h : DocP k l y) (ho : y.2.2 = false) : polT k l = none := by
  cases hq : polT k l with
  | none => rfl
  | some x => rw [h.2 x hq] at ho; cases ho
theorem DocP.get (h : DocP k l y) (ho : y.2.2 = true) : polT k l = some (y.1, y.2.1) := by
  cases hq : polT k l with
  | none => rw [h.1 hq] at ho; cases ho
  | some x => rw [h.2 x hq]
theorem DocR.no (h : DocR k l w) (ho : w.2.2 = false) : rowT (polT k) l = none := by
  cases hq : rowT (polT k) l with
  | none => rfl
  | some x => rw [h.2 x hq] at ho; cases ho
theorem DocR.get (h : DocR k l w) (ho : w.2.2 = true) : rowT (polT k) l = some (w.1, w.2.1) := by
  cases hq : rowT (polT k) l with
  | none => rw [h.1 hq] at ho; cases ho
  | some x => rw [h.2 x hq]
theorem DocR.of_none (h : rowT (polT k) l = none) (t : Txt) : DocR k l ([], t, false) := ⟨fun _ => rfl, fun x hx => (by rw [h] at hx; cases hx)⟩
theorem DocR.of_some {a : List Frm} {b : Txt} (h : rowT (polT k) l = some (a, b)) : DocR k l (a, b, true) := ⟨fun hx => (by rw [h] at hx; cases hx), fun x hx => (by rw [h] at hx; cases hx; rfl)⟩
theorem DocP.of_none (h : polT k l = none) (hy : y.2.2 = false) : DocP k l y := ⟨fun _ => hy, fun x hx => (by rw [h] at hx; cases hx)⟩
theorem DocP.of_some {a : Frm} {b : Txt} (h : polT k l = some (a, b)) : DocP k l (a, b, true) := ⟨fun hx => (by rw [h] at hx; cases hx), fun x hx => (by rw [h] at hx; cases hx; rfl)⟩
/-- At the head of a round: the text begins with a bracket or a comma. -/
structure DocI (k : Nat) (l : Txt) (z : Txt × List Frm) : Prop where
  pos : 1 ≤ z.1.length
  len : z.1.length ≤ l.length
  few : z.2.length + z.1.length ≤ l.length + 1
  go : ∃ F, z.1.length ≤ F ∧ rowT (polT k) l = rowL (polT k) F (z.1.drop 1) z.2
theorem DocI.start (h : begins (bare l) [40] = true) : DocI k l (bare l, []) := by
  have h1 := begins_len h
  have h2 := bare_len l
  refine ⟨h1, h2, (by simp only [List.length_nil]; omega), l.length + 1, (by simp only; omega), ?_⟩
  unfold rowT
  rw [if_pos h]
theorem DocI.more (h : DocI k l z) : ∃ m, z.1.length ≤ m + 1 ∧ rowT (polT k) l = match polT k (z.1.drop 1) with
    | none => none
    | some (f, r) => if begins (bare r) [41] = true then some (z.2 ++ [f], (bare r).drop 1) else if begins (bare r) [44] = true then rowL (polT k) m ((bare r).drop 1) (z.2 ++ [f]) else none := by
  obtain ⟨F, hF, hR⟩ := h.go
  have hp := h.pos
  obtain ⟨m, rfl⟩ : ∃ m, F = m + 1 := ⟨F - 1, (by omega)⟩
  refine ⟨m, hF, hR.trans ?_⟩
  conv => lhs; unfold rowL
  cases polT k (z.1.drop 1) with
  | none => rfl
  | some x => obtain ⟨f, r⟩ := x; rfl
theorem DocI.no (h : DocI k l z) (hy : DocP k (z.1.drop 1) y) (ho : y.2.2 = false) : rowT (polT k) l = none := by
  obtain ⟨m, _, hR⟩ := h.more
  rw [hR, hy.no ho]
theorem DocI.done (h : DocI k l z) (hy : DocP k (z.1.drop 1) y) (ho : y.2.2 = true) (hb : begins (bare y.2.1) [41] = true) : rowT (polT k) l = some (z.2 ++ [y.1], (bare y.2.1).drop 1) := by
  obtain ⟨m, _, hR⟩ := h.more
  rw [hR, hy.get ho]
  exact if_pos hb
theorem DocI.bad (h : DocI k l z) (hy : DocP k (z.1.drop 1) y) (ho : y.2.2 = true) (hb : ¬ begins (bare y.2.1) [41] = true) (hc : ¬ begins (bare y.2.1) [44] = true) : rowT (polT k) l = none := by
  obtain ⟨m, _, hR⟩ := h.more
  rw [hR, hy.get ho]
  exact (if_neg hb).trans (if_neg hc)
theorem DocI.step (h : DocI k l z) (hy : DocP k (z.1.drop 1) y) (ho : y.2.2 = true) (hb : ¬ begins (bare y.2.1) [41] = true) (hc : begins (bare y.2.1) [44] = true) : DocI k l (bare y.2.1, z.2 ++ [y.1]) ∧ (bare y.2.1).length < z.1.length := by
  obtain ⟨m, hm, hR⟩ := h.more
  have hg := hy.get ho
  have hs := polT_short k _ _ _ hg
  rw [List.length_drop] at hs
  have hbl := bare_len y.2.1
  have hp := h.pos
  have hl := h.len
  have hf := h.few
  have hcl := begins_len hc
  simp only [List.length_singleton] at hcl
  rw [hg] at hR
  refine ⟨⟨hcl, (by simp only; omega), (by simp only [List.length_append, List.length_singleton]; omega), m, (by simp only; omega), ?_⟩, (by omega)⟩
  rw [hR]
  exact (if_neg hb).trans (if_pos hc)
/-! ### Policies -/
theorem DocP.deep (hy : y.2.2 = false) : DocP 0 l y := DocP.of_none rfl hy
theorem DocP.all (hb : begins (bare l) [97, 108, 108] = true) (hw : DocR k ((bare l).drop 3) w) : DocP (k + 1) l (.mk 0 w.1.length w.1, w.2.1, w.2.2) := by
  have e : polT (k + 1) l = (rowT (polT k) ((bare l).drop 3)).map fun x => (.mk 0 x.1.length x.1, x.2) := by
    conv => lhs; unfold polT
    rw [if_pos hb]
  cases hq : rowT (polT k) ((bare l).drop 3) with
  | none => rw [hq] at e; exact DocP.of_none e (hw.1 hq)
  | some x => rw [hq] at e; rw [hw.2 x hq]; exact DocP.of_some e
theorem DocP.any (ha : ¬ begins (bare l) [97, 108, 108] = true) (hb : begins (bare l) [97, 110, 121] = true) (hw : DocR k ((bare l).drop 3) w) : DocP (k + 1) l (.mk 0 1 w.1, w.2.1, w.2.2) := by
  have e : polT (k + 1) l = (rowT (polT k) ((bare l).drop 3)).map fun x => (.mk 0 1 x.1, x.2) := by
    conv => lhs; unfold polT
    rw [if_neg ha, if_pos hb]
  cases hq : rowT (polT k) ((bare l).drop 3) with
  | none => rw [hq] at e; exact DocP.of_none e (hw.1 hq)
  | some x => rw [hq] at e; rw [hw.2 x hq]; exact DocP.of_some e
theorem DocP.bad (ha : ¬ begins (bare l) [97, 108, 108] = true) (hb : ¬ begins (bare l) [97, 110, 121] = true) (hn : (numF (bare l)).2.2 = false) (hy : y.2.2 = false) : DocP (k + 1) l y :=
  DocP.of_none (by rw [pol_num ha hb, numF_no hn]) hy
theorem DocP.org (ha : ¬ begins (bare l) [97, 108, 108] = true) (hb : ¬ begins (bare l) [97, 110, 121] = true) (hn : (numF (bare l)).2.2 = true) (hof : ¬ begins (bare (numF (bare l)).2.1) [111, 102] = true) : DocP (k + 1) l (.mk (numF (bare l)).1 0 [], (numF (bare l)).2.1, true) := by
  obtain ⟨v, h1, h2, _⟩ := numF_ok hn
  refine DocP.of_some ?_
  rw [pol_num ha hb, h1, h2]
  exact if_neg hof
theorem DocP.of (ha : ¬ begins (bare l) [97, 108, 108] = true) (hb : ¬ begins (bare l) [97, 110, 121] = true) (hn : (numF (bare l)).2.2 = true) (hof : begins (bare (numF (bare l)).2.1) [111, 102] = true) (hw : DocR k ((bare (numF (bare l)).2.1).drop 2) w) {o : Bool}
    (ho : o = true ↔ w.2.2 = true ∧ 1 ≤ (numF (bare l)).1 ∧ (numF (bare l)).1 ≤ 99) : DocP (k + 1) l (.mk 0 (numF (bare l)).1 w.1, w.2.1, o) := by
  obtain ⟨v, h1, h2, _⟩ := numF_ok hn
  rw [h2] at ho ⊢
  have e := pol_num (k := k) ha hb
  rw [h1] at e
  dsimp only at e
  rw [if_pos hof] at e
  by_cases hv : 1 ≤ v ∧ v ≤ 99
  · rw [if_pos hv] at e
    cases hq : rowT (polT k) ((bare (numF (bare l)).2.1).drop 2) with
    | none =>
      rw [hq] at e
      refine DocP.of_none e ?_
      have := hw.1 hq
      cases o with
      | false => rfl
      | true => rw [(ho.1 rfl).1] at this; cases this
    | some x =>
      rw [hq] at e
      have hx := hw.2 x hq
      have ho2 : o = true := ho.2 ⟨(by rw [hx]), (by omega), (by omega)⟩
      rw [ho2, hx]
      exact DocP.of_some e
  · rw [if_neg hv] at e
    refine DocP.of_none e ?_
    cases o with
    | false => rfl
    | true => have := ho.1 rfl; exact absurd ⟨(by omega), (by omega)⟩ hv
end
end Go.Proofs.YtkeapnefdjkhoaaGreatDoor.A
/-
  Policies' texts: the document's parser.
-/
set_option maxRecDepth 100000
set_option linter.unusedSimpArgs false
set_option linter.unusedVariables false
namespace Go.Proofs.YtkeapnefdjkhoaaGreatDoor.A
open Go.RowKit

section
variable {l wd : Txt} {k : Nat} {d n : Int}
end
end Go.Proofs.YtkeapnefdjkhoaaGreatDoor.A
