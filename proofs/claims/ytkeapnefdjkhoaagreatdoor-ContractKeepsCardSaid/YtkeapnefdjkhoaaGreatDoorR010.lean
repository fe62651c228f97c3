/-
  Packed out of the texts: CO6, CO7, LedK, LedL, TDoc, TM5.
-/
import Derived.Test.YtkeapnefdjkhoaaGreatDoorR09
/-
  The document's ledgers: which may be.
-/
set_option maxRecDepth 100000
set_option linter.unusedSimpArgs false
set_option linter.unusedVariables false
namespace Go.Proofs.YtkeapnefdjkhoaaGreatDoor.A
open Go.RowKit

section
variable {l a b : Lg} {x : Ltr} {o : Oc} {k n : Int} {s : ByteArray} {c : Core} {e : Ent} {p : Nat} {es : List Ent} {ls : List Ltr}
set_option maxHeartbeats 2000000 in
theorem letters_s (hs : ∀ x ∈ ls, x.name.size ≤ lots) : Spec Tryz.prog 28 [ltrsA ls] [] (fun _ : Unit => []) (fun _ => boo (decide (LtsR ls ∧ ls.length ≤ 16))) := by
  refine spec_of Tryz.func28 rfl Tryz.ntmps28 rfl fun G w => ?_
  refine SC.seq (SC.region ?_)
  refine SL.val (Val.assign rfl) rfl rfl ?_
  refine SL.nil (SE.seq ?_)
  refine SC.seq ?_
  refine SC.seq (SC.region ?_)
  refine SL.val (Val.move rfl) rfl rfl ?_
  first
    | refine SL.val (Val.lenSl rfl Tryz.underlying22 (List.length_map _)) rfl rfl ?_
    | refine SL.val (Val.lenOwn rfl (by repeat first|assumption|exact m0|apply m1) Tryz.underlying22 (List.length_map _)) rfl rfl ?_
    | refine SL.val (Val.lenNil rfl Tryz.underlying22) rfl rfl ?_
  refine SL.val (Val.move rfl) rfl rfl ?_
  refine SL.nil (SE.seq ?_)
  refine SC.block ?_
  refine SC.rowLe (i := 5) rfl fun hrow => ?_
  rw [List.length_map] at hrow
  unfold maxLen at hrow
  refine SC.loop (ι := Nat) (fun y => []) (fun y => [(0, ltrsA ls), (5, ltrsA ls), (6, int (ls.length : Nat)), (7, int (y : Nat))]) (fun y => y ≤ ls.length ∧ ∀ j (h : j < ls.length), j < y → LtR ls[j] ∧ (0 < j → ltB (ls[j - 1]'(by omega)).name ls[j].name)) (fun y => ls.length - y) (0) (⟨Nat.zero_le _, fun j h h2 => by omega⟩) (by exact ⟨rfl, rfl, rfl, rfl, trivial⟩) (by repeat first|exact s0 _|exact s1 _|apply s2|apply s3) ?_
  intro y hy
  refine SC.seq (SC.region ?_)
  refine SL.val (Val.ltI rfl rfl) rfl rfl ?_
  refine SL.nil (SE.seq ?_)
  refine SC.seq ?_
  refine SC.condP rfl ?_ ?_
  rotate_left
  · intro hc8
    refine SC.exit ?_
    refine SE.then_ (by intro h; cases h) ?_
    refine SE.then_ (by intro h; cases h) ?_
    refine SE.exit ?_
    refine SE.seq ?_
    refine SC.seq (SC.region ?_)
    refine SL.val (Val.move rfl) rfl rfl ?_
    first
      | refine SL.val (Val.lenSl rfl Tryz.underlying22 (List.length_map _)) rfl rfl ?_
      | refine SL.val (Val.lenOwn rfl (by repeat first|assumption|exact m0|apply m1) Tryz.underlying22 (List.length_map _)) rfl rfl ?_
      | refine SL.val (Val.lenNil rfl Tryz.underlying22) rfl rfl ?_
    refine SL.val (Val.leI rfl rfl) rfl rfl ?_
    refine SL.val (Val.assign rfl) rfl rfl ?_
    refine SL.nil (SE.seq ?_)
    refine SC.ret ?_
    refine SE.fin (rs := [.tmp 2]) rfl (RV.tmp rfl RV.nil) (()) (by repeat first|exact s0 _|exact s1 _|apply s2|apply s3) (by simp [It.rids]) ?_
    have hr : LtsR ls := ⟨fun j h => (hy.2 j h (by omega)).1, fun j h => (hy.2 j h (by omega)).2⟩
    refine congrArg (fun b => Abs.v (Value.bool b)) ?_
    rw [decide_eq_decide]
    exact ⟨fun h => ⟨hr, by omega⟩, fun h => by have := h.2; omega⟩
  intro hc8
  have hlt : y < ls.length := by omega
  refine SC.skip ?_
  refine SE.seq ?_
  refine SC.seq ?_
  refine SC.block ?_
  refine SC.seq (SC.region ?_)
  refine SL.val (Val.move rfl) rfl rfl ?_
  refine SL.val (Val.indexSl tabOk Tryz.underlying22 rfl rfl rfl rfl (at_map (by omega)) rfl rfl) rfl rfl ?_
  refine SL.val (Val.loadAR tabOk rfl rfl rfl (by rfl)) rfl rfl ?_
  refine SL.eff (Eff.alloc tabOk rfl) rfl rfl ?_
  rintro _ _ ⟨b4, rfl, rfl⟩
  refine SL.val (Val.assign rfl) rfl rfl ?_
  refine SL.eff (Eff.store (L' := ltrA (ls[y]'hlt)) tabOk rfl rfl rfl (by repeat first|assumption|exact Upd.here|apply Upd.there) rfl (Nat.le_of_ble_eq_true (by rfl)) rfl (by exact putL_whole rfl)) rfl rfl ?_
  rintro _ _ ⟨rfl, rfl⟩
  refine SL.nil (SE.seq ?_)
  refine SC.cutS (ι := Unit) (fun z => [.blk b4 39 (ltrA (ls[y]'hlt))]) (fun z => [(0, ltrsA ls), (5, ltrsA ls), (6, int (ls.length : Nat)), (7, int (y : Nat)), (4, ptr b4)]) (fun z => 0 < y → ltB (ls[y - 1]'(by omega)).name (ls[y]'hlt).name) ?_ ?_
  · skip
    refine SC.seq ?_
    refine SC.draw [] (.q 0 (.q 1 (.q 2 (.q 3 (.q 4 (.q 5 (.q 6 (.q 7 (.q 8 (.q 9 (.q 10 (.q 11 (.q 12 .nil))))))))))))) (by kernel_rfl) (by kernel_rfl) ?_
    refine SX.val rfl (Val.move rfl) (by simp) rfl rfl ?_
    refine SX.val rfl (Val.gtI rfl rfl) (by simp) rfl rfl ?_
    refine SX.val rfl (Val.move rfl) (by simp) rfl rfl ?_
    refine SX.bothP (t := 14) rfl ?_ ?_
    rotate_left
    · intro hc14
      iterate 9 refine SX.skip rfl rfl rfl ?_
      refine SX.val rfl (Val.pickF rfl rfl) (by simp) rfl rfl ?_
      refine SX.nil (SE.seq ?_)
      refine SC.condF rfl ?_
      refine SC.skip ?_
      refine SE.meet (()) (fun h0 => by first | exact Classical.byContradiction hc24 | omega) (by exact ⟨rfl, rfl, rfl, rfl, rfl, trivial⟩) (by repeat first|exact s0 _|exact s1 _|apply s2|apply s3)
    intro hc14
    refine SX.val rfl (Val.move rfl) (by simp) rfl rfl ?_
    refine SX.val rfl (Val.move rfl) (by simp) rfl rfl ?_
    refine SX.hx (by first|(simp[mids,It.mids,ownPc];done)|(intro k hk;simp[mids,It.mids,ownPc] at hk ⊢;grind)) fun hx9 => ?_
    refine SX.val rfl (Val.subI rfl rfl (by simp only [InR, lo, hi]; omega)) hx9 rfl rfl ?_
    refine SX.val rfl (Val.indexSl (q := y - 1) tabOk Tryz.underlying22 rfl rfl rfl (by omega) (at_map (by omega)) rfl rfl) hx9 rfl rfl ?_
    first
      | refine SX.val rfl (Val.fieldAddr tabOk rfl rfl rfl rfl rfl) (by simp) rfl rfl ?_
      | refine SX.val rfl (Val.fieldAddrR tabOk rfl rfl rfl rfl rfl) (by simp) rfl rfl ?_
    first
      | refine SX.val rfl (Val.load1R tabOk rfl rfl rfl) (by simp) rfl rfl ?_
      | refine SX.val rfl (Val.load1 tabOk rfl rfl (by first|(apply Or.inl;(repeat first|assumption|exact m0|apply m1);done)|(apply Or.inr;(repeat first|assumption|exact m0|apply m1);done)) List.not_mem_nil (by rfl)) (by simp) rfl rfl ?_
    refine SX.val rfl (Val.fieldAddr tabOk rfl rfl rfl rfl rfl) (by simp) rfl rfl ?_
    refine SX.val rfl (Val.to (C := st (ls[y]'hlt).name) (Val.load1 tabOk rfl rfl (by first|(apply Or.inl;(repeat first|assumption|exact m0|apply m1);done)|(apply Or.inr;(repeat first|assumption|exact m0|apply m1);done)) List.not_mem_nil (by rfl)) rfl) hx9 rfl rfl ?_
    refine SX.val rfl (Val.geS rfl rfl) hx9 rfl rfl ?_
    refine SX.val rfl (Val.pickT rfl rfl) (by simp) rfl rfl ?_
    refine SX.nil (SE.seq ?_)
    refine SC.condP rfl ?_ ?_
    rotate_left
    · intro hc24
      refine SC.skip ?_
      refine SE.meet (()) (fun h0 => by first | exact Classical.byContradiction hc24 | omega) (by exact ⟨rfl, rfl, rfl, rfl, rfl, trivial⟩) (by repeat first|exact s0 _|exact s1 _|apply s2|apply s3)
    intro hc24
    refine SC.seq (SC.region ?_)
    refine SL.val (Val.assign rfl) rfl rfl ?_
    refine SL.nil (SE.seq ?_)
    refine SC.ret ?_
    refine SE.then_ (by intro h; cases h) ?_
    refine SE.ret ?_
    refine SE.then_ (by intro h; cases h) ?_
    refine SE.then_ (by intro h; cases h) ?_
    refine SE.ret ?_
    refine SE.then_ (by intro h; cases h) ?_
    refine SE.fin (rs := [.tmp 2]) rfl (RV.tmp rfl RV.nil) (()) (by repeat first|exact s0 _|exact s1 _|apply s2|apply s3) (by simp [It.rids]) ?_
    refine boo_dec0 fun he => ?_
    exact hc24 (he.1.rise y hlt (by omega))
  · intro z hz
    refine SC.seq (SC.region ?_)
    refine SL.val (Val.fieldAddr tabOk rfl rfl rfl rfl rfl) rfl rfl ?_
    refine SL.val (Val.to (C := st (ls[y]'hlt).name) (Val.load1 tabOk rfl rfl (by first|(apply Or.inl;(repeat first|assumption|exact m0|apply m1);done)|(apply Or.inr;(repeat first|assumption|exact m0|apply m1);done)) List.not_mem_nil (by rfl)) rfl) rfl rfl ?_
    refine SL.call (risname_s (s := (ls[y]'hlt).name) (hs _ (List.getElem_mem hlt))) Casts.refl (by kernel_rfl) rfl rfl rfl ?_
    refine After.pure (by repeat (first | exact Reads.nil | (refine Reads.blk ?_ ?_; focus ((repeat first|assumption|exact m0|apply m1); done)) | (refine Reads.rd ?_ ?_; focus ((repeat first|assumption|exact m0|apply m1); done)) | (refine Reads.pc ?_ ?_; focus ((repeat first|assumption|exact m0|apply m1); done)) | (refine Reads.rdpc ?_ ?_; focus ((repeat first|assumption|exact m0|apply m1); done)))) (fun _ => rfl) ?_
    intro _
    refine SL.val (Val.notB rfl) rfl rfl ?_
    refine SL.val (Val.move rfl) rfl rfl ?_
    refine SL.both (t := 29) rfl ?_ ?_
    · intro hc29
      iterate 3 refine SL.skip rfl rfl ?_
      refine SL.val (Val.pickT rfl rfl) rfl rfl ?_
      refine SL.val (Val.move rfl) rfl rfl ?_
      iterate 3 refine SL.skip rfl rfl ?_
      refine SL.val (Val.pickT rfl rfl) rfl rfl ?_
      refine SL.val (Val.move rfl) rfl rfl ?_
      iterate 3 refine SL.skip rfl rfl ?_
      refine SL.val (Val.pickT rfl rfl) rfl rfl ?_
      refine SL.val (Val.move rfl) rfl rfl ?_
      iterate 4 refine SL.skip rfl rfl ?_
      refine SL.val (Val.pickT rfl rfl) rfl rfl ?_
      refine SL.val (Val.move rfl) rfl rfl ?_
      iterate 4 refine SL.skip rfl rfl ?_
      refine SL.val (Val.pickT rfl rfl) rfl rfl ?_
      refine SL.val (Val.move rfl) rfl rfl ?_
      iterate 4 refine SL.skip rfl rfl ?_
      refine SL.val (Val.pickT rfl rfl) rfl rfl ?_
      refine SL.val (Val.move rfl) rfl rfl ?_
      iterate 4 refine SL.skip rfl rfl ?_
      refine SL.val (Val.pickT rfl rfl) rfl rfl ?_
      refine SL.nil (SE.seq ?_)
      refine SC.condT rfl ?_
      refine SC.seq (SC.region ?_)
      refine SL.val (Val.assign rfl) rfl rfl ?_
      refine SL.nil (SE.seq ?_)
      refine SC.ret ?_
      refine SE.ret ?_
      refine SE.then_ (by intro h; cases h) ?_
      refine SE.then_ (by intro h; cases h) ?_
      refine SE.ret ?_
      refine SE.then_ (by intro h; cases h) ?_
      refine SE.fin (rs := [.tmp 2]) rfl (RV.tmp rfl RV.nil) (()) (by repeat first|exact s0 _|exact s1 _|apply s2|apply s3) (by simp [It.rids]) ?_
      refine boo_dec0 fun he => ?_
      obtain ⟨g1, ⟨g2, g3⟩, ⟨g4, g5⟩, g6, g7, g8⟩ := he.1.each y hlt
      have g9 : isAmt (ls[y]'hlt).amount = true := isAmt_mk (by omega) g5
      first
        | (simp [g1] at hc29; done)
        | (simp [g9] at hc50; done)
        | (simp [g6] at hc56; done)
        | omega
    intro hc29
    refine SL.val (Val.fieldAddr tabOk rfl rfl rfl rfl rfl) rfl rfl ?_
    refine SL.val (Val.to (C := int (ls[y]'hlt).state) (Val.load1 tabOk rfl rfl (by first|(apply Or.inl;(repeat first|assumption|exact m0|apply m1);done)|(apply Or.inr;(repeat first|assumption|exact m0|apply m1);done)) List.not_mem_nil (by rfl)) rfl) rfl rfl ?_
    refine SL.val (Val.ltI rfl rfl) rfl rfl ?_
    refine SL.val (Val.pickF rfl rfl) rfl rfl ?_
    refine SL.val (Val.move rfl) rfl rfl ?_
    refine SL.bothP (t := 34) rfl ?_ ?_
    · intro hc34
      iterate 3 refine SL.skip rfl rfl ?_
      refine SL.val (Val.pickT rfl rfl) rfl rfl ?_
      refine SL.val (Val.move rfl) rfl rfl ?_
      iterate 3 refine SL.skip rfl rfl ?_
      refine SL.val (Val.pickT rfl rfl) rfl rfl ?_
      refine SL.val (Val.move rfl) rfl rfl ?_
      iterate 4 refine SL.skip rfl rfl ?_
      refine SL.val (Val.pickT rfl rfl) rfl rfl ?_
      refine SL.val (Val.move rfl) rfl rfl ?_
      iterate 4 refine SL.skip rfl rfl ?_
      refine SL.val (Val.pickT rfl rfl) rfl rfl ?_
      refine SL.val (Val.move rfl) rfl rfl ?_
      iterate 4 refine SL.skip rfl rfl ?_
      refine SL.val (Val.pickT rfl rfl) rfl rfl ?_
      refine SL.val (Val.move rfl) rfl rfl ?_
      iterate 4 refine SL.skip rfl rfl ?_
      refine SL.val (Val.pickT rfl rfl) rfl rfl ?_
      refine SL.nil (SE.seq ?_)
      refine SC.condT rfl ?_
      refine SC.seq (SC.region ?_)
      refine SL.val (Val.assign rfl) rfl rfl ?_
      refine SL.nil (SE.seq ?_)
      refine SC.ret ?_
      refine SE.ret ?_
      refine SE.then_ (by intro h; cases h) ?_
      refine SE.then_ (by intro h; cases h) ?_
      refine SE.ret ?_
      refine SE.then_ (by intro h; cases h) ?_
      refine SE.fin (rs := [.tmp 2]) rfl (RV.tmp rfl RV.nil) (()) (by repeat first|exact s0 _|exact s1 _|apply s2|apply s3) (by simp [It.rids]) ?_
      refine boo_dec0 fun he => ?_
      obtain ⟨g1, ⟨g2, g3⟩, ⟨g4, g5⟩, g6, g7, g8⟩ := he.1.each y hlt
      have g9 : isAmt (ls[y]'hlt).amount = true := isAmt_mk (by omega) g5
      first
        | (simp [g1] at hc29; done)
        | (simp [g9] at hc50; done)
        | (simp [g6] at hc56; done)
        | omega
    intro hc34
    refine SL.val (Val.fieldAddr tabOk rfl rfl rfl rfl rfl) rfl rfl ?_
    refine SL.val (Val.to (C := int (ls[y]'hlt).state) (Val.load1 tabOk rfl rfl (by first|(apply Or.inl;(repeat first|assumption|exact m0|apply m1);done)|(apply Or.inr;(repeat first|assumption|exact m0|apply m1);done)) List.not_mem_nil (by rfl)) rfl) rfl rfl ?_
    refine SL.val (Val.gtI rfl rfl) rfl rfl ?_
    refine SL.val (Val.pickF rfl rfl) rfl rfl ?_
    refine SL.val (Val.move rfl) rfl rfl ?_
    refine SL.bothP (t := 39) rfl ?_ ?_
    · intro hc39
      iterate 3 refine SL.skip rfl rfl ?_
      refine SL.val (Val.pickT rfl rfl) rfl rfl ?_
      refine SL.val (Val.move rfl) rfl rfl ?_
      iterate 4 refine SL.skip rfl rfl ?_
      refine SL.val (Val.pickT rfl rfl) rfl rfl ?_
      refine SL.val (Val.move rfl) rfl rfl ?_
      iterate 4 refine SL.skip rfl rfl ?_
      refine SL.val (Val.pickT rfl rfl) rfl rfl ?_
      refine SL.val (Val.move rfl) rfl rfl ?_
      iterate 4 refine SL.skip rfl rfl ?_
      refine SL.val (Val.pickT rfl rfl) rfl rfl ?_
      refine SL.val (Val.move rfl) rfl rfl ?_
      iterate 4 refine SL.skip rfl rfl ?_
      refine SL.val (Val.pickT rfl rfl) rfl rfl ?_
      refine SL.nil (SE.seq ?_)
      refine SC.condT rfl ?_
      refine SC.seq (SC.region ?_)
      refine SL.val (Val.assign rfl) rfl rfl ?_
      refine SL.nil (SE.seq ?_)
      refine SC.ret ?_
      refine SE.ret ?_
      refine SE.then_ (by intro h; cases h) ?_
      refine SE.then_ (by intro h; cases h) ?_
      refine SE.ret ?_
      refine SE.then_ (by intro h; cases h) ?_
      refine SE.fin (rs := [.tmp 2]) rfl (RV.tmp rfl RV.nil) (()) (by repeat first|exact s0 _|exact s1 _|apply s2|apply s3) (by simp [It.rids]) ?_
      refine boo_dec0 fun he => ?_
      obtain ⟨g1, ⟨g2, g3⟩, ⟨g4, g5⟩, g6, g7, g8⟩ := he.1.each y hlt
      have g9 : isAmt (ls[y]'hlt).amount = true := isAmt_mk (by omega) g5
      first
        | (simp [g1] at hc29; done)
        | (simp [g9] at hc50; done)
        | (simp [g6] at hc56; done)
        | omega
    intro hc39
    refine SL.val (Val.fieldAddr tabOk rfl rfl rfl rfl rfl) rfl rfl ?_
    refine SL.val (Val.to (C := int (ls[y]'hlt).amount) (Val.load1 tabOk rfl rfl (by first|(apply Or.inl;(repeat first|assumption|exact m0|apply m1);done)|(apply Or.inr;(repeat first|assumption|exact m0|apply m1);done)) List.not_mem_nil (by rfl)) rfl) rfl rfl ?_
    refine SL.val (Val.ltI rfl rfl) rfl rfl ?_
    refine SL.val (Val.pickF rfl rfl) rfl rfl ?_
    refine SL.val (Val.move rfl) rfl rfl ?_
    refine SL.bothP (t := 44) rfl ?_ ?_
    · intro hc44
      iterate 4 refine SL.skip rfl rfl ?_
      refine SL.val (Val.pickT rfl rfl) rfl rfl ?_
      refine SL.val (Val.move rfl) rfl rfl ?_
      iterate 4 refine SL.skip rfl rfl ?_
      refine SL.val (Val.pickT rfl rfl) rfl rfl ?_
      refine SL.val (Val.move rfl) rfl rfl ?_
      iterate 4 refine SL.skip rfl rfl ?_
      refine SL.val (Val.pickT rfl rfl) rfl rfl ?_
      refine SL.val (Val.move rfl) rfl rfl ?_
      iterate 4 refine SL.skip rfl rfl ?_
      refine SL.val (Val.pickT rfl rfl) rfl rfl ?_
      refine SL.nil (SE.seq ?_)
      refine SC.condT rfl ?_
      refine SC.seq (SC.region ?_)
      refine SL.val (Val.assign rfl) rfl rfl ?_
      refine SL.nil (SE.seq ?_)
      refine SC.ret ?_
      refine SE.ret ?_
      refine SE.then_ (by intro h; cases h) ?_
      refine SE.then_ (by intro h; cases h) ?_
      refine SE.ret ?_
      refine SE.then_ (by intro h; cases h) ?_
      refine SE.fin (rs := [.tmp 2]) rfl (RV.tmp rfl RV.nil) (()) (by repeat first|exact s0 _|exact s1 _|apply s2|apply s3) (by simp [It.rids]) ?_
      refine boo_dec0 fun he => ?_
      obtain ⟨g1, ⟨g2, g3⟩, ⟨g4, g5⟩, g6, g7, g8⟩ := he.1.each y hlt
      have g9 : isAmt (ls[y]'hlt).amount = true := isAmt_mk (by omega) g5
      first
        | (simp [g1] at hc29; done)
        | (simp [g9] at hc50; done)
        | (simp [g6] at hc56; done)
        | omega
    intro hc44
    refine SL.val (Val.fieldAddr tabOk rfl rfl rfl rfl rfl) rfl rfl ?_
    refine SL.val (Val.to (C := int (ls[y]'hlt).amount) (Val.load1 tabOk rfl rfl (by first|(apply Or.inl;(repeat first|assumption|exact m0|apply m1);done)|(apply Or.inr;(repeat first|assumption|exact m0|apply m1);done)) List.not_mem_nil (by rfl)) rfl) rfl rfl ?_
    refine SL.call (rmis_s (a := (ls[y]'hlt).amount)) Casts.refl (by kernel_rfl) rfl rfl rfl ?_
    refine After.pure (by repeat (first | exact Reads.nil | (refine Reads.blk ?_ ?_; focus ((repeat first|assumption|exact m0|apply m1); done)) | (refine Reads.rd ?_ ?_; focus ((repeat first|assumption|exact m0|apply m1); done)) | (refine Reads.pc ?_ ?_; focus ((repeat first|assumption|exact m0|apply m1); done)) | (refine Reads.rdpc ?_ ?_; focus ((repeat first|assumption|exact m0|apply m1); done)))) (fun _ => rfl) ?_
    intro _
    refine SL.val (Val.notB rfl) rfl rfl ?_
    refine SL.val (Val.pickF rfl rfl) rfl rfl ?_
    refine SL.val (Val.move rfl) rfl rfl ?_
    refine SL.both (t := 50) rfl ?_ ?_
    · intro hc50
      iterate 4 refine SL.skip rfl rfl ?_
      refine SL.val (Val.pickT rfl rfl) rfl rfl ?_
      refine SL.val (Val.move rfl) rfl rfl ?_
      iterate 4 refine SL.skip rfl rfl ?_
      refine SL.val (Val.pickT rfl rfl) rfl rfl ?_
      refine SL.val (Val.move rfl) rfl rfl ?_
      iterate 4 refine SL.skip rfl rfl ?_
      refine SL.val (Val.pickT rfl rfl) rfl rfl ?_
      refine SL.nil (SE.seq ?_)
      refine SC.condT rfl ?_
      refine SC.seq (SC.region ?_)
      refine SL.val (Val.assign rfl) rfl rfl ?_
      refine SL.nil (SE.seq ?_)
      refine SC.ret ?_
      refine SE.ret ?_
      refine SE.then_ (by intro h; cases h) ?_
      refine SE.then_ (by intro h; cases h) ?_
      refine SE.ret ?_
      refine SE.then_ (by intro h; cases h) ?_
      refine SE.fin (rs := [.tmp 2]) rfl (RV.tmp rfl RV.nil) (()) (by repeat first|exact s0 _|exact s1 _|apply s2|apply s3) (by simp [It.rids]) ?_
      refine boo_dec0 fun he => ?_
      obtain ⟨g1, ⟨g2, g3⟩, ⟨g4, g5⟩, g6, g7, g8⟩ := he.1.each y hlt
      have g9 : isAmt (ls[y]'hlt).amount = true := isAmt_mk (by omega) g5
      first
        | (simp [g1] at hc29; done)
        | (simp [g9] at hc50; done)
        | (simp [g6] at hc56; done)
        | omega
    intro hc50
    refine SL.val (Val.fieldAddr tabOk rfl rfl rfl rfl rfl) rfl rfl ?_
    refine SL.val (Val.to (C := int (ls[y]'hlt).due) (Val.load1 tabOk rfl rfl (by first|(apply Or.inl;(repeat first|assumption|exact m0|apply m1);done)|(apply Or.inr;(repeat first|assumption|exact m0|apply m1);done)) List.not_mem_nil (by rfl)) rfl) rfl rfl ?_
    refine SL.call (rday_s (a := (ls[y]'hlt).due)) Casts.refl (by kernel_rfl) rfl rfl rfl ?_
    refine After.pure (by repeat (first | exact Reads.nil | (refine Reads.blk ?_ ?_; focus ((repeat first|assumption|exact m0|apply m1); done)) | (refine Reads.rd ?_ ?_; focus ((repeat first|assumption|exact m0|apply m1); done)) | (refine Reads.pc ?_ ?_; focus ((repeat first|assumption|exact m0|apply m1); done)) | (refine Reads.rdpc ?_ ?_; focus ((repeat first|assumption|exact m0|apply m1); done)))) (fun _ => rfl) ?_
    intro _
    refine SL.val (Val.notB rfl) rfl rfl ?_
    refine SL.val (Val.pickF rfl rfl) rfl rfl ?_
    refine SL.val (Val.move rfl) rfl rfl ?_
    refine SL.both (t := 56) rfl ?_ ?_
    · intro hc56
      iterate 4 refine SL.skip rfl rfl ?_
      refine SL.val (Val.pickT rfl rfl) rfl rfl ?_
      refine SL.val (Val.move rfl) rfl rfl ?_
      iterate 4 refine SL.skip rfl rfl ?_
      refine SL.val (Val.pickT rfl rfl) rfl rfl ?_
      refine SL.nil (SE.seq ?_)
      refine SC.condT rfl ?_
      refine SC.seq (SC.region ?_)
      refine SL.val (Val.assign rfl) rfl rfl ?_
      refine SL.nil (SE.seq ?_)
      refine SC.ret ?_
      refine SE.ret ?_
      refine SE.then_ (by intro h; cases h) ?_
      refine SE.then_ (by intro h; cases h) ?_
      refine SE.ret ?_
      refine SE.then_ (by intro h; cases h) ?_
      refine SE.fin (rs := [.tmp 2]) rfl (RV.tmp rfl RV.nil) (()) (by repeat first|exact s0 _|exact s1 _|apply s2|apply s3) (by simp [It.rids]) ?_
      refine boo_dec0 fun he => ?_
      obtain ⟨g1, ⟨g2, g3⟩, ⟨g4, g5⟩, g6, g7, g8⟩ := he.1.each y hlt
      have g9 : isAmt (ls[y]'hlt).amount = true := isAmt_mk (by omega) g5
      first
        | (simp [g1] at hc29; done)
        | (simp [g9] at hc50; done)
        | (simp [g6] at hc56; done)
        | omega
    intro hc56
    refine SL.val (Val.fieldAddr tabOk rfl rfl rfl rfl rfl) rfl rfl ?_
    refine SL.val (Val.to (C := st (ls[y]'hlt).policy) (Val.load1 tabOk rfl rfl (by first|(apply Or.inl;(repeat first|assumption|exact m0|apply m1);done)|(apply Or.inr;(repeat first|assumption|exact m0|apply m1);done)) List.not_mem_nil (by rfl)) rfl) rfl rfl ?_
    refine SL.val (Val.lenSt rfl Tryz.underlying9) rfl rfl ?_
    refine SL.val (Val.gtI rfl rfl) rfl rfl ?_
    refine SL.val (Val.pickF rfl rfl) rfl rfl ?_
    refine SL.val (Val.move rfl) rfl rfl ?_
    refine SL.bothP (t := 62) rfl ?_ ?_
    · intro hc62
      iterate 4 refine SL.skip rfl rfl ?_
      refine SL.val (Val.pickT rfl rfl) rfl rfl ?_
      refine SL.nil (SE.seq ?_)
      refine SC.condT rfl ?_
      refine SC.seq (SC.region ?_)
      refine SL.val (Val.assign rfl) rfl rfl ?_
      refine SL.nil (SE.seq ?_)
      refine SC.ret ?_
      refine SE.ret ?_
      refine SE.then_ (by intro h; cases h) ?_
      refine SE.then_ (by intro h; cases h) ?_
      refine SE.ret ?_
      refine SE.then_ (by intro h; cases h) ?_
      refine SE.fin (rs := [.tmp 2]) rfl (RV.tmp rfl RV.nil) (()) (by repeat first|exact s0 _|exact s1 _|apply s2|apply s3) (by simp [It.rids]) ?_
      refine boo_dec0 fun he => ?_
      obtain ⟨g1, ⟨g2, g3⟩, ⟨g4, g5⟩, g6, g7, g8⟩ := he.1.each y hlt
      have g9 : isAmt (ls[y]'hlt).amount = true := isAmt_mk (by omega) g5
      first
        | (simp [g1] at hc29; done)
        | (simp [g9] at hc50; done)
        | (simp [g6] at hc56; done)
        | omega
    intro hc62
    refine SL.val (Val.fieldAddr tabOk rfl rfl rfl rfl rfl) rfl rfl ?_
    refine SL.val (Val.to (C := st (ls[y]'hlt).papers) (Val.load1 tabOk rfl rfl (by first|(apply Or.inl;(repeat first|assumption|exact m0|apply m1);done)|(apply Or.inr;(repeat first|assumption|exact m0|apply m1);done)) List.not_mem_nil (by rfl)) rfl) rfl rfl ?_
    refine SL.val (Val.lenSt rfl Tryz.underlying9) rfl rfl ?_
    refine SL.val (Val.gtI rfl rfl) rfl rfl ?_
    refine SL.val (Val.pickF rfl rfl) rfl rfl ?_
    refine SL.nil (SE.seq ?_)
    refine SC.condP rfl ?_ ?_
    rotate_left
    · intro hc67
      refine SC.skip ?_
      refine SE.inBlock ?_
      refine SE.seq ?_
      refine SC.region ?_
      first
        | refine SL.val (Val.addI rfl rfl (by simp only [InR, lo, hi]; omega)) rfl rfl ?_
        | refine SL.val (Val.addW rfl rfl) rfl rfl ?_
      refine SL.val (Val.move rfl) rfl rfl ?_
      refine SL.nil ?_
      have hok : LtR (ls[y]'hlt) := ⟨by simpa using hc29, by omega, ⟨by omega, (isAmt_true (by simpa using hc50)).2⟩, by simpa using hc56, by omega, by omega⟩
      refine SE.round (y + 1) (by first | omega | (dsimp only; omega)) (⟨by omega, fun j h h2 => by rcases Nat.lt_or_ge j y with h3 | h3; exact hy.2 j h h3; obtain rfl : j = y := (by omega); exact ⟨hok, hz⟩⟩) (by exact ⟨rfl, rfl, rfl, rfl, trivial⟩) (by repeat first|exact s0 _|exact s1 _|apply s2|apply s3)
    intro hc67
    refine SC.seq (SC.region ?_)
    refine SL.val (Val.assign rfl) rfl rfl ?_
    refine SL.nil (SE.seq ?_)
    refine SC.ret ?_
    refine SE.ret ?_
    refine SE.then_ (by intro h; cases h) ?_
    refine SE.then_ (by intro h; cases h) ?_
    refine SE.ret ?_
    refine SE.then_ (by intro h; cases h) ?_
    refine SE.fin (rs := [.tmp 2]) rfl (RV.tmp rfl RV.nil) (()) (by repeat first|exact s0 _|exact s1 _|apply s2|apply s3) (by simp [It.rids]) ?_
    refine boo_dec0 fun he => ?_
    obtain ⟨g1, ⟨g2, g3⟩, ⟨g4, g5⟩, g6, g7, g8⟩ := he.1.each y hlt
    have g9 : isAmt (ls[y]'hlt).amount = true := isAmt_mk (by omega) g5
    first
      | (simp [g1] at hc29; done)
      | (simp [g9] at hc50; done)
      | (simp [g6] at hc56; done)
      | omega
set_option maxHeartbeats 2000000 in
theorem rright_s (hs : ∀ x ∈ l.ls, x.name.size ≤ lots) : Spec Tryz.prog 13 [.agg l.abs] [] (fun _ : Unit => []) (fun _ => boo (decide l.Right)) := by
  refine spec_of Tryz.func13 rfl Tryz.ntmps13 rfl fun G w => ?_
  refine SC.seq (SC.region ?_)
  refine SL.eff (Eff.boxA (cs := l.abs) rfl) rfl rfl ?_
  rintro _ _ ⟨b1, rfl, rfl⟩
  refine SL.val (Val.assign rfl) rfl rfl ?_
  refine SL.nil (SE.seq ?_)
  refine SC.seq ?_
  refine SC.seq (SC.region ?_)
  refine SL.val (Val.fieldAddr tabOk rfl rfl rfl rfl rfl) rfl rfl ?_
  refine SL.val (Val.to (C := .sl 3 (l.os.map Oc.abs)) (Val.load1 tabOk rfl rfl (by first|(apply Or.inl;(repeat first|assumption|exact m0|apply m1);done)|(apply Or.inr;(repeat first|assumption|exact m0|apply m1);done)) List.not_mem_nil (by rfl)) rfl) rfl rfl ?_
  first
    | refine SL.val (Val.lenSl rfl Tryz.underlying23 (List.length_map _)) rfl rfl ?_
    | refine SL.val (Val.lenOwn rfl (by repeat first|assumption|exact m0|apply m1) Tryz.underlying23 (List.length_map _)) rfl rfl ?_
    | refine SL.val (Val.lenNil rfl Tryz.underlying23) rfl rfl ?_
  refine SL.val (Val.move rfl) rfl rfl ?_
  refine SL.nil (SE.seq ?_)
  refine SC.block ?_
  refine SC.rowLe (i := 6) rfl fun hrow => ?_
  rw [List.length_map] at hrow
  unfold maxLen at hrow
  refine SC.loop (ι := Nat) (fun y => [.blk b1 25 l.abs]) (fun y => [(1, ptr b1), (6, outA l.os), (7, int (l.os.length : Nat)), (8, int (y : Nat))]) (fun y => y ≤ l.os.length ∧ ∀ j (h : j < l.os.length), j < y → OcR l.os[j] ∧ (0 < j → (l.os[j - 1]'(by omega)).client < l.os[j].client)) (fun y => l.os.length - y) (0) (⟨Nat.zero_le _, fun j h h2 => by omega⟩) (by exact ⟨rfl, rfl, rfl, rfl, trivial⟩) (by repeat first|exact s0 _|exact s1 _|apply s2|apply s3) ?_
  intro y hy
  refine SC.seq (SC.region ?_)
  refine SL.val (Val.ltI rfl rfl) rfl rfl ?_
  refine SL.nil (SE.seq ?_)
  refine SC.seq ?_
  refine SC.condP rfl ?_ ?_
  rotate_left
  · intro hc9
    refine SC.exit ?_
    refine SE.then_ (by intro h; cases h) ?_
    refine SE.then_ (by intro h; cases h) ?_
    refine SE.exit ?_
    refine SE.seq ?_
    refine SC.seq (SC.region ?_)
    refine SL.val (Val.fieldAddr tabOk rfl rfl rfl rfl rfl) rfl rfl ?_
    refine SL.val (Val.to (C := int l.seq) (Val.load1 tabOk rfl rfl (by first|(apply Or.inl;(repeat first|assumption|exact m0|apply m1);done)|(apply Or.inr;(repeat first|assumption|exact m0|apply m1);done)) List.not_mem_nil (by rfl)) rfl) rfl rfl ?_
    refine SL.val (Val.geI rfl rfl) rfl rfl ?_
    refine SL.val (Val.move rfl) rfl rfl ?_
    refine SL.bothP (t := 61) rfl ?_ ?_
    rotate_left
    · intro hc61
      iterate 3 refine SL.skip rfl rfl ?_
      refine SL.val (Val.pickF rfl rfl) rfl rfl ?_
      refine SL.val (Val.move rfl) rfl rfl ?_
      iterate 3 refine SL.skip rfl rfl ?_
      refine SL.val (Val.pickF rfl rfl) rfl rfl ?_
      refine SL.val (Val.move rfl) rfl rfl ?_
      iterate 4 refine SL.skip rfl rfl ?_
      refine SL.val (Val.pickF rfl rfl) rfl rfl ?_
      refine SL.val (Val.move rfl) rfl rfl ?_
      iterate 3 refine SL.skip rfl rfl ?_
      refine SL.val (Val.pickF rfl rfl) rfl rfl ?_
      refine SL.val (Val.assign rfl) rfl rfl ?_
      refine SL.nil (SE.seq ?_)
      refine SC.ret ?_
      have hr : OcsR l.os := ⟨fun j h => (hy.2 j h (by omega)).1, fun j h => (hy.2 j h (by omega)).2⟩
      refine SE.fin (rs := [.tmp 2]) rfl (RV.tmp rfl RV.nil) (()) (by repeat first|exact s0 _|exact s1 _|apply s2|apply s3) (by simp [It.rids]) ?_
      first
        | (refine boo_dec0 fun he => ?_; obtain ⟨g1, ⟨g2, g2'⟩, g3, g4, g5, g6⟩ := he; first | omega | (rw [g3] at hc66; cases hc66; done) | (rw [g3] at hc71; cases hc71; done))
        | (refine congrArg (fun b => Abs.v (Value.bool b)) ?_; rw [decide_eq_decide]; exact ⟨fun h => ⟨hr, by omega, by assumption, by omega, h.1, h.2⟩, fun h => ⟨h.ls, h.lsFew⟩⟩)
    intro hc61
    refine SL.val (Val.fieldAddr tabOk rfl rfl rfl rfl rfl) rfl rfl ?_
    refine SL.val (Val.to (C := int l.seq) (Val.load1 tabOk rfl rfl (by first|(apply Or.inl;(repeat first|assumption|exact m0|apply m1);done)|(apply Or.inr;(repeat first|assumption|exact m0|apply m1);done)) List.not_mem_nil (by rfl)) rfl) rfl rfl ?_
    refine SL.val (Val.leI rfl rfl) rfl rfl ?_
    refine SL.val (Val.pickT rfl rfl) rfl rfl ?_
    refine SL.val (Val.move rfl) rfl rfl ?_
    refine SL.bothP (t := 66) rfl ?_ ?_
    rotate_left
    · intro hc66
      iterate 3 refine SL.skip rfl rfl ?_
      refine SL.val (Val.pickF rfl rfl) rfl rfl ?_
      refine SL.val (Val.move rfl) rfl rfl ?_
      iterate 4 refine SL.skip rfl rfl ?_
      refine SL.val (Val.pickF rfl rfl) rfl rfl ?_
      refine SL.val (Val.move rfl) rfl rfl ?_
      iterate 3 refine SL.skip rfl rfl ?_
      refine SL.val (Val.pickF rfl rfl) rfl rfl ?_
      refine SL.val (Val.assign rfl) rfl rfl ?_
      refine SL.nil (SE.seq ?_)
      refine SC.ret ?_
      have hr : OcsR l.os := ⟨fun j h => (hy.2 j h (by omega)).1, fun j h => (hy.2 j h (by omega)).2⟩
      refine SE.fin (rs := [.tmp 2]) rfl (RV.tmp rfl RV.nil) (()) (by repeat first|exact s0 _|exact s1 _|apply s2|apply s3) (by simp [It.rids]) ?_
      first
        | (refine boo_dec0 fun he => ?_; obtain ⟨g1, ⟨g2, g2'⟩, g3, g4, g5, g6⟩ := he; first | omega | (rw [g3] at hc66; cases hc66; done) | (rw [g3] at hc71; cases hc71; done))
        | (refine congrArg (fun b => Abs.v (Value.bool b)) ?_; rw [decide_eq_decide]; exact ⟨fun h => ⟨hr, by omega, by assumption, by omega, h.1, h.2⟩, fun h => ⟨h.ls, h.lsFew⟩⟩)
    intro hc66
    refine SL.val (Val.fieldAddr tabOk rfl rfl rfl rfl rfl) rfl rfl ?_
    refine SL.val (Val.to (C := int l.total) (Val.load1 tabOk rfl rfl (by first|(apply Or.inl;(repeat first|assumption|exact m0|apply m1);done)|(apply Or.inr;(repeat first|assumption|exact m0|apply m1);done)) List.not_mem_nil (by rfl)) rfl) rfl rfl ?_
    refine SL.call (rmis_s (a := l.total)) Casts.refl (by kernel_rfl) rfl rfl rfl ?_
    refine After.pure (by repeat (first | exact Reads.nil | (refine Reads.blk ?_ ?_; focus ((repeat first|assumption|exact m0|apply m1); done)) | (refine Reads.rd ?_ ?_; focus ((repeat first|assumption|exact m0|apply m1); done)) | (refine Reads.pc ?_ ?_; focus ((repeat first|assumption|exact m0|apply m1); done)) | (refine Reads.rdpc ?_ ?_; focus ((repeat first|assumption|exact m0|apply m1); done)))) (fun _ => rfl) ?_
    intro _
    refine SL.val (Val.pickT rfl rfl) rfl rfl ?_
    refine SL.val (Val.move rfl) rfl rfl ?_
    refine SL.both (t := 71) rfl ?_ ?_
    rotate_left
    · intro hc71
      iterate 4 refine SL.skip rfl rfl ?_
      refine SL.val (Val.pickF rfl rfl) rfl rfl ?_
      refine SL.val (Val.move rfl) rfl rfl ?_
      iterate 3 refine SL.skip rfl rfl ?_
      refine SL.val (Val.pickF rfl rfl) rfl rfl ?_
      refine SL.val (Val.assign rfl) rfl rfl ?_
      refine SL.nil (SE.seq ?_)
      refine SC.ret ?_
      have hr : OcsR l.os := ⟨fun j h => (hy.2 j h (by omega)).1, fun j h => (hy.2 j h (by omega)).2⟩
      refine SE.fin (rs := [.tmp 2]) rfl (RV.tmp rfl RV.nil) (()) (by repeat first|exact s0 _|exact s1 _|apply s2|apply s3) (by simp [It.rids]) ?_
      first
        | (refine boo_dec0 fun he => ?_; obtain ⟨g1, ⟨g2, g2'⟩, g3, g4, g5, g6⟩ := he; first | omega | (rw [g3] at hc66; cases hc66; done) | (rw [g3] at hc71; cases hc71; done))
        | (refine congrArg (fun b => Abs.v (Value.bool b)) ?_; rw [decide_eq_decide]; exact ⟨fun h => ⟨hr, by omega, by assumption, by omega, h.1, h.2⟩, fun h => ⟨h.ls, h.lsFew⟩⟩)
    intro hc71
    refine SL.val (Val.fieldAddr tabOk rfl rfl rfl rfl rfl) rfl rfl ?_
    refine SL.val (Val.to (C := .sl 3 (l.os.map Oc.abs)) (Val.load1 tabOk rfl rfl (by first|(apply Or.inl;(repeat first|assumption|exact m0|apply m1);done)|(apply Or.inr;(repeat first|assumption|exact m0|apply m1);done)) List.not_mem_nil (by rfl)) rfl) rfl rfl ?_
    first
      | refine SL.val (Val.lenSl rfl Tryz.underlying23 (List.length_map _)) rfl rfl ?_
      | refine SL.val (Val.lenOwn rfl (by repeat first|assumption|exact m0|apply m1) Tryz.underlying23 (List.length_map _)) rfl rfl ?_
      | refine SL.val (Val.lenNil rfl Tryz.underlying23) rfl rfl ?_
    refine SL.val (Val.leI rfl rfl) rfl rfl ?_
    refine SL.val (Val.pickT rfl rfl) rfl rfl ?_
    refine SL.val (Val.move rfl) rfl rfl ?_
    refine SL.bothP (t := 77) rfl ?_ ?_
    rotate_left
    · intro hc77
      iterate 3 refine SL.skip rfl rfl ?_
      refine SL.val (Val.pickF rfl rfl) rfl rfl ?_
      refine SL.val (Val.assign rfl) rfl rfl ?_
      refine SL.nil (SE.seq ?_)
      refine SC.ret ?_
      have hr : OcsR l.os := ⟨fun j h => (hy.2 j h (by omega)).1, fun j h => (hy.2 j h (by omega)).2⟩
      refine SE.fin (rs := [.tmp 2]) rfl (RV.tmp rfl RV.nil) (()) (by repeat first|exact s0 _|exact s1 _|apply s2|apply s3) (by simp [It.rids]) ?_
      first
        | (refine boo_dec0 fun he => ?_; obtain ⟨g1, ⟨g2, g2'⟩, g3, g4, g5, g6⟩ := he; first | omega | (rw [g3] at hc66; cases hc66; done) | (rw [g3] at hc71; cases hc71; done))
        | (refine congrArg (fun b => Abs.v (Value.bool b)) ?_; rw [decide_eq_decide]; exact ⟨fun h => ⟨hr, by omega, by assumption, by omega, h.1, h.2⟩, fun h => ⟨h.ls, h.lsFew⟩⟩)
    intro hc77
    refine SL.val (Val.fieldAddr tabOk rfl rfl rfl rfl rfl) rfl rfl ?_
    refine SL.val (Val.to (C := .sl 6 (l.ls.map ltrA)) (Val.load1 tabOk rfl rfl (by first|(apply Or.inl;(repeat first|assumption|exact m0|apply m1);done)|(apply Or.inr;(repeat first|assumption|exact m0|apply m1);done)) List.not_mem_nil (by rfl)) rfl) rfl rfl ?_
    refine SL.call (letters_s hs) Casts.refl (by kernel_rfl) rfl rfl rfl ?_
    refine After.pure (by repeat (first | exact Reads.nil | (refine Reads.blk ?_ ?_; focus ((repeat first|assumption|exact m0|apply m1); done)) | (refine Reads.rd ?_ ?_; focus ((repeat first|assumption|exact m0|apply m1); done)) | (refine Reads.pc ?_ ?_; focus ((repeat first|assumption|exact m0|apply m1); done)) | (refine Reads.rdpc ?_ ?_; focus ((repeat first|assumption|exact m0|apply m1); done)))) (fun _ => rfl) ?_
    intro _
    refine SL.val (Val.pickT rfl rfl) rfl rfl ?_
    refine SL.val (Val.assign rfl) rfl rfl ?_
    refine SL.nil (SE.seq ?_)
    refine SC.ret ?_
    have hr : OcsR l.os := ⟨fun j h => (hy.2 j h (by omega)).1, fun j h => (hy.2 j h (by omega)).2⟩
    refine SE.fin (rs := [.tmp 2]) rfl (RV.tmp rfl RV.nil) (()) (by repeat first|exact s0 _|exact s1 _|apply s2|apply s3) (by simp [It.rids]) ?_
    first
      | (refine boo_dec0 fun he => ?_; obtain ⟨g1, ⟨g2, g2'⟩, g3, g4, g5, g6⟩ := he; first | omega | (rw [g3] at hc66; cases hc66; done) | (rw [g3] at hc71; cases hc71; done))
      | (refine congrArg (fun b => Abs.v (Value.bool b)) ?_; rw [decide_eq_decide]; exact ⟨fun h => ⟨hr, by omega, by assumption, by omega, h.1, h.2⟩, fun h => ⟨h.ls, h.lsFew⟩⟩)
  intro hc9
  have hlt : y < l.os.length := by omega
  refine SC.skip ?_
  refine SE.seq ?_
  refine SC.seq ?_
  refine SC.block ?_
  refine SC.seq (SC.region ?_)
  refine SL.val (Val.move rfl) rfl rfl ?_
  refine SL.val (Val.indexSl tabOk Tryz.underlying23 rfl rfl rfl rfl (at_map (by omega)) rfl rfl) rfl rfl ?_
  refine SL.val (Val.loadAR tabOk rfl rfl rfl (by rfl)) rfl rfl ?_
  refine SL.eff (Eff.alloc tabOk rfl) rfl rfl ?_
  rintro _ _ ⟨b4, rfl, rfl⟩
  refine SL.val (Val.assign rfl) rfl rfl ?_
  refine SL.eff (Eff.store (L' := Oc.abs (l.os[y]'hlt)) tabOk rfl rfl rfl (by repeat first|assumption|exact Upd.here|apply Upd.there) rfl (Nat.le_of_ble_eq_true (by rfl)) rfl (by exact putL_whole rfl)) rfl rfl ?_
  rintro _ _ ⟨rfl, rfl⟩
  refine SL.nil (SE.seq ?_)
  refine SC.seq ?_
  refine SC.draw [] (.q 0 (.q 1 (.q 2 (.q 3 (.q 4 (.q 5 (.q 6 (.q 7 (.q 8 (.q 9 (.q 10 (.q 11 (.q 12 (.q 13 (.q 14 (.q 15 (.q 16 (.q 17 (.q 18 (.q 19 (.q 20 (.q 21 (.q 22 (.q 23 (.q 24 (.q 25 (.q 26 (.q 27 (.q 28 (.q 29 (.q 30 (.q 31 (.q 32 (.q 33 (.q 34 (.q 35 (.q 36 (.q 37 (.q 38 (.q 39 (.q 40 (.q 41 (.q 42 (.q 43 .nil)))))))))))))))))))))))))))))))))))))))))))) (by kernel_rfl) (by kernel_rfl) ?_
  refine SX.val rfl (Val.move rfl) (by simp) rfl rfl ?_
  refine SX.val rfl (Val.gtI rfl rfl) (by simp) rfl rfl ?_
  refine SX.val rfl (Val.move rfl) (by simp) rfl rfl ?_
  refine SX.bothP (t := 15) rfl ?_ ?_
  rotate_left
  · intro hc15
    iterate 10 refine SX.skip rfl rfl rfl ?_
    refine SX.val rfl (Val.pickF rfl rfl) (by simp) rfl rfl ?_
    refine SX.val rfl (Val.move rfl) (by simp) rfl rfl ?_
    refine SX.val rfl (Val.fieldAddr tabOk rfl rfl rfl rfl rfl) (by simp) rfl rfl ?_
    refine SX.hx (by first|(simp[mids,It.mids,ownPc];done)|(intro k hk;simp[mids,It.mids,ownPc] at hk ⊢;grind)) fun hx9 => ?_
    refine SX.val rfl (Val.to (C := int (l.os[y]'hlt).client) (Val.load1 tabOk rfl rfl (by first|(apply Or.inl;(repeat first|assumption|exact m0|apply m1);done)|(apply Or.inr;(repeat first|assumption|exact m0|apply m1);done)) List.not_mem_nil (by rfl)) rfl) hx9 rfl rfl ?_
    refine SX.val rfl (Val.ltI rfl rfl) (by simp) rfl rfl ?_
    refine SX.val rfl (Val.pickF rfl rfl) (by simp) rfl rfl ?_
    refine SX.val rfl (Val.move rfl) (by simp) rfl rfl ?_
    refine SX.bothP (t := 32) rfl ?_ ?_
    · intro hc32
      iterate 3 refine SX.skip rfl rfl rfl ?_
      refine SX.val rfl (Val.pickT rfl rfl) (by simp) rfl rfl ?_
      refine SX.val rfl (Val.move rfl) (by simp) rfl rfl ?_
      iterate 3 refine SX.skip rfl rfl rfl ?_
      refine SX.val rfl (Val.pickT rfl rfl) (by simp) rfl rfl ?_
      refine SX.val rfl (Val.move rfl) (by simp) rfl rfl ?_
      iterate 3 refine SX.skip rfl rfl rfl ?_
      refine SX.val rfl (Val.pickT rfl rfl) (by simp) rfl rfl ?_
      refine SX.val rfl (Val.move rfl) (by simp) rfl rfl ?_
      iterate 3 refine SX.skip rfl rfl rfl ?_
      refine SX.val rfl (Val.pickT rfl rfl) (by simp) rfl rfl ?_
      refine SX.val rfl (Val.move rfl) (by simp) rfl rfl ?_
      iterate 3 refine SX.skip rfl rfl rfl ?_
      refine SX.val rfl (Val.pickT rfl rfl) (by simp) rfl rfl ?_
      refine SX.nil (SE.seq ?_)
      refine SC.condT rfl ?_
      refine SC.seq (SC.region ?_)
      refine SL.val (Val.assign rfl) rfl rfl ?_
      refine SL.nil (SE.seq ?_)
      refine SC.ret ?_
      refine SE.ret ?_
      refine SE.then_ (by intro h; cases h) ?_
      refine SE.then_ (by intro h; cases h) ?_
      refine SE.ret ?_
      refine SE.then_ (by intro h; cases h) ?_
      refine SE.fin (rs := [.tmp 2]) rfl (RV.tmp rfl RV.nil) (()) (by repeat first|exact s0 _|exact s1 _|apply s2|apply s3) (by simp [It.rids]) ?_
      refine boo_dec0 fun he => ?_
      obtain ⟨g1, g2, g3⟩ := he.os.each y hlt
      have g4 := he.os.rise y hlt
      omega
    intro hc32
    refine SX.val rfl (Val.fieldAddr tabOk rfl rfl rfl rfl rfl) (by simp) rfl rfl ?_
    refine SX.val rfl (Val.to (C := int (l.os[y]'hlt).client) (Val.load1 tabOk rfl rfl (by first|(apply Or.inl;(repeat first|assumption|exact m0|apply m1);done)|(apply Or.inr;(repeat first|assumption|exact m0|apply m1);done)) List.not_mem_nil (by rfl)) rfl) hx9 rfl rfl ?_
    refine SX.val rfl (Val.gtI rfl rfl) (by simp) rfl rfl ?_
    refine SX.val rfl (Val.pickF rfl rfl) (by simp) rfl rfl ?_
    refine SX.val rfl (Val.move rfl) (by simp) rfl rfl ?_
    refine SX.bothP (t := 37) rfl ?_ ?_
    · intro hc37
      iterate 3 refine SX.skip rfl rfl rfl ?_
      refine SX.val rfl (Val.pickT rfl rfl) (by simp) rfl rfl ?_
      refine SX.val rfl (Val.move rfl) (by simp) rfl rfl ?_
      iterate 3 refine SX.skip rfl rfl rfl ?_
      refine SX.val rfl (Val.pickT rfl rfl) (by simp) rfl rfl ?_
      refine SX.val rfl (Val.move rfl) (by simp) rfl rfl ?_
      iterate 3 refine SX.skip rfl rfl rfl ?_
      refine SX.val rfl (Val.pickT rfl rfl) (by simp) rfl rfl ?_
      refine SX.val rfl (Val.move rfl) (by simp) rfl rfl ?_
      iterate 3 refine SX.skip rfl rfl rfl ?_
      refine SX.val rfl (Val.pickT rfl rfl) (by simp) rfl rfl ?_
      refine SX.nil (SE.seq ?_)
      refine SC.condT rfl ?_
      refine SC.seq (SC.region ?_)
      refine SL.val (Val.assign rfl) rfl rfl ?_
      refine SL.nil (SE.seq ?_)
      refine SC.ret ?_
      refine SE.ret ?_
      refine SE.then_ (by intro h; cases h) ?_
      refine SE.then_ (by intro h; cases h) ?_
      refine SE.ret ?_
      refine SE.then_ (by intro h; cases h) ?_
      refine SE.fin (rs := [.tmp 2]) rfl (RV.tmp rfl RV.nil) (()) (by repeat first|exact s0 _|exact s1 _|apply s2|apply s3) (by simp [It.rids]) ?_
      refine boo_dec0 fun he => ?_
      obtain ⟨g1, g2, g3⟩ := he.os.each y hlt
      have g4 := he.os.rise y hlt
      omega
    intro hc37
    refine SX.val rfl (Val.fieldAddr tabOk rfl rfl rfl rfl rfl) (by simp) rfl rfl ?_
    refine SX.val rfl (Val.to (C := int (l.os[y]'hlt).stamp) (Val.load1 tabOk rfl rfl (by first|(apply Or.inl;(repeat first|assumption|exact m0|apply m1);done)|(apply Or.inr;(repeat first|assumption|exact m0|apply m1);done)) List.not_mem_nil (by rfl)) rfl) hx9 rfl rfl ?_
    refine SX.val rfl (Val.ltI rfl rfl) (by simp) rfl rfl ?_
    refine SX.val rfl (Val.pickF rfl rfl) (by simp) rfl rfl ?_
    refine SX.val rfl (Val.move rfl) (by simp) rfl rfl ?_
    refine SX.bothP (t := 42) rfl ?_ ?_
    · intro hc42
      iterate 3 refine SX.skip rfl rfl rfl ?_
      refine SX.val rfl (Val.pickT rfl rfl) (by simp) rfl rfl ?_
      refine SX.val rfl (Val.move rfl) (by simp) rfl rfl ?_
      iterate 3 refine SX.skip rfl rfl rfl ?_
      refine SX.val rfl (Val.pickT rfl rfl) (by simp) rfl rfl ?_
      refine SX.val rfl (Val.move rfl) (by simp) rfl rfl ?_
      iterate 3 refine SX.skip rfl rfl rfl ?_
      refine SX.val rfl (Val.pickT rfl rfl) (by simp) rfl rfl ?_
      refine SX.nil (SE.seq ?_)
      refine SC.condT rfl ?_
      refine SC.seq (SC.region ?_)
      refine SL.val (Val.assign rfl) rfl rfl ?_
      refine SL.nil (SE.seq ?_)
      refine SC.ret ?_
      refine SE.ret ?_
      refine SE.then_ (by intro h; cases h) ?_
      refine SE.then_ (by intro h; cases h) ?_
      refine SE.ret ?_
      refine SE.then_ (by intro h; cases h) ?_
      refine SE.fin (rs := [.tmp 2]) rfl (RV.tmp rfl RV.nil) (()) (by repeat first|exact s0 _|exact s1 _|apply s2|apply s3) (by simp [It.rids]) ?_
      refine boo_dec0 fun he => ?_
      obtain ⟨g1, g2, g3⟩ := he.os.each y hlt
      have g4 := he.os.rise y hlt
      omega
    intro hc42
    refine SX.val rfl (Val.fieldAddr tabOk rfl rfl rfl rfl rfl) (by simp) rfl rfl ?_
    refine SX.val rfl (Val.to (C := int (l.os[y]'hlt).stamp) (Val.load1 tabOk rfl rfl (by first|(apply Or.inl;(repeat first|assumption|exact m0|apply m1);done)|(apply Or.inr;(repeat first|assumption|exact m0|apply m1);done)) List.not_mem_nil (by rfl)) rfl) hx9 rfl rfl ?_
    refine SX.val rfl (Val.gtI rfl rfl) (by simp) rfl rfl ?_
    refine SX.val rfl (Val.pickF rfl rfl) (by simp) rfl rfl ?_
    refine SX.val rfl (Val.move rfl) (by simp) rfl rfl ?_
    refine SX.bothP (t := 47) rfl ?_ ?_
    · intro hc47
      iterate 3 refine SX.skip rfl rfl rfl ?_
      refine SX.val rfl (Val.pickT rfl rfl) (by simp) rfl rfl ?_
      refine SX.val rfl (Val.move rfl) (by simp) rfl rfl ?_
      iterate 3 refine SX.skip rfl rfl rfl ?_
      refine SX.val rfl (Val.pickT rfl rfl) (by simp) rfl rfl ?_
      refine SX.nil (SE.seq ?_)
      refine SC.condT rfl ?_
      refine SC.seq (SC.region ?_)
      refine SL.val (Val.assign rfl) rfl rfl ?_
      refine SL.nil (SE.seq ?_)
      refine SC.ret ?_
      refine SE.ret ?_
      refine SE.then_ (by intro h; cases h) ?_
      refine SE.then_ (by intro h; cases h) ?_
      refine SE.ret ?_
      refine SE.then_ (by intro h; cases h) ?_
      refine SE.fin (rs := [.tmp 2]) rfl (RV.tmp rfl RV.nil) (()) (by repeat first|exact s0 _|exact s1 _|apply s2|apply s3) (by simp [It.rids]) ?_
      refine boo_dec0 fun he => ?_
      obtain ⟨g1, g2, g3⟩ := he.os.each y hlt
      have g4 := he.os.rise y hlt
      omega
    intro hc47
    refine SX.val rfl (Val.fieldAddr tabOk rfl rfl rfl rfl rfl) (by simp) rfl rfl ?_
    refine SX.val rfl (Val.to (C := int (l.os[y]'hlt).result) (Val.load1 tabOk rfl rfl (by first|(apply Or.inl;(repeat first|assumption|exact m0|apply m1);done)|(apply Or.inr;(repeat first|assumption|exact m0|apply m1);done)) List.not_mem_nil (by rfl)) rfl) hx9 rfl rfl ?_
    refine SX.val rfl (Val.ltI rfl rfl) (by simp) rfl rfl ?_
    refine SX.val rfl (Val.pickF rfl rfl) (by simp) rfl rfl ?_
    refine SX.val rfl (Val.move rfl) (by simp) rfl rfl ?_
    refine SX.bothP (t := 52) rfl ?_ ?_
    · intro hc52
      iterate 3 refine SX.skip rfl rfl rfl ?_
      refine SX.val rfl (Val.pickT rfl rfl) (by simp) rfl rfl ?_
      refine SX.nil (SE.seq ?_)
      refine SC.condT rfl ?_
      refine SC.seq (SC.region ?_)
      refine SL.val (Val.assign rfl) rfl rfl ?_
      refine SL.nil (SE.seq ?_)
      refine SC.ret ?_
      refine SE.ret ?_
      refine SE.then_ (by intro h; cases h) ?_
      refine SE.then_ (by intro h; cases h) ?_
      refine SE.ret ?_
      refine SE.then_ (by intro h; cases h) ?_
      refine SE.fin (rs := [.tmp 2]) rfl (RV.tmp rfl RV.nil) (()) (by repeat first|exact s0 _|exact s1 _|apply s2|apply s3) (by simp [It.rids]) ?_
      refine boo_dec0 fun he => ?_
      obtain ⟨g1, g2, g3⟩ := he.os.each y hlt
      have g4 := he.os.rise y hlt
      omega
    intro hc52
    refine SX.val rfl (Val.fieldAddr tabOk rfl rfl rfl rfl rfl) (by simp) rfl rfl ?_
    refine SX.val rfl (Val.to (C := int (l.os[y]'hlt).result) (Val.load1 tabOk rfl rfl (by first|(apply Or.inl;(repeat first|assumption|exact m0|apply m1);done)|(apply Or.inr;(repeat first|assumption|exact m0|apply m1);done)) List.not_mem_nil (by rfl)) rfl) hx9 rfl rfl ?_
    refine SX.val rfl (Val.gtI rfl rfl) (by simp) rfl rfl ?_
    refine SX.val rfl (Val.pickF rfl rfl) (by simp) rfl rfl ?_
    refine SX.nil (SE.seq ?_)
    refine SC.condP rfl ?_ ?_
    rotate_left
    · intro hc56
      refine SC.skip ?_
      refine SE.inBlock ?_
      refine SE.seq ?_
      refine SC.region ?_
      first
        | refine SL.val (Val.addI rfl rfl (by simp only [InR, lo, hi]; omega)) rfl rfl ?_
        | refine SL.val (Val.addW rfl rfl) rfl rfl ?_
      refine SL.val (Val.move rfl) rfl rfl ?_
      refine SL.nil ?_
      have hok : OcR (l.os[y]'hlt) := ⟨by omega, by omega, by omega⟩
      have hri : 0 < y → (l.os[y - 1]'(by omega)).client < (l.os[y]'hlt).client := fun h => by omega
      refine SE.round (y + 1) (by first | omega | (dsimp only; omega)) (⟨by omega, fun j h h2 => by rcases Nat.lt_or_ge j y with h3 | h3; exact hy.2 j h h3; obtain rfl : j = y := (by omega); exact ⟨hok, hri⟩⟩) (by exact ⟨rfl, rfl, rfl, rfl, trivial⟩) (by repeat first|exact s0 _|exact s1 _|apply s2|apply s3)
    intro hc56
    refine SC.seq (SC.region ?_)
    refine SL.val (Val.assign rfl) rfl rfl ?_
    refine SL.nil (SE.seq ?_)
    refine SC.ret ?_
    refine SE.ret ?_
    refine SE.then_ (by intro h; cases h) ?_
    refine SE.then_ (by intro h; cases h) ?_
    refine SE.ret ?_
    refine SE.then_ (by intro h; cases h) ?_
    refine SE.fin (rs := [.tmp 2]) rfl (RV.tmp rfl RV.nil) (()) (by repeat first|exact s0 _|exact s1 _|apply s2|apply s3) (by simp [It.rids]) ?_
    refine boo_dec0 fun he => ?_
    obtain ⟨g1, g2, g3⟩ := he.os.each y hlt
    have g4 := he.os.rise y hlt
    omega
  intro hc15
  refine SX.val rfl (Val.fieldAddr tabOk rfl rfl rfl rfl rfl) (by simp) rfl rfl ?_
  refine SX.hx (by first|(simp[mids,It.mids,ownPc];done)|(intro k hk;simp[mids,It.mids,ownPc] at hk ⊢;grind)) fun hx9 => ?_
  refine SX.val rfl (Val.to (C := .sl 3 (l.os.map Oc.abs)) (Val.load1 tabOk rfl rfl (by first|(apply Or.inl;(repeat first|assumption|exact m0|apply m1);done)|(apply Or.inr;(repeat first|assumption|exact m0|apply m1);done)) List.not_mem_nil (by rfl)) rfl) hx9 rfl rfl ?_
  refine SX.val rfl (Val.move rfl) (by simp) rfl rfl ?_
  refine SX.val rfl (Val.subI rfl rfl (by simp only [InR, lo, hi]; omega)) hx9 rfl rfl ?_
  refine SX.val rfl (Val.indexSl (q := y - 1) tabOk Tryz.underlying23 rfl rfl rfl (by omega) (at_map (by omega)) rfl rfl) hx9 rfl rfl ?_
  first
    | refine SX.val rfl (Val.fieldAddr tabOk rfl rfl rfl rfl rfl) (by simp) rfl rfl ?_
    | refine SX.val rfl (Val.fieldAddrR tabOk rfl rfl rfl rfl rfl) (by simp) rfl rfl ?_
  refine SX.val rfl (Val.to (C := int (l.os[y - 1]'(by omega)).client) (Val.load1R tabOk rfl rfl rfl) rfl) hx9 rfl rfl ?_
  refine SX.val rfl (Val.fieldAddr tabOk rfl rfl rfl rfl rfl) (by simp) rfl rfl ?_
  refine SX.val rfl (Val.to (C := int (l.os[y]'hlt).client) (Val.load1 tabOk rfl rfl (by first|(apply Or.inl;(repeat first|assumption|exact m0|apply m1);done)|(apply Or.inr;(repeat first|assumption|exact m0|apply m1);done)) List.not_mem_nil (by rfl)) rfl) hx9 rfl rfl ?_
  refine SX.val rfl (Val.geI rfl rfl) (by simp) rfl rfl ?_
  refine SX.val rfl (Val.pickT rfl rfl) (by simp) rfl rfl ?_
  refine SX.val rfl (Val.move rfl) (by simp) rfl rfl ?_
  refine SX.bothP (t := 27) rfl ?_ ?_
  · intro hc27
    iterate 3 refine SX.skip rfl rfl rfl ?_
    refine SX.val rfl (Val.pickT rfl rfl) (by simp) rfl rfl ?_
    refine SX.val rfl (Val.move rfl) (by simp) rfl rfl ?_
    iterate 3 refine SX.skip rfl rfl rfl ?_
    refine SX.val rfl (Val.pickT rfl rfl) (by simp) rfl rfl ?_
    refine SX.val rfl (Val.move rfl) (by simp) rfl rfl ?_
    iterate 3 refine SX.skip rfl rfl rfl ?_
    refine SX.val rfl (Val.pickT rfl rfl) (by simp) rfl rfl ?_
    refine SX.val rfl (Val.move rfl) (by simp) rfl rfl ?_
    iterate 3 refine SX.skip rfl rfl rfl ?_
    refine SX.val rfl (Val.pickT rfl rfl) (by simp) rfl rfl ?_
    refine SX.val rfl (Val.move rfl) (by simp) rfl rfl ?_
    iterate 3 refine SX.skip rfl rfl rfl ?_
    refine SX.val rfl (Val.pickT rfl rfl) (by simp) rfl rfl ?_
    refine SX.val rfl (Val.move rfl) (by simp) rfl rfl ?_
    iterate 3 refine SX.skip rfl rfl rfl ?_
    refine SX.val rfl (Val.pickT rfl rfl) (by simp) rfl rfl ?_
    refine SX.nil (SE.seq ?_)
    refine SC.condT rfl ?_
    refine SC.seq (SC.region ?_)
    refine SL.val (Val.assign rfl) rfl rfl ?_
    refine SL.nil (SE.seq ?_)
    refine SC.ret ?_
    refine SE.ret ?_
    refine SE.then_ (by intro h; cases h) ?_
    refine SE.then_ (by intro h; cases h) ?_
    refine SE.ret ?_
    refine SE.then_ (by intro h; cases h) ?_
    refine SE.fin (rs := [.tmp 2]) rfl (RV.tmp rfl RV.nil) (()) (by repeat first|exact s0 _|exact s1 _|apply s2|apply s3) (by simp [It.rids]) ?_
    refine boo_dec0 fun he => ?_
    obtain ⟨g1, g2, g3⟩ := he.os.each y hlt
    have g4 := he.os.rise y hlt
    omega
  intro hc27
  refine SX.val rfl (Val.fieldAddr tabOk rfl rfl rfl rfl rfl) (by simp) rfl rfl ?_
  refine SX.val rfl (Val.to (C := int (l.os[y]'hlt).client) (Val.load1 tabOk rfl rfl (by first|(apply Or.inl;(repeat first|assumption|exact m0|apply m1);done)|(apply Or.inr;(repeat first|assumption|exact m0|apply m1);done)) List.not_mem_nil (by rfl)) rfl) hx9 rfl rfl ?_
  refine SX.val rfl (Val.ltI rfl rfl) (by simp) rfl rfl ?_
  refine SX.val rfl (Val.pickF rfl rfl) (by simp) rfl rfl ?_
  refine SX.val rfl (Val.move rfl) (by simp) rfl rfl ?_
  refine SX.bothP (t := 32) rfl ?_ ?_
  · intro hc32
    iterate 3 refine SX.skip rfl rfl rfl ?_
    refine SX.val rfl (Val.pickT rfl rfl) (by simp) rfl rfl ?_
    refine SX.val rfl (Val.move rfl) (by simp) rfl rfl ?_
    iterate 3 refine SX.skip rfl rfl rfl ?_
    refine SX.val rfl (Val.pickT rfl rfl) (by simp) rfl rfl ?_
    refine SX.val rfl (Val.move rfl) (by simp) rfl rfl ?_
    iterate 3 refine SX.skip rfl rfl rfl ?_
    refine SX.val rfl (Val.pickT rfl rfl) (by simp) rfl rfl ?_
    refine SX.val rfl (Val.move rfl) (by simp) rfl rfl ?_
    iterate 3 refine SX.skip rfl rfl rfl ?_
    refine SX.val rfl (Val.pickT rfl rfl) (by simp) rfl rfl ?_
    refine SX.val rfl (Val.move rfl) (by simp) rfl rfl ?_
    iterate 3 refine SX.skip rfl rfl rfl ?_
    refine SX.val rfl (Val.pickT rfl rfl) (by simp) rfl rfl ?_
    refine SX.nil (SE.seq ?_)
    refine SC.condT rfl ?_
    refine SC.seq (SC.region ?_)
    refine SL.val (Val.assign rfl) rfl rfl ?_
    refine SL.nil (SE.seq ?_)
    refine SC.ret ?_
    refine SE.ret ?_
    refine SE.then_ (by intro h; cases h) ?_
    refine SE.then_ (by intro h; cases h) ?_
    refine SE.ret ?_
    refine SE.then_ (by intro h; cases h) ?_
    refine SE.fin (rs := [.tmp 2]) rfl (RV.tmp rfl RV.nil) (()) (by repeat first|exact s0 _|exact s1 _|apply s2|apply s3) (by simp [It.rids]) ?_
    refine boo_dec0 fun he => ?_
    obtain ⟨g1, g2, g3⟩ := he.os.each y hlt
    have g4 := he.os.rise y hlt
    omega
  intro hc32
  refine SX.val rfl (Val.fieldAddr tabOk rfl rfl rfl rfl rfl) (by simp) rfl rfl ?_
  refine SX.val rfl (Val.to (C := int (l.os[y]'hlt).client) (Val.load1 tabOk rfl rfl (by first|(apply Or.inl;(repeat first|assumption|exact m0|apply m1);done)|(apply Or.inr;(repeat first|assumption|exact m0|apply m1);done)) List.not_mem_nil (by rfl)) rfl) hx9 rfl rfl ?_
  refine SX.val rfl (Val.gtI rfl rfl) (by simp) rfl rfl ?_
  refine SX.val rfl (Val.pickF rfl rfl) (by simp) rfl rfl ?_
  refine SX.val rfl (Val.move rfl) (by simp) rfl rfl ?_
  refine SX.bothP (t := 37) rfl ?_ ?_
  · intro hc37
    iterate 3 refine SX.skip rfl rfl rfl ?_
    refine SX.val rfl (Val.pickT rfl rfl) (by simp) rfl rfl ?_
    refine SX.val rfl (Val.move rfl) (by simp) rfl rfl ?_
    iterate 3 refine SX.skip rfl rfl rfl ?_
    refine SX.val rfl (Val.pickT rfl rfl) (by simp) rfl rfl ?_
    refine SX.val rfl (Val.move rfl) (by simp) rfl rfl ?_
    iterate 3 refine SX.skip rfl rfl rfl ?_
    refine SX.val rfl (Val.pickT rfl rfl) (by simp) rfl rfl ?_
    refine SX.val rfl (Val.move rfl) (by simp) rfl rfl ?_
    iterate 3 refine SX.skip rfl rfl rfl ?_
    refine SX.val rfl (Val.pickT rfl rfl) (by simp) rfl rfl ?_
    refine SX.nil (SE.seq ?_)
    refine SC.condT rfl ?_
    refine SC.seq (SC.region ?_)
    refine SL.val (Val.assign rfl) rfl rfl ?_
    refine SL.nil (SE.seq ?_)
    refine SC.ret ?_
    refine SE.ret ?_
    refine SE.then_ (by intro h; cases h) ?_
    refine SE.then_ (by intro h; cases h) ?_
    refine SE.ret ?_
    refine SE.then_ (by intro h; cases h) ?_
    refine SE.fin (rs := [.tmp 2]) rfl (RV.tmp rfl RV.nil) (()) (by repeat first|exact s0 _|exact s1 _|apply s2|apply s3) (by simp [It.rids]) ?_
    refine boo_dec0 fun he => ?_
    obtain ⟨g1, g2, g3⟩ := he.os.each y hlt
    have g4 := he.os.rise y hlt
    omega
  intro hc37
  refine SX.val rfl (Val.fieldAddr tabOk rfl rfl rfl rfl rfl) (by simp) rfl rfl ?_
  refine SX.val rfl (Val.to (C := int (l.os[y]'hlt).stamp) (Val.load1 tabOk rfl rfl (by first|(apply Or.inl;(repeat first|assumption|exact m0|apply m1);done)|(apply Or.inr;(repeat first|assumption|exact m0|apply m1);done)) List.not_mem_nil (by rfl)) rfl) hx9 rfl rfl ?_
  refine SX.val rfl (Val.ltI rfl rfl) (by simp) rfl rfl ?_
  refine SX.val rfl (Val.pickF rfl rfl) (by simp) rfl rfl ?_
  refine SX.val rfl (Val.move rfl) (by simp) rfl rfl ?_
  refine SX.bothP (t := 42) rfl ?_ ?_
  · intro hc42
    iterate 3 refine SX.skip rfl rfl rfl ?_
    refine SX.val rfl (Val.pickT rfl rfl) (by simp) rfl rfl ?_
    refine SX.val rfl (Val.move rfl) (by simp) rfl rfl ?_
    iterate 3 refine SX.skip rfl rfl rfl ?_
    refine SX.val rfl (Val.pickT rfl rfl) (by simp) rfl rfl ?_
    refine SX.val rfl (Val.move rfl) (by simp) rfl rfl ?_
    iterate 3 refine SX.skip rfl rfl rfl ?_
    refine SX.val rfl (Val.pickT rfl rfl) (by simp) rfl rfl ?_
    refine SX.nil (SE.seq ?_)
    refine SC.condT rfl ?_
    refine SC.seq (SC.region ?_)
    refine SL.val (Val.assign rfl) rfl rfl ?_
    refine SL.nil (SE.seq ?_)
    refine SC.ret ?_
    refine SE.ret ?_
    refine SE.then_ (by intro h; cases h) ?_
    refine SE.then_ (by intro h; cases h) ?_
    refine SE.ret ?_
    refine SE.then_ (by intro h; cases h) ?_
    refine SE.fin (rs := [.tmp 2]) rfl (RV.tmp rfl RV.nil) (()) (by repeat first|exact s0 _|exact s1 _|apply s2|apply s3) (by simp [It.rids]) ?_
    refine boo_dec0 fun he => ?_
    obtain ⟨g1, g2, g3⟩ := he.os.each y hlt
    have g4 := he.os.rise y hlt
    omega
  intro hc42
  refine SX.val rfl (Val.fieldAddr tabOk rfl rfl rfl rfl rfl) (by simp) rfl rfl ?_
  refine SX.val rfl (Val.to (C := int (l.os[y]'hlt).stamp) (Val.load1 tabOk rfl rfl (by first|(apply Or.inl;(repeat first|assumption|exact m0|apply m1);done)|(apply Or.inr;(repeat first|assumption|exact m0|apply m1);done)) List.not_mem_nil (by rfl)) rfl) hx9 rfl rfl ?_
  refine SX.val rfl (Val.gtI rfl rfl) (by simp) rfl rfl ?_
  refine SX.val rfl (Val.pickF rfl rfl) (by simp) rfl rfl ?_
  refine SX.val rfl (Val.move rfl) (by simp) rfl rfl ?_
  refine SX.bothP (t := 47) rfl ?_ ?_
  · intro hc47
    iterate 3 refine SX.skip rfl rfl rfl ?_
    refine SX.val rfl (Val.pickT rfl rfl) (by simp) rfl rfl ?_
    refine SX.val rfl (Val.move rfl) (by simp) rfl rfl ?_
    iterate 3 refine SX.skip rfl rfl rfl ?_
    refine SX.val rfl (Val.pickT rfl rfl) (by simp) rfl rfl ?_
    refine SX.nil (SE.seq ?_)
    refine SC.condT rfl ?_
    refine SC.seq (SC.region ?_)
    refine SL.val (Val.assign rfl) rfl rfl ?_
    refine SL.nil (SE.seq ?_)
    refine SC.ret ?_
    refine SE.ret ?_
    refine SE.then_ (by intro h; cases h) ?_
    refine SE.then_ (by intro h; cases h) ?_
    refine SE.ret ?_
    refine SE.then_ (by intro h; cases h) ?_
    refine SE.fin (rs := [.tmp 2]) rfl (RV.tmp rfl RV.nil) (()) (by repeat first|exact s0 _|exact s1 _|apply s2|apply s3) (by simp [It.rids]) ?_
    refine boo_dec0 fun he => ?_
    obtain ⟨g1, g2, g3⟩ := he.os.each y hlt
    have g4 := he.os.rise y hlt
    omega
  intro hc47
  refine SX.val rfl (Val.fieldAddr tabOk rfl rfl rfl rfl rfl) (by simp) rfl rfl ?_
  refine SX.val rfl (Val.to (C := int (l.os[y]'hlt).result) (Val.load1 tabOk rfl rfl (by first|(apply Or.inl;(repeat first|assumption|exact m0|apply m1);done)|(apply Or.inr;(repeat first|assumption|exact m0|apply m1);done)) List.not_mem_nil (by rfl)) rfl) hx9 rfl rfl ?_
  refine SX.val rfl (Val.ltI rfl rfl) (by simp) rfl rfl ?_
  refine SX.val rfl (Val.pickF rfl rfl) (by simp) rfl rfl ?_
  refine SX.val rfl (Val.move rfl) (by simp) rfl rfl ?_
  refine SX.bothP (t := 52) rfl ?_ ?_
  · intro hc52
    iterate 3 refine SX.skip rfl rfl rfl ?_
    refine SX.val rfl (Val.pickT rfl rfl) (by simp) rfl rfl ?_
    refine SX.nil (SE.seq ?_)
    refine SC.condT rfl ?_
    refine SC.seq (SC.region ?_)
    refine SL.val (Val.assign rfl) rfl rfl ?_
    refine SL.nil (SE.seq ?_)
    refine SC.ret ?_
    refine SE.ret ?_
    refine SE.then_ (by intro h; cases h) ?_
    refine SE.then_ (by intro h; cases h) ?_
    refine SE.ret ?_
    refine SE.then_ (by intro h; cases h) ?_
    refine SE.fin (rs := [.tmp 2]) rfl (RV.tmp rfl RV.nil) (()) (by repeat first|exact s0 _|exact s1 _|apply s2|apply s3) (by simp [It.rids]) ?_
    refine boo_dec0 fun he => ?_
    obtain ⟨g1, g2, g3⟩ := he.os.each y hlt
    have g4 := he.os.rise y hlt
    omega
  intro hc52
  refine SX.val rfl (Val.fieldAddr tabOk rfl rfl rfl rfl rfl) (by simp) rfl rfl ?_
  refine SX.val rfl (Val.to (C := int (l.os[y]'hlt).result) (Val.load1 tabOk rfl rfl (by first|(apply Or.inl;(repeat first|assumption|exact m0|apply m1);done)|(apply Or.inr;(repeat first|assumption|exact m0|apply m1);done)) List.not_mem_nil (by rfl)) rfl) hx9 rfl rfl ?_
  refine SX.val rfl (Val.gtI rfl rfl) (by simp) rfl rfl ?_
  refine SX.val rfl (Val.pickF rfl rfl) (by simp) rfl rfl ?_
  refine SX.nil (SE.seq ?_)
  refine SC.condP rfl ?_ ?_
  rotate_left
  · intro hc56
    refine SC.skip ?_
    refine SE.inBlock ?_
    refine SE.seq ?_
    refine SC.region ?_
    first
      | refine SL.val (Val.addI rfl rfl (by simp only [InR, lo, hi]; omega)) rfl rfl ?_
      | refine SL.val (Val.addW rfl rfl) rfl rfl ?_
    refine SL.val (Val.move rfl) rfl rfl ?_
    refine SL.nil ?_
    have hok : OcR (l.os[y]'hlt) := ⟨by omega, by omega, by omega⟩
    have hri : 0 < y → (l.os[y - 1]'(by omega)).client < (l.os[y]'hlt).client := fun h => by omega
    refine SE.round (y + 1) (by first | omega | (dsimp only; omega)) (⟨by omega, fun j h h2 => by rcases Nat.lt_or_ge j y with h3 | h3; exact hy.2 j h h3; obtain rfl : j = y := (by omega); exact ⟨hok, hri⟩⟩) (by exact ⟨rfl, rfl, rfl, rfl, trivial⟩) (by repeat first|exact s0 _|exact s1 _|apply s2|apply s3)
  intro hc56
  refine SC.seq (SC.region ?_)
  refine SL.val (Val.assign rfl) rfl rfl ?_
  refine SL.nil (SE.seq ?_)
  refine SC.ret ?_
  refine SE.ret ?_
  refine SE.then_ (by intro h; cases h) ?_
  refine SE.then_ (by intro h; cases h) ?_
  refine SE.ret ?_
  refine SE.then_ (by intro h; cases h) ?_
  refine SE.fin (rs := [.tmp 2]) rfl (RV.tmp rfl RV.nil) (()) (by repeat first|exact s0 _|exact s1 _|apply s2|apply s3) (by simp [It.rids]) ?_
  refine boo_dec0 fun he => ?_
  obtain ⟨g1, g2, g3⟩ := he.os.each y hlt
  have g4 := he.os.rise y hlt
  omega
end
end Go.Proofs.YtkeapnefdjkhoaaGreatDoor.A
/-
  Batches; what may be asked about.
-/
set_option maxRecDepth 100000
set_option linter.unusedSimpArgs false
set_option linter.unusedVariables false
namespace Go.Proofs.YtkeapnefdjkhoaaGreatDoor.A
open Go.RowKit

section
variable {l a b : Lg} {x : Ltr} {o : Oc} {k n : Int} {s : ByteArray} {c : Core} {e : Ent} {p : Nat} {es : List Ent} {e1 e2 : Value}
set_option maxHeartbeats 2000000 in
theorem few14_s  : Spec Tryz.prog 7 [.agg l.abs, entsR es] [] (fun _ : Unit => []) (fun _ => boo (decide (FewC l es))) := by
  refine spec_of Tryz.func7 rfl Tryz.ntmps7 rfl fun G w => ?_
  refine SC.seq (SC.region ?_)
  refine SL.eff (Eff.boxA (cs := l.abs) rfl) rfl rfl ?_
  rintro _ _ ⟨b2, rfl, rfl⟩
  refine SL.val (Val.assign rfl) rfl rfl ?_
  refine SL.nil (SE.seq ?_)
  refine SC.cutS (ι := Unit) (fun z => [.blk b2 25 l.abs]) (fun z => [(1, entsR es), (2, ptr b2)]) (fun z => ∀ j (h : j < l.ls.length), l.ls[j].name.size ≤ 100 ∧ l.ls[j].policy.size ≤ 300 ∧ l.ls[j].papers.size ≤ 300) ?_ ?_
  · skip
    refine SC.seq (SC.region ?_)
    refine SL.val (Val.fieldAddr tabOk rfl rfl rfl rfl rfl) rfl rfl ?_
    refine SL.val (Val.to (C := .sl 6 (l.ls.map ltrA)) (Val.load1 tabOk rfl rfl (by first|(apply Or.inl;(repeat first|assumption|exact m0|apply m1);done)|(apply Or.inr;(repeat first|assumption|exact m0|apply m1);done)) List.not_mem_nil (by rfl)) rfl) rfl rfl ?_
    first
      | refine SL.val (Val.lenSl rfl Tryz.underlying22 (List.length_map _)) rfl rfl ?_
      | refine SL.val (Val.lenOwn rfl (by repeat first|assumption|exact m0|apply m1) Tryz.underlying22 (List.length_map _)) rfl rfl ?_
      | refine SL.val (Val.lenNil rfl Tryz.underlying22) rfl rfl ?_
    refine SL.val (Val.move rfl) rfl rfl ?_
    refine SL.nil (SE.seq ?_)
    refine SC.block ?_
    refine SC.rowLe (i := 10) rfl fun hrow => ?_
    rw [List.length_map] at hrow
    unfold maxLen at hrow
    refine SC.loop (ι := Nat) (fun z => [.blk b2 25 l.abs]) (fun z => [(1, entsR es), (2, ptr b2), (10, ltrsA l.ls), (11, int (l.ls.length : Nat)), (12, int (z : Nat))]) (fun z => z ≤ l.ls.length ∧ ∀ j (h : j < l.ls.length), j < z → l.ls[j].name.size ≤ 100 ∧ l.ls[j].policy.size ≤ 300 ∧ l.ls[j].papers.size ≤ 300) (fun z => l.ls.length - z) (0) (⟨Nat.zero_le _, fun j h h2 => by omega⟩) (by exact ⟨rfl, rfl, rfl, rfl, rfl, trivial⟩) (by repeat first|exact s0 _|exact s1 _|apply s2|apply s3) ?_
    intro z hz
    refine SC.seq (SC.region ?_)
    refine SL.val (Val.ltI rfl rfl) rfl rfl ?_
    refine SL.nil (SE.seq ?_)
    refine SC.seq ?_
    refine SC.condP rfl ?_ ?_
    rotate_left
    · intro hc13
      refine SC.exit ?_
      refine SE.then_ (by intro h; cases h) ?_
      refine SE.then_ (by intro h; cases h) ?_
      refine SE.exit ?_
      refine SE.meet (()) (fun j h => hz.2 j h (by omega)) (by exact ⟨rfl, rfl, trivial⟩) (by repeat first|exact s0 _|exact s1 _|apply s2|apply s3)
    intro hc13
    have hlt : z < l.ls.length := by omega
    refine SC.skip ?_
    refine SE.seq ?_
    refine SC.seq ?_
    refine SC.block ?_
    refine SC.seq (SC.region ?_)
    refine SL.val (Val.indexSl tabOk Tryz.underlying22 rfl rfl rfl rfl (at_map (by omega)) rfl rfl) rfl rfl ?_
    refine SL.val (Val.loadAR tabOk rfl rfl rfl (by rfl)) rfl rfl ?_
    refine SL.eff (Eff.alloc tabOk rfl) rfl rfl ?_
    rintro _ _ ⟨b6, rfl, rfl⟩
    refine SL.eff (Eff.store (L' := ltrA (l.ls[z]'hlt)) tabOk rfl rfl rfl (by repeat first|assumption|exact Upd.here|apply Upd.there) rfl (Nat.le_of_ble_eq_true (by rfl)) rfl (by exact putL_whole rfl)) rfl rfl ?_
    rintro _ _ ⟨rfl, rfl⟩
    refine SL.nil (SE.seq ?_)
    refine SC.seq (SC.region ?_)
    refine SL.val (Val.fieldAddr tabOk rfl rfl rfl rfl rfl) rfl rfl ?_
    refine SL.val (Val.to (C := st (l.ls[z]'hlt).name) (Val.load1 tabOk rfl rfl (by first|(apply Or.inl;(repeat first|assumption|exact m0|apply m1);done)|(apply Or.inr;(repeat first|assumption|exact m0|apply m1);done)) List.not_mem_nil (by rfl)) rfl) rfl rfl ?_
    refine SL.val (Val.lenSt rfl Tryz.underlying9) rfl rfl ?_
    refine SL.val (Val.gtI rfl rfl) rfl rfl ?_
    refine SL.val (Val.move rfl) rfl rfl ?_
    refine SL.bothP (t := 20) rfl ?_ ?_
    · intro hc20
      iterate 4 refine SL.skip rfl rfl ?_
      refine SL.val (Val.pickT rfl rfl) rfl rfl ?_
      refine SL.val (Val.move rfl) rfl rfl ?_
      iterate 4 refine SL.skip rfl rfl ?_
      refine SL.val (Val.pickT rfl rfl) rfl rfl ?_
      refine SL.nil (SE.seq ?_)
      refine SC.condT rfl ?_
      refine SC.seq (SC.region ?_)
      refine SL.val (Val.assign rfl) rfl rfl ?_
      refine SL.nil (SE.seq ?_)
      refine SC.ret ?_
      refine SE.ret ?_
      refine SE.then_ (by intro h; cases h) ?_
      refine SE.then_ (by intro h; cases h) ?_
      refine SE.ret ?_
      refine SE.then_ (by intro h; cases h) ?_
      refine SE.fin (rs := [.tmp 4]) rfl (RV.tmp rfl RV.nil) (()) (by repeat first|exact s0 _|exact s1 _|apply s2|apply s3) (by simp [It.rids]) ?_
      refine boo_dec0 fun he => ?_
      have := he.ls z hlt
      omega
    intro hc20
    refine SL.val (Val.fieldAddr tabOk rfl rfl rfl rfl rfl) rfl rfl ?_
    refine SL.val (Val.to (C := st (l.ls[z]'hlt).policy) (Val.load1 tabOk rfl rfl (by first|(apply Or.inl;(repeat first|assumption|exact m0|apply m1);done)|(apply Or.inr;(repeat first|assumption|exact m0|apply m1);done)) List.not_mem_nil (by rfl)) rfl) rfl rfl ?_
    refine SL.val (Val.lenSt rfl Tryz.underlying9) rfl rfl ?_
    refine SL.val (Val.gtI rfl rfl) rfl rfl ?_
    refine SL.val (Val.pickF rfl rfl) rfl rfl ?_
    refine SL.val (Val.move rfl) rfl rfl ?_
    refine SL.bothP (t := 26) rfl ?_ ?_
    · intro hc26
      iterate 4 refine SL.skip rfl rfl ?_
      refine SL.val (Val.pickT rfl rfl) rfl rfl ?_
      refine SL.nil (SE.seq ?_)
      refine SC.condT rfl ?_
      refine SC.seq (SC.region ?_)
      refine SL.val (Val.assign rfl) rfl rfl ?_
      refine SL.nil (SE.seq ?_)
      refine SC.ret ?_
      refine SE.ret ?_
      refine SE.then_ (by intro h; cases h) ?_
      refine SE.then_ (by intro h; cases h) ?_
      refine SE.ret ?_
      refine SE.then_ (by intro h; cases h) ?_
      refine SE.fin (rs := [.tmp 4]) rfl (RV.tmp rfl RV.nil) (()) (by repeat first|exact s0 _|exact s1 _|apply s2|apply s3) (by simp [It.rids]) ?_
      refine boo_dec0 fun he => ?_
      have := he.ls z hlt
      omega
    intro hc26
    refine SL.val (Val.fieldAddr tabOk rfl rfl rfl rfl rfl) rfl rfl ?_
    refine SL.val (Val.to (C := st (l.ls[z]'hlt).papers) (Val.load1 tabOk rfl rfl (by first|(apply Or.inl;(repeat first|assumption|exact m0|apply m1);done)|(apply Or.inr;(repeat first|assumption|exact m0|apply m1);done)) List.not_mem_nil (by rfl)) rfl) rfl rfl ?_
    refine SL.val (Val.lenSt rfl Tryz.underlying9) rfl rfl ?_
    refine SL.val (Val.gtI rfl rfl) rfl rfl ?_
    refine SL.val (Val.pickF rfl rfl) rfl rfl ?_
    refine SL.nil (SE.seq ?_)
    refine SC.condP rfl ?_ ?_
    rotate_left
    · intro hc31
      refine SC.skip ?_
      refine SE.inBlock ?_
      refine SE.seq ?_
      refine SC.region ?_
      first
        | refine SL.val (Val.addI rfl rfl (by simp only [InR, lo, hi]; omega)) rfl rfl ?_
        | refine SL.val (Val.addW rfl rfl) rfl rfl ?_
      refine SL.val (Val.move rfl) rfl rfl ?_
      refine SL.nil ?_
      refine SE.round (z + 1) (by first | omega | (dsimp only; omega)) (⟨by omega, fun j h h2 => by rcases Nat.lt_or_ge j z with h3 | h3; exact hz.2 j h h3; obtain rfl : j = z := (by omega); omega⟩) (by exact ⟨rfl, rfl, rfl, rfl, rfl, trivial⟩) (by repeat first|exact s0 _|exact s1 _|apply s2|apply s3)
    intro hc31
    refine SC.seq (SC.region ?_)
    refine SL.val (Val.assign rfl) rfl rfl ?_
    refine SL.nil (SE.seq ?_)
    refine SC.ret ?_
    refine SE.ret ?_
    refine SE.then_ (by intro h; cases h) ?_
    refine SE.then_ (by intro h; cases h) ?_
    refine SE.ret ?_
    refine SE.then_ (by intro h; cases h) ?_
    refine SE.fin (rs := [.tmp 4]) rfl (RV.tmp rfl RV.nil) (()) (by repeat first|exact s0 _|exact s1 _|apply s2|apply s3) (by simp [It.rids]) ?_
    refine boo_dec0 fun he => ?_
    have := he.ls z hlt
    omega
  · intro z0 hls
    refine SC.seq ?_
    refine SC.seq (SC.region ?_)
    refine SL.val (Val.move rfl) rfl rfl ?_
    first
      | refine SL.val (Val.lenSl rfl Tryz.underlying33 (List.length_map _)) rfl rfl ?_
      | refine SL.val (Val.lenOwn rfl (by repeat first|assumption|exact m0|apply m1) Tryz.underlying33 (List.length_map _)) rfl rfl ?_
      | refine SL.val (Val.lenNil rfl Tryz.underlying33) rfl rfl ?_
    refine SL.val (Val.move rfl) rfl rfl ?_
    refine SL.nil (SE.seq ?_)
    refine SC.block ?_
    refine SC.rowLe (i := 33) rfl fun hro2 => ?_
    rw [List.length_map] at hro2
    unfold maxLen at hro2
    refine SC.loop (ι := Nat) (fun z => [.blk b2 25 l.abs]) (fun z => [(1, entsR es), (2, ptr b2), (33, entsR es), (34, int (es.length : Nat)), (35, int (z : Nat))]) (fun z => z ≤ es.length ∧ ∀ j (h : j < es.length), j < z → es[j].core.letter.size ≤ 100 ∧ es[j].core.text.size ≤ 300) (fun z => es.length - z) (0) (⟨Nat.zero_le _, fun j h h2 => by omega⟩) (by exact ⟨rfl, rfl, rfl, rfl, rfl, trivial⟩) (by repeat first|exact s0 _|exact s1 _|apply s2|apply s3) ?_
    intro z hz
    refine SC.seq (SC.region ?_)
    refine SL.val (Val.ltI rfl rfl) rfl rfl ?_
    refine SL.nil (SE.seq ?_)
    refine SC.seq ?_
    refine SC.condP rfl ?_ ?_
    rotate_left
    · intro hc36
      refine SC.exit ?_
      refine SE.then_ (by intro h; cases h) ?_
      refine SE.then_ (by intro h; cases h) ?_
      refine SE.exit ?_
      refine SE.seq ?_
      refine SC.seq (SC.region ?_)
      refine SL.val (Val.fieldAddr tabOk rfl rfl rfl rfl rfl) rfl rfl ?_
      refine SL.val (Val.to (C := .sl 6 (l.ls.map ltrA)) (Val.load1 tabOk rfl rfl (by first|(apply Or.inl;(repeat first|assumption|exact m0|apply m1);done)|(apply Or.inr;(repeat first|assumption|exact m0|apply m1);done)) List.not_mem_nil (by rfl)) rfl) rfl rfl ?_
      first
        | refine SL.val (Val.lenSl rfl Tryz.underlying22 (List.length_map _)) rfl rfl ?_
        | refine SL.val (Val.lenOwn rfl (by repeat first|assumption|exact m0|apply m1) Tryz.underlying22 (List.length_map _)) rfl rfl ?_
        | refine SL.val (Val.lenNil rfl Tryz.underlying22) rfl rfl ?_
      refine SL.val (Val.leI rfl rfl) rfl rfl ?_
      refine SL.val (Val.move rfl) rfl rfl ?_
      refine SL.bothP (t := 56) rfl ?_ ?_
      rotate_left
      · intro hc56
        iterate 4 refine SL.skip rfl rfl ?_
        refine SL.val (Val.pickF rfl rfl) rfl rfl ?_
        refine SL.val (Val.move rfl) rfl rfl ?_
        iterate 3 refine SL.skip rfl rfl ?_
        refine SL.val (Val.pickF rfl rfl) rfl rfl ?_
        refine SL.val (Val.assign rfl) rfl rfl ?_
        refine SL.nil (SE.seq ?_)
        refine SC.ret ?_
        refine SE.fin (rs := [.tmp 4]) rfl (RV.tmp rfl RV.nil) (()) (by repeat first|exact s0 _|exact s1 _|apply s2|apply s3) (by simp [It.rids]) ?_
        first
          | (refine boo_dec0 fun he => ?_; have g1 := he.nl; have g2 := he.no; have g3 := he.ne; omega)
          | (refine congrArg (fun b => Abs.v (Value.bool b)) ?_; rw [decide_eq_decide]; exact ⟨fun h => ⟨hls, fun j h1 => hz.2 j h1 (by omega), by omega, by omega, by omega⟩, fun h => by have := h.ne; omega⟩)
      intro hc56
      refine SL.val (Val.fieldAddr tabOk rfl rfl rfl rfl rfl) rfl rfl ?_
      refine SL.val (Val.to (C := .sl 3 (l.os.map Oc.abs)) (Val.load1 tabOk rfl rfl (by first|(apply Or.inl;(repeat first|assumption|exact m0|apply m1);done)|(apply Or.inr;(repeat first|assumption|exact m0|apply m1);done)) List.not_mem_nil (by rfl)) rfl) rfl rfl ?_
      first
        | refine SL.val (Val.lenSl rfl Tryz.underlying23 (List.length_map _)) rfl rfl ?_
        | refine SL.val (Val.lenOwn rfl (by repeat first|assumption|exact m0|apply m1) Tryz.underlying23 (List.length_map _)) rfl rfl ?_
        | refine SL.val (Val.lenNil rfl Tryz.underlying23) rfl rfl ?_
      refine SL.val (Val.leI rfl rfl) rfl rfl ?_
      refine SL.val (Val.pickT rfl rfl) rfl rfl ?_
      refine SL.val (Val.move rfl) rfl rfl ?_
      refine SL.bothP (t := 62) rfl ?_ ?_
      rotate_left
      · intro hc62
        iterate 3 refine SL.skip rfl rfl ?_
        refine SL.val (Val.pickF rfl rfl) rfl rfl ?_
        refine SL.val (Val.assign rfl) rfl rfl ?_
        refine SL.nil (SE.seq ?_)
        refine SC.ret ?_
        refine SE.fin (rs := [.tmp 4]) rfl (RV.tmp rfl RV.nil) (()) (by repeat first|exact s0 _|exact s1 _|apply s2|apply s3) (by simp [It.rids]) ?_
        first
          | (refine boo_dec0 fun he => ?_; have g1 := he.nl; have g2 := he.no; have g3 := he.ne; omega)
          | (refine congrArg (fun b => Abs.v (Value.bool b)) ?_; rw [decide_eq_decide]; exact ⟨fun h => ⟨hls, fun j h1 => hz.2 j h1 (by omega), by omega, by omega, by omega⟩, fun h => by have := h.ne; omega⟩)
      intro hc62
      refine SL.val (Val.move rfl) rfl rfl ?_
      first
        | refine SL.val (Val.lenSl rfl Tryz.underlying33 (List.length_map _)) rfl rfl ?_
        | refine SL.val (Val.lenOwn rfl (by repeat first|assumption|exact m0|apply m1) Tryz.underlying33 (List.length_map _)) rfl rfl ?_
        | refine SL.val (Val.lenNil rfl Tryz.underlying33) rfl rfl ?_
      refine SL.val (Val.leI rfl rfl) rfl rfl ?_
      refine SL.val (Val.pickT rfl rfl) rfl rfl ?_
      refine SL.val (Val.assign rfl) rfl rfl ?_
      refine SL.nil (SE.seq ?_)
      refine SC.ret ?_
      refine SE.fin (rs := [.tmp 4]) rfl (RV.tmp rfl RV.nil) (()) (by repeat first|exact s0 _|exact s1 _|apply s2|apply s3) (by simp [It.rids]) ?_
      first
        | (refine boo_dec0 fun he => ?_; have g1 := he.nl; have g2 := he.no; have g3 := he.ne; omega)
        | (refine congrArg (fun b => Abs.v (Value.bool b)) ?_; rw [decide_eq_decide]; exact ⟨fun h => ⟨hls, fun j h1 => hz.2 j h1 (by omega), by omega, by omega, by omega⟩, fun h => by have := h.ne; omega⟩)
    intro hc36
    have hlt : z < es.length := by omega
    refine SC.skip ?_
    refine SE.seq ?_
    refine SC.seq ?_
    refine SC.block ?_
    refine SC.seq (SC.region ?_)
    refine SL.val (Val.indexSl tabOk Tryz.underlying33 rfl rfl rfl rfl (at_map (by omega)) rfl rfl) rfl rfl ?_
    refine SL.val (Val.loadAR tabOk rfl rfl rfl (by rfl)) rfl rfl ?_
    refine SL.eff (Eff.alloc tabOk rfl) rfl rfl ?_
    rintro _ _ ⟨b8, rfl, rfl⟩
    refine SL.eff (Eff.store (L' := entA (es[z]'hlt)) tabOk rfl rfl rfl (by repeat first|assumption|exact Upd.here|apply Upd.there) rfl (Nat.le_of_ble_eq_true (by rfl)) rfl (by exact putL_whole rfl)) rfl rfl ?_
    rintro _ _ ⟨rfl, rfl⟩
    refine SL.nil (SE.seq ?_)
    refine SC.seq (SC.region ?_)
    refine SL.val (Val.fieldAddr tabOk rfl rfl rfl rfl rfl) rfl rfl ?_
    refine SL.val (Val.fieldAddr tabOk rfl rfl rfl rfl rfl) rfl rfl ?_
    refine SL.val (Val.to (C := st (es[z]'hlt).core.letter) (Val.load1 tabOk rfl rfl (by first|(apply Or.inl;(repeat first|assumption|exact m0|apply m1);done)|(apply Or.inr;(repeat first|assumption|exact m0|apply m1);done)) List.not_mem_nil (by rfl)) rfl) rfl rfl ?_
    refine SL.val (Val.lenSt rfl Tryz.underlying9) rfl rfl ?_
    refine SL.val (Val.gtI rfl rfl) rfl rfl ?_
    refine SL.val (Val.move rfl) rfl rfl ?_
    refine SL.bothP (t := 44) rfl ?_ ?_
    · intro hc44
      iterate 5 refine SL.skip rfl rfl ?_
      refine SL.val (Val.pickT rfl rfl) rfl rfl ?_
      refine SL.nil (SE.seq ?_)
      refine SC.condT rfl ?_
      refine SC.seq (SC.region ?_)
      refine SL.val (Val.assign rfl) rfl rfl ?_
      refine SL.nil (SE.seq ?_)
      refine SC.ret ?_
      refine SE.ret ?_
      refine SE.then_ (by intro h; cases h) ?_
      refine SE.then_ (by intro h; cases h) ?_
      refine SE.ret ?_
      refine SE.then_ (by intro h; cases h) ?_
      refine SE.fin (rs := [.tmp 4]) rfl (RV.tmp rfl RV.nil) (()) (by repeat first|exact s0 _|exact s1 _|apply s2|apply s3) (by simp [It.rids]) ?_
      refine boo_dec0 fun he => ?_
      have := he.en z hlt
      omega
    intro hc44
    refine SL.val (Val.fieldAddr tabOk rfl rfl rfl rfl rfl) rfl rfl ?_
    refine SL.val (Val.fieldAddr tabOk rfl rfl rfl rfl rfl) rfl rfl ?_
    refine SL.val (Val.to (C := st (es[z]'hlt).core.text) (Val.load1 tabOk rfl rfl (by first|(apply Or.inl;(repeat first|assumption|exact m0|apply m1);done)|(apply Or.inr;(repeat first|assumption|exact m0|apply m1);done)) List.not_mem_nil (by rfl)) rfl) rfl rfl ?_
    refine SL.val (Val.lenSt rfl Tryz.underlying9) rfl rfl ?_
    refine SL.val (Val.gtI rfl rfl) rfl rfl ?_
    refine SL.val (Val.pickF rfl rfl) rfl rfl ?_
    refine SL.nil (SE.seq ?_)
    refine SC.condP rfl ?_ ?_
    rotate_left
    · intro hc50
      refine SC.skip ?_
      refine SE.inBlock ?_
      refine SE.seq ?_
      refine SC.region ?_
      first
        | refine SL.val (Val.addI rfl rfl (by simp only [InR, lo, hi]; omega)) rfl rfl ?_
        | refine SL.val (Val.addW rfl rfl) rfl rfl ?_
      refine SL.val (Val.move rfl) rfl rfl ?_
      refine SL.nil ?_
      refine SE.round (z + 1) (by first | omega | (dsimp only; omega)) (⟨by omega, fun j h h2 => by rcases Nat.lt_or_ge j z with h3 | h3; exact hz.2 j h h3; obtain rfl : j = z := (by omega); omega⟩) (by exact ⟨rfl, rfl, rfl, rfl, rfl, trivial⟩) (by repeat first|exact s0 _|exact s1 _|apply s2|apply s3)
    intro hc50
    refine SC.seq (SC.region ?_)
    refine SL.val (Val.assign rfl) rfl rfl ?_
    refine SL.nil (SE.seq ?_)
    refine SC.ret ?_
    refine SE.ret ?_
    refine SE.then_ (by intro h; cases h) ?_
    refine SE.then_ (by intro h; cases h) ?_
    refine SE.ret ?_
    refine SE.then_ (by intro h; cases h) ?_
    refine SE.fin (rs := [.tmp 4]) rfl (RV.tmp rfl RV.nil) (()) (by repeat first|exact s0 _|exact s1 _|apply s2|apply s3) (by simp [It.rids]) ?_
    refine boo_dec0 fun he => ?_
    have := he.en z hlt
    omega
set_option maxHeartbeats 2000000 in
theorem lfold_s (he : isIf e1) (hr : isIf e2) (hes : ∀ e ∈ es, EnIns e) (hl : l.Wf) (h1 : l.ls.length ≤ 500) (h2 : l.os.length ≤ 500) (h3 : es.length ≤ 300) (hsq : l.seq ≤ 1000000000) : Spec Tryz.prog 14 [.agg l.abs, entsR es, int n] (globs e1 e2) (fun _ : Unit => []) (fun _ => .tup [.agg (l.foldF es n).1.abs, errsR (l.foldF es n).2]) := by
  have hseq0 : -9223372036854775808 ≤ l.seq ∧ l.seq ≤ 9223372036854775807 := hl.seq
  have hseq1 := goes_seq n l es
  refine spec_of Tryz.func14 rfl Tryz.ntmps14 rfl fun G w => ?_
  refine SC.seq (SC.region ?_)
  refine SL.eff (Eff.boxA (cs := l.abs) rfl) rfl rfl ?_
  rintro _ _ ⟨b3, rfl, rfl⟩
  refine SL.eff (Eff.alloc tabOk rfl) rfl rfl ?_
  rintro _ _ ⟨b6, rfl, rfl⟩
  refine SL.val (Val.assign rfl) rfl rfl ?_
  refine SL.nil (SE.seq ?_)
  refine SC.seq (SC.region ?_)
  refine SL.val (Val.move rfl) rfl rfl ?_
  first
    | refine SL.val (Val.lenSl rfl Tryz.underlying33 (List.length_map _)) rfl rfl ?_
    | refine SL.val (Val.lenOwn rfl (by repeat first|assumption|exact m0|apply m1) Tryz.underlying33 (List.length_map _)) rfl rfl ?_
    | refine SL.val (Val.lenNil rfl Tryz.underlying33) rfl rfl ?_
  refine SL.eff (Eff.makeOwn (m := es.length) tabOk Tryz.underlying51 rfl rfl rfl rfl rfl rfl (by unfold maxLen; omega) (by rw [show Tryz.prog.bytesOf 34 = 8 by kernel_rfl]; omega)) rfl rfl ?_
  rintro _ _ ⟨v13, rfl, rfl⟩
  rw [show List.replicate es.length [Abs.v (Value.int .i64 0)] = errsA n l es 0 from (List.nil_append _).symm]
  refine SL.val (Val.assign rfl) rfl rfl ?_
  refine SL.nil (SE.seq ?_)
  refine SC.seq ?_
  refine SC.seq (SC.region ?_)
  refine SL.val (Val.move rfl) rfl rfl ?_
  first
    | refine SL.val (Val.lenSl rfl Tryz.underlying33 (List.length_map _)) rfl rfl ?_
    | refine SL.val (Val.lenOwn rfl (by repeat first|assumption|exact m0|apply m1) Tryz.underlying33 (List.length_map _)) rfl rfl ?_
    | refine SL.val (Val.lenNil rfl Tryz.underlying33) rfl rfl ?_
  refine SL.val (Val.move rfl) rfl rfl ?_
  refine SL.nil (SE.seq ?_)
  refine SC.block ?_
  refine SC.loop (ι := Nat) (fun z => (own 34 1 v13 (errsA n l es (z)) :: .blk b6 25 (zabs [.int .i64 0, .int .i64 0, .slice none 0 0, .slice none 0 0]) :: .blk b3 25 (Lg.goes n l (es.take (z))).1.abs :: (globs e1 e2))) (fun z => [(2, int n), (3, ptr b3), (6, ptr b6), (8, .v v13), (14, entsR es), (15, int (es.length : Nat)), (16, int (z : Nat))]) (fun z => z ≤ es.length) (fun z => es.length - z) (0) (Nat.zero_le _) (by exact ⟨rfl, rfl, rfl, rfl, rfl, rfl, rfl, trivial⟩) (by repeat first|exact s0 _|exact s1 _|apply s2|apply s3) ?_
  intro z hz
  refine SC.seq (SC.region ?_)
  refine SL.val (Val.ltI rfl rfl) rfl rfl ?_
  refine SL.nil (SE.seq ?_)
  refine SC.seq ?_
  refine SC.condP rfl ?_ ?_
  rotate_left
  · intro hc17
    obtain rfl : z = es.length := by omega
    refine SC.exit ?_
    refine SE.then_ (by intro h; cases h) ?_
    refine SE.then_ (by intro h; cases h) ?_
    refine SE.exit ?_
    refine SE.seq ?_
    refine SC.seq ?_
    rw [errs_done]
    have htk : es.take es.length = es := List.take_length
    rw [htk]
    refine SC.region ?_
    refine SL.val (Val.fieldAddr tabOk rfl rfl rfl rfl rfl) rfl rfl ?_
    refine SL.val (Val.to (C := int (Lg.goes n l es).1.seq) (Val.load1 tabOk rfl rfl (by first|(apply Or.inl;(repeat first|assumption|exact m0|apply m1);done)|(apply Or.inr;(repeat first|assumption|exact m0|apply m1);done)) List.not_mem_nil (by rfl)) rfl) rfl rfl ?_
    refine SL.val (Val.addI rfl rfl (by simp only [InR, lo, hi]; omega)) rfl rfl ?_
    refine SL.val (Val.fieldAddr tabOk rfl rfl rfl rfl rfl) rfl rfl ?_
    refine SL.eff (Eff.store (L' := (l.foldF es n).1.abs) tabOk rfl rfl rfl (by repeat first|assumption|exact Upd.here|apply Upd.there) rfl (Nat.le_of_ble_eq_true (by rfl)) rfl (by rfl)) rfl rfl ?_
    rintro _ _ ⟨rfl, rfl⟩
    refine SL.nil (SE.seq ?_)
    refine SC.seq (SC.region ?_)
    refine SL.val (Val.to (C := .agg (l.foldF es n).1.abs) (Val.loadP tabOk rfl rfl rfl (by first|(apply Or.inl;(repeat first|assumption|exact m0|apply m1);done)|(apply Or.inr;(repeat first|assumption|exact m0|apply m1);done)) List.not_mem_nil (Nat.le_of_ble_eq_true (by rfl))) rfl) rfl rfl ?_
    refine SL.val (Val.move rfl) rfl rfl ?_
    refine SL.eff (Eff.store (L' := (l.foldF es n).1.abs) tabOk rfl rfl rfl (by repeat first|assumption|exact Upd.here|apply Upd.there) rfl (Nat.le_of_ble_eq_true (by rfl)) rfl (by exact putL_whole rfl)) rfl rfl ?_
    rintro _ _ ⟨rfl, rfl⟩
    refine SL.val (Val.assign rfl) rfl rfl ?_
    refine SL.nil (SE.seq ?_)
    refine SC.ret ?_
    refine SE.freeze [] (t := 7) rfl rfl ?_
    refine SE.fin (rs := [.cell 6 25, .tmp 7]) rfl (RV.cell rfl (RV.cellA tabOk rfl rfl (by first|(apply Or.inl;(repeat first|assumption|exact m0|apply m1);done)|(apply Or.inr;(repeat first|assumption|exact m0|apply m1);done)) (by rfl)) (RV.tmp rfl RV.nil)) (()) (by repeat first|exact s0 _|exact s1 _|apply s2|apply s3) (by simp [It.rids]) ?_
    exact rfl
  intro hc17
  have hlt : z < es.length := by omega
  have hen := hes _ (List.getElem_mem hlt)
  have hgf := goes_few n l (es.take z)
  rw [List.length_take] at hgf
  refine SC.skip ?_
  refine SE.seq ?_
  refine SC.seq ?_
  refine SC.block ?_
  refine SC.seq (SC.region ?_)
  refine SL.val (Val.move rfl) rfl rfl ?_
  refine SL.val (Val.indexSl tabOk Tryz.underlying33 rfl rfl rfl rfl (at_map (by omega)) rfl rfl) rfl rfl ?_
  refine SL.val (Val.loadAR tabOk rfl rfl rfl (by rfl)) rfl rfl ?_
  refine SL.eff (Eff.alloc tabOk rfl) rfl rfl ?_
  rintro _ _ ⟨b10, rfl, rfl⟩
  refine SL.val (Val.assign rfl) rfl rfl ?_
  refine SL.eff (Eff.store (L' := entA (es[z]'hlt)) tabOk rfl rfl rfl (by repeat first|assumption|exact Upd.here|apply Upd.there) rfl (Nat.le_of_ble_eq_true (by rfl)) rfl (by exact putL_whole rfl)) rfl rfl ?_
  rintro _ _ ⟨rfl, rfl⟩
  refine SL.nil (SE.seq ?_)
  refine SC.region ?_
  refine SL.val (Val.move rfl) rfl rfl ?_
  refine SL.val (Val.move rfl) rfl rfl ?_
  refine SL.val (Val.to (C := .agg (Lg.goes n l (es.take (z))).1.abs) (Val.loadP tabOk rfl rfl rfl (by first|(apply Or.inl;(repeat first|assumption|exact m0|apply m1);done)|(apply Or.inr;(repeat first|assumption|exact m0|apply m1);done)) List.not_mem_nil (Nat.le_of_ble_eq_true (by rfl))) rfl) rfl rfl ?_
  refine SL.val (Val.to (C := .agg (entA (es[z]'hlt))) (Val.loadP tabOk rfl rfl rfl (by first|(apply Or.inl;(repeat first|assumption|exact m0|apply m1);done)|(apply Or.inr;(repeat first|assumption|exact m0|apply m1);done)) List.not_mem_nil (Nat.le_of_ble_eq_true (by rfl))) rfl) rfl rfl ?_
  refine SL.val (Val.move rfl) rfl rfl ?_
  refine SL.call (do_s (l := (Lg.goes n l (es.take (z))).1) (e := (es[z]'hlt)) (n := n) he hr hen.mask ⟨by omega, by omega⟩ (goes_wf n hl) hen.a (by have := hen.text; unfold maxLen at this; omega)) Casts.refl (by kernel_rfl) rfl rfl rfl ?_
  refine After.pure (by repeat (first | exact Reads.nil | (refine Reads.blk ?_ ?_; focus ((repeat first|assumption|exact m0|apply m1); done)) | (refine Reads.rd ?_ ?_; focus ((repeat first|assumption|exact m0|apply m1); done)) | (refine Reads.pc ?_ ?_; focus ((repeat first|assumption|exact m0|apply m1); done)) | (refine Reads.rdpc ?_ ?_; focus ((repeat first|assumption|exact m0|apply m1); done)))) (fun _ => rfl) ?_
  intro _
  refine SL.val (Val.move rfl) rfl rfl ?_
  refine SL.val (Val.extract rfl rfl) rfl rfl ?_
  refine SL.val (Val.extract rfl rfl) rfl rfl ?_
  refine SL.eff (Eff.store (L' := (((Lg.goes n l (es.take (z))).1.doF (es[z]'hlt) n)).1.abs) tabOk rfl rfl rfl (by repeat first|assumption|exact Upd.here|apply Upd.there) rfl (Nat.le_of_ble_eq_true (by rfl)) rfl (by exact putL_whole rfl)) rfl rfl ?_
  rintro _ _ ⟨rfl, rfl⟩
  refine SL.val (Val.indexOwn (q := z) tabOk Tryz.underlying51 rfl rfl (.inl (by repeat first|assumption|exact m0|apply m1)) rfl rfl (by rw [errs_len (by omega)]; exact hlt) rfl rfl) rfl rfl ?_
  refine SL.eff (Eff.setOwn (q := z) (ys := [int (((Lg.goes n l (es.take (z))).1.doF (es[z]'hlt) n)).2]) tabOk rfl rfl rfl (by repeat first|assumption|exact Upd.here|apply Upd.there) rfl rfl rfl (by rw [errs_len (by omega)]; exact hlt) rfl) rfl rfl ?_
  rintro _ _ ⟨rfl, rfl⟩
  refine SL.nil ?_
  refine SE.inBlock ?_
  refine SE.seq ?_
  refine SC.region ?_
  first
    | refine SL.val (Val.addI rfl rfl (by simp only [InR, lo, hi]; omega)) rfl rfl ?_
    | refine SL.val (Val.addW rfl rfl) rfl rfl ?_
  refine SL.val (Val.move rfl) rfl rfl ?_
  refine SL.nil ?_
  refine SE.round (z + 1) (by first | omega | (dsimp only; omega)) (by first | omega | (dsimp only; omega)) (by exact ⟨rfl, rfl, rfl, rfl, rfl, rfl, rfl, trivial⟩) (by rw [errs_set hlt, goes_take hlt]; repeat (first | exact List.nil_sublist _ | exact List.Sublist.refl _ | apply List.Sublist.cons_cons | apply List.Sublist.cons))
end
end Go.Proofs.YtkeapnefdjkhoaaGreatDoor.A
/-
  Rows with keys in order, plain: what is put in keeps the order; unlike keys may go in any order.
-/
set_option maxRecDepth 100000
set_option linter.unusedSimpArgs false
set_option linter.unusedVariables false
namespace Go.Proofs.YtkeapnefdjkhoaaGreatDoor.A
open Go.RowKit

/-- Keys in a strict order. -/
structure KOrd {α κ : Type} (key : α → κ) (lt : κ → κ → Prop) (eq gt : κ → α → Bool) : Prop where
  irr : ∀ k, ¬ lt k k
  trans : ∀ {a b c}, lt a b → lt b c → lt a c
  tri : ∀ a b, lt a b ∨ a = b ∨ lt b a
  eq_ : ∀ k x, eq k x = true ↔ key x = k
  gt_ : ∀ k x, gt k x = true ↔ lt k (key x)
theorem ltrOrd : KOrd (fun x : Ltr => x.name) ltB eqL gtL := ⟨ltB_irr, ltB_trans, ltB_tri, fun _ _ => decide_eq_true_iff, fun _ _ => decide_eq_true_iff⟩
theorem ocOrd : KOrd (fun o : Oc => o.client) (fun a b : Int => a < b) eqO gtO := ⟨fun k => by omega, fun h k => by omega, fun a b => by omega, fun _ _ => decide_eq_true_iff, fun _ _ => decide_eq_true_iff⟩
section
variable {α κ : Type} {key : α → κ} {lt : κ → κ → Prop} {eq gt : κ → α → Bool}
/-- In order. -/
def Asc (key : α → κ) (lt : κ → κ → Prop) (l : List α) : Prop := (l.map key).Pairwise lt
theorem Asc.of_adj (h : KOrd key lt eq gt) {l : List α} (ha : ∀ j (hj : j < l.length), 0 < j → lt (key (l[j - 1]'(by omega))) (key l[j])) : Asc key lt l := by
  unfold Asc
  rw [List.pairwise_iff_getElem]
  intro i j hi hj hij
  simp only [List.length_map] at hi hj
  simp only [List.getElem_map]
  have aux : ∀ d (hd : i + d + 1 < l.length), lt (key (l[i]'hi)) (key (l[i + d + 1]'hd)) := by
    intro d
    induction d with
    | zero => intro hd; exact ha (i + 1) hd (by omega)
    | succ d ih => intro hd; exact h.trans (ih (by omega)) (ha (i + (d + 1) + 1) hd (by omega))
  have h2 := aux (j - i - 1) (by omega)
  simpa only [show i + (j - i - 1) + 1 = j by omega] using h2
theorem Asc.adj {l : List α} (h : Asc key lt l) : ∀ j (hj : j < l.length), 0 < j → lt (key (l[j - 1]'(by omega))) (key l[j]) := fun j hj h0 => by
  unfold Asc at h
  rw [List.pairwise_iff_getElem] at h
  have := h (j - 1) j (by rw [List.length_map]; omega) (by rw [List.length_map]; omega) (by omega)
  simpa only [List.getElem_map] using this
theorem asc_cons {x : α} {l : List α} : Asc key lt (x :: l) ↔ (∀ y ∈ l, lt (key x) (key y)) ∧ Asc key lt l := by
  unfold Asc
  rw [List.map_cons, List.pairwise_cons]
  simp
theorem putG_keys {x : α} (h : KOrd key lt eq gt) : ∀ {l : List α}, l.any (eq (key x)) = true → (putG (eq (key x)) true x l).map key = l.map key
  | [], hl => by simp at hl
  | y :: l, hl => by
    unfold putG
    by_cases hy : eq (key x) y = true
    · rw [if_pos hy, if_pos rfl, List.map_cons, List.map_cons, (h.eq_ _ _).1 hy]
    · have h1 : l.any (eq (key x)) = true := by simpa [hy] using hl
      rw [if_neg hy, List.map_cons, List.map_cons, putG_keys h h1]
theorem putG_asc {x : α} (h : KOrd key lt eq gt) : ∀ {l : List α}, l.any (eq (key x)) = false → Asc key lt l → Asc key lt (putG (gt (key x)) false x l)
  | [], _, _ => by simp [putG, Asc]
  | y :: l, hn, ha => by
    obtain ⟨h1, h2⟩ := asc_cons.1 ha
    simp only [List.any_cons, Bool.or_eq_false_iff] at hn
    unfold putG
    by_cases hy : gt (key x) y = true
    · rw [if_pos hy, if_neg (by decide)]
      have hxy := (h.gt_ _ _).1 hy
      refine asc_cons.2 ⟨fun z hz => ?_, ha⟩
      rcases List.mem_cons.1 hz with rfl | hz
      · exact hxy
      · exact h.trans hxy (h1 z hz)
    · rw [if_neg hy]
      refine asc_cons.2 ⟨fun z hz => ?_, putG_asc h hn.2 h2⟩
      rcases putG_mem hz with rfl | hz
      · rcases h.tri (key y) (key z) with h3 | h3 | h3
        · exact h3
        · have := (h.eq_ (key z) y).2 h3
          rw [hn.1] at this; cases this
        · exact absurd ((h.gt_ _ _).2 h3) hy
      · exact h1 z hz
theorem withG_asc {x : α} (h : KOrd key lt eq gt) {l : List α} (ha : Asc key lt l) : Asc key lt (withG (eq (key x)) (gt (key x)) x l) := by
  unfold withG
  split
  · next hl => unfold Asc; rw [putG_keys h hl]; exact ha
  · next hl => exact putG_asc h (by simpa using hl) ha
/-- Sums. -/
theorem putG_sum {p : α → Bool} {x : α} (f : α → Int) : ∀ {l : List α}, ((putG p false x l).map f).sum = (l.map f).sum + f x
  | [] => by simp [putG]
  | y :: l => by
    unfold putG
    by_cases hy : p y = true
    · rw [if_pos hy, if_neg (by decide)]
      simp only [List.map_cons, List.sum_cons]
      omega
    · rw [if_neg hy]
      simp only [List.map_cons, List.sum_cons]
      rw [putG_sum f]
      omega
theorem putG_sum1 {p : α → Bool} {x y : α} (f : α → Int) : ∀ {l : List α}, l.find? p = some y → ((putG p true x l).map f).sum = (l.map f).sum + f x - f y
  | [], h => by cases h
  | z :: l, h => by
    unfold putG
    by_cases hz : p z = true
    · rw [List.find?_cons, hz] at h
      cases h
      rw [if_pos hz, if_pos rfl]
      simp only [List.map_cons, List.sum_cons]
      omega
    · rw [List.find?_cons, show p z = false by simpa using hz] at h
      rw [if_neg hz]
      simp only [List.map_cons, List.sum_cons]
      rw [putG_sum1 f h]
      omega
end
theorem LtsR.asc {ls : List Ltr} (h : LtsR ls) : Asc (fun x : Ltr => x.name) ltB ls := Asc.of_adj ltrOrd h.rise
theorem OcsR.asc {os : List Oc} (h : OcsR os) : Asc (fun o : Oc => o.client) (fun a b : Int => a < b) os := Asc.of_adj ocOrd h.rise
theorem LtsR.mk' {ls : List Ltr} (h : ∀ x ∈ ls, LtR x) (ha : Asc (fun x : Ltr => x.name) ltB ls) : LtsR ls := ⟨fun j hj => h _ (List.getElem_mem hj), ha.adj⟩
theorem OcsR.mk' {os : List Oc} (h : ∀ x ∈ os, OcR x) (ha : Asc (fun o : Oc => o.client) (fun a b : Int => a < b) os) : OcsR os := ⟨fun j hj => h _ (List.getElem_mem hj), ha.adj⟩
/-- So few, if their numbers are so few. -/
theorem asc_few {os : List Oc} : ∀ {lo_ up : Int}, Asc (fun o : Oc => o.client) (fun a b : Int => a < b) os → (∀ o ∈ os, lo_ ≤ o.client ∧ o.client < up) → (os.length : Int) ≤ max (up - lo_) 0 := by
  induction os with
  | nil => intro lo_ up _ _; simp; omega
  | cons o os ih =>
    intro lo_ up ha hb
    obtain ⟨h1, h2⟩ := asc_cons.1 ha
    have h3 := hb o List.mem_cons_self
    have h4 := ih (lo_ := o.client + 1) (up := up) h2 fun p hp => by
      have h5 := h1 p hp
      have h6 := hb p (List.mem_cons_of_mem _ hp)
      omega
    rw [List.length_cons]
    omega
end Go.Proofs.YtkeapnefdjkhoaaGreatDoor.A
/-
  What entries do, plain: what is refused leaves letters; never twice; in any order; ledgers that may be stay so.
-/
set_option maxRecDepth 100000
set_option linter.unusedSimpArgs false
set_option linter.unusedVariables false
namespace Go.Proofs.YtkeapnefdjkhoaaGreatDoor.A
open Go.RowKit

section
variable {l : Lg} {x : Ltr} {e : Ent} {c : Core} {n : Int} {op a b : Int} {t : ByteArray}
theorem stepped_ok (h : (l.stepped x c).2 = 0) : (x.step c.op c.a c.b c.text).2 = 0 ∧ (l.with_ (nextL x c)).2 = 0 ∧ (l.stepped x c).1 = (if c.op = 7 then { l.putL (nextL x c) with total := (amtAdd l.total (nextL x c).amount).1 } else l.putL (nextL x c)) ∧ (c.op = 7 → (amtAdd l.total (nextL x c).amount).2 = 0) := by
  by_cases h1 : (x.step c.op c.a c.b c.text).2 ≠ 0
  · rw [stepped_a h1] at h; exact absurd h h1
  · by_cases h2 : (l.with_ (nextL x c)).2 ≠ 0
    · rw [stepped_b h1 h2] at h; exact absurd h h2
    · have h0 := (with_ok h2).1
      by_cases h3 : c.op = 7
      · by_cases h4 : (amtAdd l.total (nextL x c).amount).2 ≠ 0
        · rw [stepped_d h1 h2 h3 h4] at h; cases h
        · rw [stepped_e h1 h2 h3 h4, if_pos h3, h0]
          exact ⟨Classical.byContradiction h1, Classical.byContradiction h2, rfl, fun _ => Classical.byContradiction h4⟩
      · rw [stepped_c h1 h2 h3, if_neg h3, h0]
        exact ⟨Classical.byContradiction h1, Classical.byContradiction h2, rfl, fun h => absurd h h3⟩
theorem step_ok (h : (x.step op a b t).2 = 0) : (1 ≤ op ∧ op ≤ 9) ∧ ltrNext x.state op ≠ 0 ∧ (x.does op a b t).2 = 0 ∧ (x.step op a b t).1 = { (x.does op a b t).1 with state := ltrNext x.state op } := by
  unfold Ltr.step at h ⊢
  split at h
  · cases h
  · next h1 =>
    split at h
    · cases h
    · next h2 =>
      split at h
      · next h3 => exact absurd h h3
      · next h3 =>
        rw [if_neg h1, if_neg h2, if_neg h3]
        exact ⟨by omega, h2, Classical.byContradiction h3, rfl⟩
theorem next_from {s op : Int} (h : ltrNext s op ≠ 0) : (0 ≤ s ∧ s ≤ 3 ∨ s = 4 ∧ op = 7) ∧ (op = 1 ↔ s = 0) ∧ (1 ≤ ltrNext s op ∧ ltrNext s op ≤ 7) ∧ (ltrNext s op = 5 ↔ op = 7) ∧ (op = 7 → s = 4) := by
  unfold ltrNext at h ⊢
  by_cases hs : s < 0
  · rw [if_pos hs] at h; exact absurd rfl h
  · rw [if_neg hs] at h ⊢
    obtain ⟨m, rfl⟩ : ∃ m : Nat, s = (m : Int) := ⟨s.toNat, by omega⟩
    rw [Int.toNat_natCast] at h ⊢
    have hm : m < 8 := by
      rcases Nat.lt_or_ge m 8 with h1 | h1
      · exact h1
      · exfalso
        apply h
        rw [List.getD_eq_getElem?_getD, List.getElem?_eq_none, Option.getD_none]
        have : (ltrRow op).length = 8 := by
          unfold ltrRow
          repeat' split
          all_goals rfl
        omega
    have hcase : m = 0 ∨ m = 1 ∨ m = 2 ∨ m = 3 ∨ m = 4 ∨ m = 5 ∨ m = 6 ∨ m = 7 := by omega
    rcases (by omega : op = 1 ∨ op = 2 ∨ op = 3 ∨ op = 4 ∨ op = 5 ∨ op = 6 ∨ op = 7 ∨ op = 8 ∨ op = 9 ∨ (op < 1 ∨ 9 < op)) with rfl | rfl | rfl | rfl | rfl | rfl | rfl | rfl | rfl | ho
    all_goals try (rcases hcase with rfl | rfl | rfl | rfl | rfl | rfl | rfl | rfl <;> revert h <;> decide)
    exfalso
    have h0 : ltrRow op = [0, 0, 0, 0, 0, 0, 0, 0] := by
      unfold ltrRow
      repeat rw [if_neg (by omega)]
    rw [h0] at h
    rcases hcase with rfl | rfl | rfl | rfl | rfl | rfl | rfl | rfl <;> exact h rfl
/-- An amount that is there, and a state: a letter's beginnings. -/
theorem does_r (hx : op ≠ 1 → LtR x) (h : (x.does op a b t).2 = 0) : (1 ≤ (x.does op a b t).1.amount ∧ (x.does op a b t).1.amount ≤ 1099511627776) ∧ isAmt (x.does op a b t).1.due = true ∧ (x.does op a b t).1.policy.size ≤ 200 ∧ (x.does op a b t).1.papers.size ≤ 200 ∧ (op = 7 → (x.does op a b t).1.amount = x.amount) := by
  unfold Ltr.does at h ⊢
  split at h
  · cases h
  · next h1 =>
    rw [if_neg h1]
    split at h
    · next h2 =>
      subst h2
      rw [if_pos rfl]
      unfold Ltr.apply at h ⊢
      split at h
      · cases h
      · next h3 =>
        split at h
        · cases h
        · next h4 =>
          split at h
          · cases h
          · next h5 =>
            rw [if_neg h3, if_neg h4, if_neg h5]
            have h6 : isAmt a = true := by simpa using h4
            exact ⟨⟨by dsimp only; omega, (isAmt_true h6).2⟩, by simpa using h5, by dsimp only; omega, Nat.zero_le _, fun h => by cases h⟩
    · next h2 =>
      have hr := hx h2
      rw [if_neg h2]
      split at h
      · next h3 =>
        subst h3
        rw [if_pos rfl]
        unfold Ltr.amend at h ⊢
        split at h
        · next h4 => exact absurd h h4
        · next h4 =>
          split at h
          · cases h
          · next h5 =>
            rw [if_neg h4, if_neg h5]
            have h6 := isAmt_true (amtChange_is x.amount a)
            have h7 := not_or.1 h5
            refine ⟨⟨?_, h6.2⟩, ?_, hr.policy, hr.papers, fun h => by cases h⟩
            · dsimp only
              have := h7.1
              omega
            · dsimp only
              split
              · simpa using h7.2
              · exact hr.due
      · next h3 =>
        rw [if_neg h3]
        split at h
        · next h4 => rw [if_pos h4]; exact ⟨hr.amount, hr.due, hr.policy, by dsimp only; omega, fun h => by omega⟩
        · next h4 =>
          rw [if_neg h4]
          split at h
          · next h5 => rw [if_pos h5]; exact ⟨hr.amount, hr.due, hr.policy, Nat.zero_le _, fun h => by omega⟩
          · next h5 =>
            rw [if_neg h5]
            split at h
            · next h6 => rw [if_pos h6]; exact ⟨hr.amount, hr.due, hr.policy, hr.papers, fun h => rfl⟩
            · next h6 => rw [if_neg h6]; exact ⟨hr.amount, hr.due, hr.policy, hr.papers, fun h => rfl⟩
theorem check_ok (h : c.check n = 0) : (1 ≤ n ∧ n ≤ 7) ∧ (n ≤ c.client ∧ c.client < n + 4) ∧ (1 ≤ c.stamp ∧ c.stamp ≤ 1099511627776) ∧ (1 ≤ c.op ∧ c.op ≤ 9) ∧ nameB c.letter = true ∧ c.text.size ≤ 200 := by
  unfold Core.check at h
  split at h
  · cases h
  · split at h
    · cases h
    · split at h
      · cases h
      · split at h
        · cases h
        · next h4 =>
          split at h
          · cases h
          · exact ⟨by omega, by omega, by omega, by omega, by simpa using h4, by omega⟩
/-- What is paid. -/
def paidF (x : Ltr) : Int := if x.state = 5 then x.amount else 0
def paidL (ls : List Ltr) : Int := (ls.map paidF).sum
theorem putL_sum (y : Ltr) : paidL (l.putL y).ls = paidL l.ls + paidF y - paidF (l.old y.name) := by
  show paidL (withG (eqL y.name) (gtL y.name) y l.ls) = _
  unfold withG paidL Lg.old Lg.find
  split
  · next h =>
    rw [find_at h, putG_sum1 paidF (find_at h)]
    rfl
  · next h =>
    rw [find_none h, putG_sum paidF]
    show _ = _ + _ - paidF Ltr.none
    rw [show paidF Ltr.none = 0 from rfl]
    omega
/-- A ledger of four replicas, from the empty one on. -/
structure Lg.Keep (l : Lg) : Prop where
  each : ∀ x ∈ l.ls, LtR x
  asc : Asc (fun x : Ltr => x.name) ltB l.ls
  few : l.ls.length ≤ 16
  os : ∀ o ∈ l.os, OcR o ∧ 4 ≤ o.client ∧ o.client < 8
  oasc : Asc (fun o : Oc => o.client) (fun a b : Int => a < b) l.os
  total : isAmt l.total = true
  paid : l.total = paidL l.ls
theorem Lg.zero_keep : Lg.zero.Keep := ⟨fun x hx => (by cases hx), by simp [Lg.zero, Asc], Nat.zero_le _, fun x hx => (by cases hx), by simp [Lg.zero, Asc], by decide, rfl⟩
theorem stepped_keep (h : l.Keep) (hc : c.check 4 = 0) (hk : l.known c = 0) : (l.stepped (l.old c.letter) c).1.Keep := by
  by_cases h0 : (l.stepped (l.old c.letter) c).2 ≠ 0
  · rw [stepped_same h0]; exact h
  · have h0 := Classical.byContradiction h0
    obtain ⟨g1, g2, g3, g4⟩ := stepped_ok h0
    obtain ⟨k1, k2, k3, k4⟩ := step_ok g1
    obtain ⟨n1, n2, n3, n4, n5⟩ := next_from k2
    obtain ⟨c1, c2, c3, c4, c5, c6⟩ := check_ok hc
    have hx : c.op ≠ 1 → LtR (l.old c.letter) := fun hop => by
      unfold Lg.known at hk
      split at hk
      · cases hk
      · next hk2 =>
        unfold Lg.old
        cases hf : l.find c.letter with
        | none => rw [hf] at hk2; exact absurd ⟨rfl, hop⟩ hk2
        | some y => exact h.each y (find_some hf).1
    obtain ⟨d1, d2, d3, d4, d5⟩ := does_r hx k3
    have hy : LtR (nextL (l.old c.letter) c) := by
      unfold nextL
      rw [k4]
      exact ⟨c5, n3, d1, d2, d3, d4⟩
    have hw := with_ok (l := l) (y := nextL (l.old c.letter) c) (fun h => h g2)
    have hput : ∀ y ∈ (l.putL (nextL (l.old c.letter) c)).ls, LtR y := fun y hm => by
      rcases withG_mem hm with rfl | hm
      · exact hy
      · exact h.each y hm
    have hasc : Asc (fun x : Ltr => x.name) ltB (l.putL (nextL (l.old c.letter) c)).ls := withG_asc ltrOrd h.asc
    have hsum := putL_sum (l := l) (nextL (l.old c.letter) c)
    have hst : (nextL (l.old c.letter) c).state = ltrNext (l.old c.letter).state c.op := by
      show (Ltr.step _ _ _ _ _).1.state = _
      rw [k4]
    have hold : paidF (l.old c.letter) = 0 := by
      unfold paidF
      rw [if_neg (by omega)]
    have hname : (nextL (l.old c.letter) c).name = c.letter := rfl
    rw [hname, hold] at hsum
    by_cases h7 : c.op = 7
    · rw [if_pos h7] at g3
      rw [g3]
      have hpf : paidF (nextL (l.old c.letter) c) = (nextL (l.old c.letter) c).amount := by
        unfold paidF
        rw [if_pos (by rw [hst]; exact n4.2 h7)]
      have hadd : (amtAdd l.total (nextL (l.old c.letter) c).amount).1 = l.total + (nextL (l.old c.letter) c).amount := by
        have h9 := g4 h7
        unfold amtAdd at h9 ⊢
        split at h9
        · cases h9
        · next h10 =>
          rw [if_neg h10]
          split at h9
          · next h11 => rw [if_pos h11]
          · cases h9
      refine ⟨hput, hasc, hw.2.2, h.os, h.oasc, amtAdd_is _ _, ?_⟩
      show (amtAdd l.total _).1 = paidL (l.putL _).ls
      rw [hadd, hsum, hpf, h.paid]
      omega
    · rw [if_neg h7] at g3
      rw [g3]
      have hpf : paidF (nextL (l.old c.letter) c) = 0 := by
        unfold paidF
        rw [if_neg (fun h9 => h7 (n4.1 (hst.symm.trans h9)))]
      refine ⟨hput, hasc, hw.2.2, h.os, h.oasc, h.total, ?_⟩
      show l.total = paidL (l.putL _).ls
      rw [hsum, hpf, h.paid]
      omega
theorem doF_keep (h : l.Keep) : (l.doF e 4).1.Keep := by
  unfold Lg.doF
  split
  · exact h
  · split
    · exact h
    · next h1 h2 =>
      have hc := Classical.byContradiction h2
      obtain ⟨c1, c2, c3, c4, c5, c6⟩ := check_ok hc
      have hr : (l.res e 4).1.Keep := by
        unfold Lg.res
        split
        · exact h
        · next h3 =>
          split
          · exact h
          · exact stepped_keep h hc (Classical.byContradiction h3)
      refine ⟨hr.each, hr.asc, hr.few, fun o ho => ?_, withG_asc ocOrd hr.oasc, hr.total, hr.paid⟩
      rcases withG_mem ho with rfl | ho
      · exact ⟨⟨by dsimp only; omega, c3, res_err⟩, by dsimp only; omega, by dsimp only; omega⟩
      · exact hr.os o ho
theorem goes_keep : ∀ {l : Lg} {es : List Ent}, l.Keep → (Lg.goes 4 l es).1.Keep
  | l, [], h => h
  | l, e :: es, h => goes_keep (es := es) (doF_keep (e := e) h)
theorem Lg.Keep.right (h : l.Keep) {s : Int} (hs : 0 ≤ s ∧ s ≤ 1048576) : ({ l with seq := s } : Lg).Right := by
  have hf := asc_few (lo_ := 4) (up := 8) h.oasc fun o ho => (h.os o ho).2
  exact ⟨OcsR.mk' (fun o ho => (h.os o ho).1) h.oasc, hs, h.total, by show l.os.length ≤ 4; omega, LtsR.mk' h.each h.asc, h.few⟩
/-! ### In any order -/
end
end Go.Proofs.YtkeapnefdjkhoaaGreatDoor.A
/-
  Policies' texts, plain: what the document's parser answers, step by step.
-/
set_option maxRecDepth 100000
set_option linter.unusedSimpArgs false
set_option linter.unusedVariables false
namespace Go.Proofs.YtkeapnefdjkhoaaGreatDoor.A
open Go.RowKit

/-- A number, as the document's parser answers. -/
def numF (t : Txt) : Int × Txt × Bool := match numT t with
  | none => (0, t, false)
  | some x => (((x.1 : Nat) : Int), x.2, true)
theorem numF_none {t : Txt} (h : numT t = none) : numF t = (0, t, false) := by unfold numF; rw [h]
theorem numF_some {t : Txt} {x : Nat × Txt} (h : numT t = some x) : numF t = (((x.1 : Nat) : Int), x.2, true) := by unfold numF; rw [h]
theorem numF_no {t : Txt} (h : (numF t).2.2 = false) : numT t = none := by
  cases hq : numT t with
  | none => rfl
  | some x => rw [numF_some hq] at h; cases h
theorem numF_ok {t : Txt} (h : (numF t).2.2 = true) : ∃ v : Nat, numT t = some (v, (numF t).2.1) ∧ (numF t).1 = (v : Int) ∧ (numF t).2.1.length < t.length ∧ v ≤ 9999 := by
  cases hq : numT t with
  | none => rw [numF_none hq] at h; cases h
  | some x =>
    obtain ⟨v, r⟩ := x
    rw [numF_some hq]
    exact ⟨v, rfl, rfl, numT_short hq, numT_le hq⟩
/-- What the document's parser answers of a policy. -/
def DocP (k : Nat) (l : Txt) (z : Frm × Txt × Bool) : Prop := (polT k l = none → z.2.2 = false) ∧ ∀ x, polT k l = some x → z = (x.1, x.2, true)
def DocR (k : Nat) (l : Txt) (z : List Frm × Txt × Bool) : Prop := (rowT (polT k) l = none → z.2.2 = false) ∧ ∀ x, rowT (polT k) l = some x → z = (x.1, x.2, true)
section
variable {k : Nat} {l : Txt} {y : Frm × Txt × Bool} {w : List Frm × Txt × Bool} {z : Txt × List Frm}
theorem DocP.no (h : DocP k l y) (ho : y.2.2 = false) : polT k l = none := by
  cases hq : polT k l with
  | none => rfl
  | some x => rw [h.2 x hq] at ho; cases ho
theorem DocP.get (h : DocP k l y) (ho : y.2.2 = true) : polT k l = some (y.1, y.2.1) := by
  cases hq : polT k l with
  | none => rw [h.1 hq] at ho; cases ho
  | some x => rw [h.2 x hq]
theorem DocR.no (h : DocR k l w) (ho : w.2.2 = false) : rowT (polT k) l = none := by
  cases hq : rowT (polT k) l with
  | none => rfl
  | some x => rw [h.2 x hq] at ho; cases ho
theorem DocR.get (h : DocR k l w) (ho : w.2.2 = true) : rowT (polT k) l = some (w.1, w.2.1) := by
  cases hq : rowT (polT k) l with
  | none => rw [h.1 hq] at ho; cases ho
  | some x => rw [h.2 x hq]
theorem DocR.of_none (h : rowT (polT k) l = none) (t : Txt) : DocR k l ([], t, false) := ⟨fun _ => rfl, fun x hx => (by rw [h] at hx; cases hx)⟩
theorem DocR.of_some {a : List Frm} {b : Txt} (h : rowT (polT k) l = some (a, b)) : DocR k l (a, b, true) := ⟨fun hx => (by rw [h] at hx; cases hx), fun x hx => (by rw [h] at hx; cases hx; rfl)⟩
theorem DocP.of_none (h : polT k l = none) (hy : y.2.2 = false) : DocP k l y := ⟨fun _ => hy, fun x hx => (by rw [h] at hx; cases hx)⟩
theorem DocP.of_some {a : Frm} {b : Txt} (h : polT k l = some (a, b)) : DocP k l (a, b, true) := ⟨fun hx => (by rw [h] at hx; cases hx), fun x hx => (by rw [h] at hx; cases hx; rfl)⟩
/-- At the head of a round: the text begins with a bracket or a comma. -/
structure DocI (k : Nat) (l : Txt) (z : Txt × List Frm) : Prop where
  pos : 1 ≤ z.1.length
  len : z.1.length ≤ l.length
  few : z.2.length + z.1.length ≤ l.length + 1
  go : ∃ F, z.1.length ≤ F ∧ rowT (polT k) l = rowL (polT k) F (z.1.drop 1) z.2
theorem DocI.start (h : begins (bare l) [40] = true) : DocI k l (bare l, []) := by
  have h1 := begins_len h
  have h2 := bare_len l
  refine ⟨h1, h2, (by simp only [List.length_nil]; omega), l.length + 1, (by simp only; omega), ?_⟩
  unfold rowT
  rw [if_pos h]
theorem DocI.more (h : DocI k l z) : ∃ m, z.1.length ≤ m + 1 ∧ rowT (polT k) l = match polT k (z.1.drop 1) with
    | none => none
    | some (f, r) => if begins (bare r) [41] = true then some (z.2 ++ [f], (bare r).drop 1) else if begins (bare r) [44] = true then rowL (polT k) m ((bare r).drop 1) (z.2 ++ [f]) else none := by
  obtain ⟨F, hF, hR⟩ := h.go
  have hp := h.pos
  obtain ⟨m, rfl⟩ : ∃ m, F = m + 1 := ⟨F - 1, (by omega)⟩
  refine ⟨m, hF, hR.trans ?_⟩
  conv => lhs; unfold rowL
  cases polT k (z.1.drop 1) with
  | none => rfl
  | some x => obtain ⟨f, r⟩ := x; rfl
theorem DocI.no (h : DocI k l z) (hy : DocP k (z.1.drop 1) y) (ho : y.2.2 = false) : rowT (polT k) l = none := by
  obtain ⟨m, _, hR⟩ := h.more
  rw [hR, hy.no ho]
theorem DocI.done (h : DocI k l z) (hy : DocP k (z.1.drop 1) y) (ho : y.2.2 = true) (hb : begins (bare y.2.1) [41] = true) : rowT (polT k) l = some (z.2 ++ [y.1], (bare y.2.1).drop 1) := by
  obtain ⟨m, _, hR⟩ := h.more
  rw [hR, hy.get ho]
  exact if_pos hb
theorem DocI.bad (h : DocI k l z) (hy : DocP k (z.1.drop 1) y) (ho : y.2.2 = true) (hb : ¬ begins (bare y.2.1) [41] = true) (hc : ¬ begins (bare y.2.1) [44] = true) : rowT (polT k) l = none := by
  obtain ⟨m, _, hR⟩ := h.more
  rw [hR, hy.get ho]
  exact (if_neg hb).trans (if_neg hc)
theorem DocI.step (h : DocI k l z) (hy : DocP k (z.1.drop 1) y) (ho : y.2.2 = true) (hb : ¬ begins (bare y.2.1) [41] = true) (hc : begins (bare y.2.1) [44] = true) : DocI k l (bare y.2.1, z.2 ++ [y.1]) ∧ (bare y.2.1).length < z.1.length := by
  obtain ⟨m, hm, hR⟩ := h.more
  have hg := hy.get ho
  have hs := polT_short k _ _ _ hg
  rw [List.length_drop] at hs
  have hbl := bare_len y.2.1
  have hp := h.pos
  have hl := h.len
  have hf := h.few
  have hcl := begins_len hc
  simp only [List.length_singleton] at hcl
  rw [hg] at hR
  refine ⟨⟨hcl, (by simp only; omega), (by simp only [List.length_append, List.length_singleton]; omega), m, (by simp only; omega), ?_⟩, (by omega)⟩
  rw [hR]
  exact (if_neg hb).trans (if_pos hc)
/-! ### Policies -/
theorem DocP.deep (hy : y.2.2 = false) : DocP 0 l y := DocP.of_none rfl hy
theorem DocP.all (hb : begins (bare l) [97, 108, 108] = true) (hw : DocR k ((bare l).drop 3) w) : DocP (k + 1) l (.mk 0 w.1.length w.1, w.2.1, w.2.2) := by
  have e : polT (k + 1) l = (rowT (polT k) ((bare l).drop 3)).map fun x => (.mk 0 x.1.length x.1, x.2) := by
    conv => lhs; unfold polT
    rw [if_pos hb]
  cases hq : rowT (polT k) ((bare l).drop 3) with
  | none => rw [hq] at e; exact DocP.of_none e (hw.1 hq)
  | some x => rw [hq] at e; rw [hw.2 x hq]; exact DocP.of_some e
theorem DocP.any (ha : ¬ begins (bare l) [97, 108, 108] = true) (hb : begins (bare l) [97, 110, 121] = true) (hw : DocR k ((bare l).drop 3) w) : DocP (k + 1) l (.mk 0 1 w.1, w.2.1, w.2.2) := by
  have e : polT (k + 1) l = (rowT (polT k) ((bare l).drop 3)).map fun x => (.mk 0 1 x.1, x.2) := by
    conv => lhs; unfold polT
    rw [if_neg ha, if_pos hb]
  cases hq : rowT (polT k) ((bare l).drop 3) with
  | none => rw [hq] at e; exact DocP.of_none e (hw.1 hq)
  | some x => rw [hq] at e; rw [hw.2 x hq]; exact DocP.of_some e
theorem DocP.bad (ha : ¬ begins (bare l) [97, 108, 108] = true) (hb : ¬ begins (bare l) [97, 110, 121] = true) (hn : (numF (bare l)).2.2 = false) (hy : y.2.2 = false) : DocP (k + 1) l y :=
  DocP.of_none (by rw [pol_num ha hb, numF_no hn]) hy
theorem DocP.org (ha : ¬ begins (bare l) [97, 108, 108] = true) (hb : ¬ begins (bare l) [97, 110, 121] = true) (hn : (numF (bare l)).2.2 = true) (hof : ¬ begins (bare (numF (bare l)).2.1) [111, 102] = true) : DocP (k + 1) l (.mk (numF (bare l)).1 0 [], (numF (bare l)).2.1, true) := by
  obtain ⟨v, h1, h2, _⟩ := numF_ok hn
  refine DocP.of_some ?_
  rw [pol_num ha hb, h1, h2]
  exact if_neg hof
theorem DocP.of (ha : ¬ begins (bare l) [97, 108, 108] = true) (hb : ¬ begins (bare l) [97, 110, 121] = true) (hn : (numF (bare l)).2.2 = true) (hof : begins (bare (numF (bare l)).2.1) [111, 102] = true) (hw : DocR k ((bare (numF (bare l)).2.1).drop 2) w) {o : Bool}
    (ho : o = true ↔ w.2.2 = true ∧ 1 ≤ (numF (bare l)).1 ∧ (numF (bare l)).1 ≤ 99) : DocP (k + 1) l (.mk 0 (numF (bare l)).1 w.1, w.2.1, o) := by
  obtain ⟨v, h1, h2, _⟩ := numF_ok hn
  rw [h2] at ho ⊢
  have e := pol_num (k := k) ha hb
  rw [h1] at e
  dsimp only at e
  rw [if_pos hof] at e
  by_cases hv : 1 ≤ v ∧ v ≤ 99
  · rw [if_pos hv] at e
    cases hq : rowT (polT k) ((bare (numF (bare l)).2.1).drop 2) with
    | none =>
      rw [hq] at e
      refine DocP.of_none e ?_
      have := hw.1 hq
      cases o with
      | false => rfl
      | true => rw [(ho.1 rfl).1] at this; cases this
    | some x =>
      rw [hq] at e
      have hx := hw.2 x hq
      have ho2 : o = true := ho.2 ⟨(by rw [hx]), (by omega), (by omega)⟩
      rw [ho2, hx]
      exact DocP.of_some e
  · rw [if_neg hv] at e
    refine DocP.of_none e ?_
    cases o with
    | false => rfl
    | true => have := ho.1 rfl; exact absurd ⟨(by omega), (by omega)⟩ hv
end
end Go.Proofs.YtkeapnefdjkhoaaGreatDoor.A
/-
  Policies' texts: the document's parser.
-/
set_option maxRecDepth 100000
set_option linter.unusedSimpArgs false
set_option linter.unusedVariables false
namespace Go.Proofs.YtkeapnefdjkhoaaGreatDoor.A
open Go.RowKit

section
variable {l wd : Txt} {k : Nat} {d n : Int}
end
end Go.Proofs.YtkeapnefdjkhoaaGreatDoor.A
