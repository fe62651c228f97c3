/-
  Packed out of the texts: E7, AOpenQ.
-/
import Derived.Test.YtbhjchlflkgjbaaM010
/-
  EndorseMasks: the walk.
-/
set_option maxRecDepth 100000
set_option linter.unusedSimpArgs false
set_option linter.unusedVariables false
namespace Go.Proofs.Ytbhjchlflkgjbaa.A
open Go.RowKit

/-- What is kept from signer to signer. -/
structure EK (q : Rq) (i : Nat) (T : List (ByteArray × Nat)) (es : List En) : Prop where
  num : Num1 T
  few : T.length ≤ 7 * i
  len : es.length ≤ q.ends.length + i
  tags : ∀ e ∈ es, e.tags.length ≤ 20
theorem EK.start {q : Rq} (h : q.few = true) : EK q 0 [] q.ends := ⟨Num1.nil, Nat.le_refl _, Nat.le_refl _, (Rq.few_iff.1 h).1⟩
theorem EK.step {q : Rq} {i : Nat} {T : List (ByteArray × Nat)} {es : List En} (h : EK q i T es) (o n : Int) (c : Core) : EK q (i + 1) (tmG (gI o (textV 100 c.bytes)) T (allN n)) (withL es (sgI T o n c)) := by
  have h1 := tmG_len (gI o (textV 100 c.bytes)) T (allN n)
  have h2 := allN_le n
  have h3 := h.few
  have h4 := putE_len (hasE es (sgI T o n c).org) (sgI T o n c) es
  have h5 := h.len
  refine ⟨tmG_num h.num _ _, by omega, by unfold withL; omega, fun e he => ?_⟩
  rcases putE_mem he with rfl | he
  · show (tagsG _ _ _).length ≤ 20
    rw [tagsG_length]
    omega
  · exact h.tags e he
theorem After.make3 {ι : Type} {σ σ1 : Blks} {τ' : ι → Blks} {a b c : ι → It} {K : Blks → ι → Prop} (h : Reads σ σ1) (hτ : ∀ z, τ' z = [a z, b z, c z]) (k : ∀ z, K (a z :: b z :: c z :: σ) z) : After σ σ1 τ' K := ⟨σ, h.split, fun z => ⟨_, by rw [hτ z]; exact List.Perm.refl _, k z⟩⟩
theorem sg_zero (T : List (ByteArray × Nat)) (o n : Int) (c : Core) : (((sgI T o n c).tags.length : Nat) : Int) = 0 ↔ n < 1 ∨ 7 < n := by
  rw [← allN_zero n]
  show ((((tagsG _ _ _).length : Nat) : Int) = 0) ↔ _
  rw [tagsG_length]
  omega
section
variable {q : Rq} {ss : List Int} {n who : Int}
set_option maxHeartbeats 4000000 in
theorem emasks_s  : Spec Try.prog 3 [.agg q.abs, ints ss, int n, int who] [] (fun _ : Unit => []) (fun _ => boo true) := by
  refine spec_of Try.func3 rfl Try.ntmps3 rfl fun G w => ?_
  refine SC.seq (SC.region ?_)
  refine SL.eff (Eff.boxA (cs := q.abs) rfl) rfl rfl ?_
  rintro _ _ ⟨b4, rfl, rfl⟩
  refine SL.val (Val.assign rfl) rfl rfl ?_
  refine SL.nil (SE.seq ?_)
  refine SC.seq ?_
  refine SC.seq (SC.region ?_)
  refine SL.call (fixed13_s) Casts.refl (by kernel_rfl) rfl rfl rfl ?_
  refine After.pure (by repeat first|exact .nil|refine .blk (by repeat first|assumption|exact m0|apply m1) ?_|refine .rd (by repeat first|assumption|exact m0|apply m1) ?_|refine .pc (by repeat first|assumption|exact m0|apply m1) ?_|refine .rdpc (by repeat first|assumption|exact m0|apply m1) ?_) (fun _ => rfl) ?_
  intro _
  refine SL.val (Val.notT rfl) rfl rfl ?_
  refine SL.nil (SE.seq ?_)
  refine SC.condF rfl ?_
  refine SC.skip ?_
  refine SE.seq ?_
  refine SC.seq ?_
  refine SC.seq (SC.region ?_)
  refine SL.val (Val.loadA tabOk rfl rfl rfl (by first|(apply Or.inl;(repeat first|assumption|exact m0|apply m1);done)|(apply Or.inr;(repeat first|assumption|exact m0|apply m1);done)) List.not_mem_nil rfl) rfl rfl ?_
  refine SL.call (few13_s (q := q)) Casts.refl (by kernel_rfl) rfl rfl rfl ?_
  refine After.pure (by repeat (first | exact Reads.nil | (refine Reads.blk ?_ ?_; focus ((repeat first|assumption|exact m0|apply m1); done)) | (refine Reads.rd ?_ ?_; focus ((repeat first|assumption|exact m0|apply m1); done)) | (refine Reads.pc ?_ ?_; focus ((repeat first|assumption|exact m0|apply m1); done)) | (refine Reads.rdpc ?_ ?_; focus ((repeat first|assumption|exact m0|apply m1); done)))) (fun _ => rfl) ?_
  intro _
  refine SL.val (Val.notB rfl) rfl rfl ?_
  refine SL.val (Val.move rfl) rfl rfl ?_
  refine SL.both (t := 18) rfl ?_ ?_
  · intro hc18
    iterate 3 refine SL.skip rfl rfl ?_
    refine SL.val (Val.pickT rfl rfl) rfl rfl ?_
    refine SL.nil (SE.seq ?_)
    refine SC.condT rfl ?_
    refine SC.seq (SC.region ?_)
    refine SL.val (Val.assign rfl) rfl rfl ?_
    refine SL.nil (SE.seq ?_)
    refine SC.ret ?_
    refine SE.then_ (by intro h; cases h) ?_
    refine SE.fin (rs := [.tmp 8]) rfl (RV.tmp rfl RV.nil) (()) (by repeat first|exact s0 _|exact s1 _|apply s2|apply s3) (by simp [It.rids]) ?_
    exact rfl
  intro hc18
  have hfew : q.few = true := by simpa using hc18
  have hf := Rq.few_iff.1 hfew
  refine SL.val (Val.move rfl) rfl rfl ?_
  first
    | refine SL.val (Val.lenSl rfl Try.underlying27 (List.length_map _)) rfl rfl ?_
    | refine SL.val (Val.lenOwn rfl (by repeat first|assumption|exact m0|apply m1) Try.underlying27 (List.length_map _)) rfl rfl ?_
    | refine SL.val (Val.lenNil rfl Try.underlying27) rfl rfl ?_
  refine SL.val (Val.gtI rfl rfl) rfl rfl ?_
  refine SL.val (Val.pickF rfl rfl) rfl rfl ?_
  refine SL.nil (SE.seq ?_)
  refine SC.condP rfl ?_ ?_
  · intro hc22
    refine SC.seq (SC.region ?_)
    refine SL.val (Val.assign rfl) rfl rfl ?_
    refine SL.nil (SE.seq ?_)
    refine SC.ret ?_
    refine SE.then_ (by intro h; cases h) ?_
    refine SE.fin (rs := [.tmp 8]) rfl (RV.tmp rfl RV.nil) (()) (by repeat first|exact s0 _|exact s1 _|apply s2|apply s3) (by simp [It.rids]) ?_
    exact rfl
  intro hc22
  refine SC.skip ?_
  refine SE.seq ?_
  refine SC.seq (SC.region ?_)
  refine SL.call (inew_s) Casts.refl (by kernel_rfl) rfl rfl rfl ?_
  refine After.make3 (by repeat (first | exact Reads.nil | (refine Reads.blk ?_ ?_; focus ((repeat first|assumption|exact m0|apply m1); done)) | (refine Reads.rd ?_ ?_; focus ((repeat first|assumption|exact m0|apply m1); done)) | (refine Reads.pc ?_ ?_; focus ((repeat first|assumption|exact m0|apply m1); done)) | (refine Reads.rdpc ?_ ?_; focus ((repeat first|assumption|exact m0|apply m1); done)))) (fun _ => rfl) ?_
  intro z0
  refine SL.val (Val.assign rfl) rfl rfl ?_
  refine SL.nil (SE.seq ?_)
  refine SC.seq ?_
  refine SC.seq (SC.region ?_)
  refine SL.val (Val.move rfl) rfl rfl ?_
  first
    | refine SL.val (Val.lenSl rfl Try.underlying27 (List.length_map _)) rfl rfl ?_
    | refine SL.val (Val.lenOwn rfl (by repeat first|assumption|exact m0|apply m1) Try.underlying27 (List.length_map _)) rfl rfl ?_
    | refine SL.val (Val.lenNil rfl Try.underlying27) rfl rfl ?_
  refine SL.val (Val.move rfl) rfl rfl ?_
  refine SL.nil (SE.seq ?_)
  refine SC.block ?_
  refine SC.loop (ι := Nat × List (ByteArray × Nat) × List En) (fun y => [.blk z0.1 58 [mapV z0.2.1, mapV z0.2.2], .pc (mapPc z0.2.2 Value.string cntV sOk (y.2.1)), .blk b4 26 (Rq.mk q.core (y.2.2)).abs]) (fun y => [(2, int n), (3, int who), (4, ptr b4), (9, ptr z0.1), (24, ints ss), (25, int (ss.length : Nat)), (26, int (y.1 : Nat))]) (fun y => y.1 ≤ ss.length ∧ EK q y.1 y.2.1 y.2.2) (fun y => ss.length - y.1) (0, [], q.ends) (⟨Nat.zero_le _, EK.start hfew⟩) (by exact ⟨rfl, rfl, rfl, rfl, rfl, rfl, rfl, trivial⟩) (by repeat first|exact s0 _|exact s1 _|apply s2|apply s3) ?_
  intro y hy
  refine SC.seq (SC.region ?_)
  refine SL.val (Val.ltI rfl rfl) rfl rfl ?_
  refine SL.nil (SE.seq ?_)
  refine SC.seq ?_
  refine SC.condP rfl ?_ ?_
  rotate_left
  · intro hc27
    have hyf := hy.2.few
    have hyl := hy.2.len
    refine SC.exit ?_
    refine SE.then_ (by intro h; cases h) ?_
    refine SE.then_ (by intro h; cases h) ?_
    refine SE.exit ?_
    refine SE.seq ?_
    refine SC.seq ?_
    refine SC.draw [] (.q 0 (.q 1 (.q 2 (.q 3 (.q 4 (.q 6 (.q 7 (.q 8 (.q 9 (.e 5 (.e 10 (.q 11 (.q 12 (.q 13 (.q 14 (.q 15 (.e 16 (.q 17 (.q 18 (.q 19 (.q 20 (.q 21 (.q 24 (.q 25 (.e 22 (.q 23 (.e 26 (.q 27 (.q 28 (.q 29 (.q 30 .nil))))))))))))))))))))))))))))))) (by kernel_rfl) (by kernel_rfl) ?_
    refine SX.val rfl (Val.move rfl) (by simp) rfl rfl ?_
    refine SX.val rfl (Val.makeIface rfl (fun _ _ => by kernel_rfl)) (by simp) rfl rfl ?_
    refine SX.val rfl (Val.loadA tabOk rfl rfl rfl (by first|(apply Or.inl;(repeat first|assumption|exact m0|apply m1);done)|(apply Or.inr;(repeat first|assumption|exact m0|apply m1);done)) List.not_mem_nil rfl) (by first | (simp [mids, It.mids, ownPc, bkPc, mapPc]; done) | (intro k hk; simp [mids, It.mids, ownPc, bkPc, mapPc] at hk ⊢; grind)) rfl rfl ?_
    refine SX.val rfl (Val.move rfl) (by simp) rfl rfl ?_
    refine SX.val rfl (Val.move rfl) (by simp) rfl rfl ?_
    refine SX.val rfl (Val.move rfl) (by simp) rfl rfl ?_
    refine SX.val rfl (Val.loadA tabOk rfl rfl rfl (by first|(apply Or.inl;(repeat first|assumption|exact m0|apply m1);done)|(apply Or.inr;(repeat first|assumption|exact m0|apply m1);done)) List.not_mem_nil rfl) (by first | (simp [mids, It.mids, ownPc, bkPc, mapPc]; done) | (intro k hk; simp [mids, It.mids, ownPc, bkPc, mapPc] at hk ⊢; grind)) rfl rfl ?_
    refine SX.val rfl (Val.move rfl) (by simp) rfl rfl ?_
    refine SX.val rfl (Val.move rfl) (by simp) rfl rfl ?_
    refine SX.call rfl (maski_s (p := z0.1) (bd := z0.2.1) (bt := z0.2.2) (q := (Rq.mk q.core y.2.2)) (n := n) (who := who) (T := y.2.1) (by show q.core.letter.size ≤ 1000; omega) (by show q.core.text.size ≤ 1000; omega) (by show y.2.2.length ≤ _; omega) hy.2.num (by omega)) (by simp [mids, It.mids]) Casts.refl (by kernel_rfl) rfl rfl rfl ?_
    refine After.pure (by repeat (first | exact Reads.nil | (refine Reads.blk ?_ ?_; focus ((repeat first|assumption|exact m0|apply m1); done)) | (refine Reads.rd ?_ ?_; focus ((repeat first|assumption|exact m0|apply m1); done)) | (refine Reads.pc ?_ ?_; focus ((repeat first|assumption|exact m0|apply m1); done)) | (refine Reads.rdpc ?_ ?_; focus ((repeat first|assumption|exact m0|apply m1); done)))) (fun _ => rfl) ?_
    intro _
    refine SX.call rfl (rmask_s (p := z0.1) (bd := z0.2.1) (bt := z0.2.2) (q := (Rq.mk q.core y.2.2)) (n := n) (who := who) (T := y.2.1) (by show q.core.letter.size ≤ 1000; omega) (by show q.core.text.size ≤ 1000; omega) (by show y.2.2.length ≤ _; omega) hy.2.num (by omega)) (by simp [mids, It.mids]) Casts.refl (by kernel_rfl) rfl rfl rfl ?_
    refine After.pure (by repeat (first | exact Reads.nil | (refine Reads.blk ?_ ?_; focus ((repeat first|assumption|exact m0|apply m1); done)) | (refine Reads.rd ?_ ?_; focus ((repeat first|assumption|exact m0|apply m1); done)) | (refine Reads.pc ?_ ?_; focus ((repeat first|assumption|exact m0|apply m1); done)) | (refine Reads.rdpc ?_ ?_; focus ((repeat first|assumption|exact m0|apply m1); done)))) (fun _ => rfl) ?_
    intro _
    refine SX.val rfl (Val.to (C := boo true) (Val.eqI rfl rfl) (congrArg (fun b => Abs.v (Value.bool b)) (decide_eq_true rfl))) (by first | (simp [mids, It.mids, ownPc, bkPc, mapPc]; done) | (intro k hk; simp [mids, It.mids, ownPc, bkPc, mapPc] at hk ⊢; grind)) rfl rfl ?_
    refine SX.val rfl (Val.move rfl) (by simp) rfl rfl ?_
    refine SX.val rfl (Val.loadA tabOk rfl rfl rfl (by first|(apply Or.inl;(repeat first|assumption|exact m0|apply m1);done)|(apply Or.inr;(repeat first|assumption|exact m0|apply m1);done)) List.not_mem_nil rfl) (by first | (simp [mids, It.mids, ownPc, bkPc, mapPc]; done) | (intro k hk; simp [mids, It.mids, ownPc, bkPc, mapPc] at hk ⊢; grind)) rfl rfl ?_
    refine SX.val rfl (Val.move rfl) (by simp) rfl rfl ?_
    refine SX.val rfl (Val.move rfl) (by simp) rfl rfl ?_
    refine SX.call rfl (mask0_s (q := (Rq.mk q.core y.2.2)) (n := n) (who := who)) (by simp [mids, It.mids]) Casts.refl (by kernel_rfl) rfl rfl rfl ?_
    refine After.pure (by repeat (first | exact Reads.nil | (refine Reads.blk ?_ ?_; focus ((repeat first|assumption|exact m0|apply m1); done)) | (refine Reads.rd ?_ ?_; focus ((repeat first|assumption|exact m0|apply m1); done)) | (refine Reads.pc ?_ ?_; focus ((repeat first|assumption|exact m0|apply m1); done)) | (refine Reads.rdpc ?_ ?_; focus ((repeat first|assumption|exact m0|apply m1); done)))) (fun _ => rfl) ?_
    intro _
    refine SX.val rfl (Val.to (C := boo true) (Val.eqI rfl rfl) (congrArg (fun b => Abs.v (Value.bool b)) (decide_eq_true rfl))) (by first | (simp [mids, It.mids, ownPc, bkPc, mapPc]; done) | (intro k hk; simp [mids, It.mids, ownPc, bkPc, mapPc] at hk ⊢; grind)) rfl rfl ?_
    refine SX.val rfl (Val.pickT rfl rfl) (by simp) rfl rfl ?_
    refine SX.val rfl (Val.move rfl) (by simp) rfl rfl ?_
    refine SX.val rfl (Val.fieldAddr tabOk rfl rfl rfl rfl rfl) (by simp) rfl rfl ?_
    refine SX.val rfl (Val.to (C := coreA (Rq.mk q.core y.2.2).core) (Val.loadP tabOk rfl rfl rfl (by first|(apply Or.inl;(repeat first|assumption|exact m0|apply m1);done)|(apply Or.inr;(repeat first|assumption|exact m0|apply m1);done)) List.not_mem_nil (Nat.le_of_ble_eq_true (by rfl))) (congrArg Abs.agg (Rq.part _))) (by first | (simp [mids, It.mids, ownPc, bkPc, mapPc]; done) | (intro k hk; simp [mids, It.mids, ownPc, bkPc, mapPc] at hk ⊢; grind)) rfl rfl ?_
    refine SX.val rfl (Val.fieldAddr tabOk rfl rfl rfl rfl rfl) (by simp) rfl rfl ?_
    refine SX.val rfl (Val.to (C := coreA (Rq.mk q.core y.2.2).core) (Val.loadP tabOk rfl rfl rfl (by first|(apply Or.inl;(repeat first|assumption|exact m0|apply m1);done)|(apply Or.inr;(repeat first|assumption|exact m0|apply m1);done)) List.not_mem_nil (Nat.le_of_ble_eq_true (by rfl))) (congrArg Abs.agg (Rq.part _))) (by first | (simp [mids, It.mids, ownPc, bkPc, mapPc]; done) | (intro k hk; simp [mids, It.mids, ownPc, bkPc, mapPc] at hk ⊢; grind)) rfl rfl ?_
    refine SX.call rfl (etext_s (c := q.core) (by omega) (by omega)) (by simp [mids, It.mids]) Casts.refl (by kernel_rfl) rfl rfl rfl ?_
    refine After.pure (by repeat (first | exact Reads.nil | (refine Reads.blk ?_ ?_; focus ((repeat first|assumption|exact m0|apply m1); done)) | (refine Reads.rd ?_ ?_; focus ((repeat first|assumption|exact m0|apply m1); done)) | (refine Reads.pc ?_ ?_; focus ((repeat first|assumption|exact m0|apply m1); done)) | (refine Reads.rdpc ?_ ?_; focus ((repeat first|assumption|exact m0|apply m1); done)))) (fun _ => rfl) ?_
    intro _
    refine SX.val rfl (Val.strOf rfl) (by simp) rfl rfl ?_
    refine SX.call rfl (retext_s (c := q.core) (by omega) (by omega)) (by simp [mids, It.mids]) Casts.refl (by kernel_rfl) rfl rfl rfl ?_
    refine After.pure (by repeat (first | exact Reads.nil | (refine Reads.blk ?_ ?_; focus ((repeat first|assumption|exact m0|apply m1); done)) | (refine Reads.rd ?_ ?_; focus ((repeat first|assumption|exact m0|apply m1); done)) | (refine Reads.pc ?_ ?_; focus ((repeat first|assumption|exact m0|apply m1); done)) | (refine Reads.rdpc ?_ ?_; focus ((repeat first|assumption|exact m0|apply m1); done)))) (fun _ => rfl) ?_
    intro _
    refine SX.val rfl (Val.strOf rfl) (by simp) rfl rfl ?_
    refine SX.val rfl (Val.to (C := boo true) (Val.eqS rfl rfl) (congrArg (fun b => Abs.v (Value.bool b)) (decide_eq_true rfl))) (by first | (simp [mids, It.mids, ownPc, bkPc, mapPc]; done) | (intro k hk; simp [mids, It.mids, ownPc, bkPc, mapPc] at hk ⊢; grind)) rfl rfl ?_
    refine SX.val rfl (Val.pickT rfl rfl) (by simp) rfl rfl ?_
    refine SX.val rfl (Val.assign rfl) (by simp) rfl rfl ?_
    refine SX.nil (SE.seq ?_)
    refine SC.ret ?_
    refine SE.fin (rs := [.tmp 8]) rfl (RV.tmp rfl RV.nil) (()) (by repeat first|exact s0 _|exact s1 _|apply s2|apply s3) (by simp [It.rids]) ?_
    exact rfl
  intro hc27
  have hlt : y.1 < ss.length := by omega
  have hyf := hy.2.few
  have hyl := hy.2.len
  refine SC.skip ?_
  refine SE.seq ?_
  refine SC.seq ?_
  refine SC.block ?_
  refine SC.seq (SC.region ?_)
  refine SL.val (Val.indexSl tabOk Try.underlying27 rfl rfl rfl rfl (at_map (by omega)) rfl rfl) rfl rfl ?_
  refine SL.val (Val.to (C := int (ss[y.1]'hlt)) (Val.load1R tabOk rfl rfl rfl) rfl) rfl rfl ?_
  refine SL.val (Val.assign rfl) rfl rfl ?_
  refine SL.nil (SE.seq ?_)
  refine SC.seq (SC.region ?_)
  refine SL.val (Val.move rfl) rfl rfl ?_
  refine SL.val (Val.makeIface rfl (fun _ _ => by kernel_rfl)) rfl rfl ?_
  refine SL.val (Val.move rfl) rfl rfl ?_
  refine SL.val (Val.move rfl) rfl rfl ?_
  refine SL.val (Val.fieldAddr tabOk rfl rfl rfl rfl rfl) rfl rfl ?_
  refine SL.val (Val.to (C := coreA (Rq.mk q.core y.2.2).core) (Val.loadP tabOk rfl rfl rfl (by first|(apply Or.inl;(repeat first|assumption|exact m0|apply m1);done)|(apply Or.inr;(repeat first|assumption|exact m0|apply m1);done)) List.not_mem_nil (Nat.le_of_ble_eq_true (by rfl))) (congrArg Abs.agg (Rq.part _))) rfl rfl ?_
  refine SL.call (esigni_s (p := z0.1) (bd := z0.2.1) (bt := z0.2.2) (o := (ss[y.1]'hlt)) (n := n) (c := q.core) (T := y.2.1) (by omega) (by omega) hy.2.num (by omega)) Casts.refl (by kernel_rfl) rfl rfl rfl ?_
  refine After.mid [] (β := [_]) rfl (by intro x hx; simp only [List.mem_cons, List.not_mem_nil, or_false] at hx; rcases hx with rfl | rfl <;> rfl) ?_
  intro _
  refine SL.eff (Eff.alloc tabOk rfl) rfl rfl ?_
  rintro _ _ ⟨b12, rfl, rfl⟩
  refine SL.eff (Eff.store (L' := (sgI y.2.1 (ss[y.1]'hlt) n q.core).abs) tabOk rfl rfl rfl (by repeat first|assumption|exact Upd.here|apply Upd.there) rfl (Nat.le_of_ble_eq_true (by rfl)) rfl (by exact putL_whole rfl)) rfl rfl ?_
  rintro _ _ ⟨rfl, rfl⟩
  refine SL.nil (SE.seq ?_)
  refine SC.seq ?_
  refine SC.seq (SC.region ?_)
  refine SL.val (Val.move rfl) rfl rfl ?_
  refine SL.val (Val.ltI rfl rfl) rfl rfl ?_
  refine SL.val (Val.move rfl) rfl rfl ?_
  refine SL.bothP (t := 39) rfl ?_ ?_
  · intro hc39
    iterate 2 refine SL.skip rfl rfl ?_
    refine SL.val (Val.pickT rfl rfl) rfl rfl ?_
    refine SL.val (Val.fieldAddr tabOk rfl rfl rfl rfl rfl) rfl rfl ?_
    refine SL.val (Val.load1 tabOk rfl rfl (by first|(apply Or.inl;(repeat first|assumption|exact m0|apply m1);done)|(apply Or.inr;(repeat first|assumption|exact m0|apply m1);done)) List.not_mem_nil (by rfl)) rfl rfl ?_
    first
      | refine SL.val (Val.lenSl rfl Try.underlying32 (List.length_map _)) rfl rfl ?_
      | refine SL.val (Val.lenOwn rfl (by repeat first|assumption|exact m0|apply m1) Try.underlying32 (List.length_map _)) rfl rfl ?_
      | refine SL.val (Val.lenNil rfl Try.underlying32) rfl rfl ?_
    refine SL.val (Val.to (C := boo (decide (n < 1 ∨ 7 < n))) (Val.eqI rfl rfl) (congrArg (fun b => Abs.v (Value.bool b)) (decide_eq_decide.2 (sg_zero _ _ _ _)))) rfl rfl ?_
    refine SL.val (Val.to (C := boo false) (Val.neB rfl rfl (by kernel_rfl)) (congrArg (fun b => Abs.v (Value.bool b)) (neb (by first | exact (decide_eq_true (by omega)).symm | exact decide_eq_decide.2 (by omega))))) rfl rfl ?_
    refine SL.val (Val.move rfl) rfl rfl ?_
    refine SL.val (Val.fieldAddr tabOk rfl rfl rfl rfl rfl) rfl rfl ?_
    refine SL.val (Val.load1 tabOk rfl rfl (by first|(apply Or.inl;(repeat first|assumption|exact m0|apply m1);done)|(apply Or.inr;(repeat first|assumption|exact m0|apply m1);done)) List.not_mem_nil (by rfl)) rfl rfl ?_
    refine SL.val (Val.move rfl) rfl rfl ?_
    refine SL.val (Val.to (C := boo false) (Val.neI rfl rfl) (congrArg (fun b => Abs.v (Value.bool b)) (decide_eq_false (fun h => h rfl)))) rfl rfl ?_
    refine SL.val (Val.pickF rfl rfl) rfl rfl ?_
    refine SL.nil (SE.seq ?_)
    refine SC.condF rfl ?_
    refine SC.skip ?_
    refine SE.seq ?_
    refine SC.region ?_
    refine SL.val (Val.loadA tabOk rfl rfl rfl (by first|(apply Or.inl;(repeat first|assumption|exact m0|apply m1);done)|(apply Or.inr;(repeat first|assumption|exact m0|apply m1);done)) List.not_mem_nil rfl) rfl rfl ?_
    refine SL.val (Val.loadA tabOk rfl rfl rfl (by first|(apply Or.inl;(repeat first|assumption|exact m0|apply m1);done)|(apply Or.inr;(repeat first|assumption|exact m0|apply m1);done)) List.not_mem_nil rfl) rfl rfl ?_
    refine SL.call (with_s (q := (Rq.mk q.core y.2.2)) (e := (sgI y.2.1 (ss[y.1]'hlt) n q.core)) (by show y.2.2.length ≤ _; omega) (by show (tagsG _ _ _).length ≤ _; rw [tagsG_length]; have := allN_le n; omega)) Casts.refl (by kernel_rfl) rfl rfl rfl ?_
    refine After.pure (by repeat (first | exact Reads.nil | (refine Reads.blk ?_ ?_; focus ((repeat first|assumption|exact m0|apply m1); done)) | (refine Reads.rd ?_ ?_; focus ((repeat first|assumption|exact m0|apply m1); done)) | (refine Reads.pc ?_ ?_; focus ((repeat first|assumption|exact m0|apply m1); done)) | (refine Reads.rdpc ?_ ?_; focus ((repeat first|assumption|exact m0|apply m1); done)))) (fun _ => rfl) ?_
    intro _
    refine SL.eff (Eff.store (L' := (Rq.mk q.core (withL y.2.2 (sgI y.2.1 (ss[y.1]'hlt) n q.core))).abs) tabOk rfl rfl rfl (by repeat first|assumption|exact Upd.here|apply Upd.there) rfl (Nat.le_of_ble_eq_true (by rfl)) rfl (by exact putL_whole rfl)) rfl rfl ?_
    rintro _ _ ⟨rfl, rfl⟩
    refine SL.nil ?_
    refine SE.inBlock ?_
    refine SE.seq ?_
    refine SC.region ?_
    first
      | refine SL.val (Val.addI rfl rfl (by simp only [InR, lo, hi]; omega)) rfl rfl ?_
      | refine SL.val (Val.addW rfl rfl) rfl rfl ?_
    refine SL.val (Val.move rfl) rfl rfl ?_
    refine SL.nil ?_
    refine SE.round (y.1 + 1, tmG (gI (ss[y.1]'hlt) (textV 100 q.core.bytes)) y.2.1 (allN n), withL y.2.2 (sgI y.2.1 (ss[y.1]'hlt) n q.core)) (by first | omega | (dsimp only; omega)) (⟨hlt, hy.2.step (ss[y.1]'hlt) n q.core⟩) (by exact ⟨rfl, rfl, rfl, rfl, rfl, rfl, rfl, trivial⟩) (by repeat first|exact s0 _|exact s1 _|apply s2|apply s3)
  intro hc39
  refine SL.val (Val.move rfl) rfl rfl ?_
  refine SL.val (Val.gtI rfl rfl) rfl rfl ?_
  refine SL.val (Val.pickF rfl rfl) rfl rfl ?_
  refine SL.val (Val.fieldAddr tabOk rfl rfl rfl rfl rfl) rfl rfl ?_
  refine SL.val (Val.load1 tabOk rfl rfl (by first|(apply Or.inl;(repeat first|assumption|exact m0|apply m1);done)|(apply Or.inr;(repeat first|assumption|exact m0|apply m1);done)) List.not_mem_nil (by rfl)) rfl rfl ?_
  first
    | refine SL.val (Val.lenSl rfl Try.underlying32 (List.length_map _)) rfl rfl ?_
    | refine SL.val (Val.lenOwn rfl (by repeat first|assumption|exact m0|apply m1) Try.underlying32 (List.length_map _)) rfl rfl ?_
    | refine SL.val (Val.lenNil rfl Try.underlying32) rfl rfl ?_
  refine SL.val (Val.to (C := boo (decide (n < 1 ∨ 7 < n))) (Val.eqI rfl rfl) (congrArg (fun b => Abs.v (Value.bool b)) (decide_eq_decide.2 (sg_zero _ _ _ _)))) rfl rfl ?_
  refine SL.val (Val.to (C := boo false) (Val.neB rfl rfl (by kernel_rfl)) (congrArg (fun b => Abs.v (Value.bool b)) (neb (by first | exact (decide_eq_true (by omega)).symm | exact decide_eq_decide.2 (by omega))))) rfl rfl ?_
  refine SL.val (Val.move rfl) rfl rfl ?_
  refine SL.val (Val.fieldAddr tabOk rfl rfl rfl rfl rfl) rfl rfl ?_
  refine SL.val (Val.load1 tabOk rfl rfl (by first|(apply Or.inl;(repeat first|assumption|exact m0|apply m1);done)|(apply Or.inr;(repeat first|assumption|exact m0|apply m1);done)) List.not_mem_nil (by rfl)) rfl rfl ?_
  refine SL.val (Val.move rfl) rfl rfl ?_
  refine SL.val (Val.to (C := boo false) (Val.neI rfl rfl) (congrArg (fun b => Abs.v (Value.bool b)) (decide_eq_false (fun h => h rfl)))) rfl rfl ?_
  refine SL.val (Val.pickF rfl rfl) rfl rfl ?_
  refine SL.nil (SE.seq ?_)
  refine SC.condF rfl ?_
  refine SC.skip ?_
  refine SE.seq ?_
  refine SC.region ?_
  refine SL.val (Val.loadA tabOk rfl rfl rfl (by first|(apply Or.inl;(repeat first|assumption|exact m0|apply m1);done)|(apply Or.inr;(repeat first|assumption|exact m0|apply m1);done)) List.not_mem_nil rfl) rfl rfl ?_
  refine SL.val (Val.loadA tabOk rfl rfl rfl (by first|(apply Or.inl;(repeat first|assumption|exact m0|apply m1);done)|(apply Or.inr;(repeat first|assumption|exact m0|apply m1);done)) List.not_mem_nil rfl) rfl rfl ?_
  refine SL.call (with_s (q := (Rq.mk q.core y.2.2)) (e := (sgI y.2.1 (ss[y.1]'hlt) n q.core)) (by show y.2.2.length ≤ _; omega) (by show (tagsG _ _ _).length ≤ _; rw [tagsG_length]; have := allN_le n; omega)) Casts.refl (by kernel_rfl) rfl rfl rfl ?_
  refine After.pure (by repeat (first | exact Reads.nil | (refine Reads.blk ?_ ?_; focus ((repeat first|assumption|exact m0|apply m1); done)) | (refine Reads.rd ?_ ?_; focus ((repeat first|assumption|exact m0|apply m1); done)) | (refine Reads.pc ?_ ?_; focus ((repeat first|assumption|exact m0|apply m1); done)) | (refine Reads.rdpc ?_ ?_; focus ((repeat first|assumption|exact m0|apply m1); done)))) (fun _ => rfl) ?_
  intro _
  refine SL.eff (Eff.store (L' := (Rq.mk q.core (withL y.2.2 (sgI y.2.1 (ss[y.1]'hlt) n q.core))).abs) tabOk rfl rfl rfl (by repeat first|assumption|exact Upd.here|apply Upd.there) rfl (Nat.le_of_ble_eq_true (by rfl)) rfl (by exact putL_whole rfl)) rfl rfl ?_
  rintro _ _ ⟨rfl, rfl⟩
  refine SL.nil ?_
  refine SE.inBlock ?_
  refine SE.seq ?_
  refine SC.region ?_
  first
    | refine SL.val (Val.addI rfl rfl (by simp only [InR, lo, hi]; omega)) rfl rfl ?_
    | refine SL.val (Val.addW rfl rfl) rfl rfl ?_
  refine SL.val (Val.move rfl) rfl rfl ?_
  refine SL.nil ?_
  refine SE.round (y.1 + 1, tmG (gI (ss[y.1]'hlt) (textV 100 q.core.bytes)) y.2.1 (allN n), withL y.2.2 (sgI y.2.1 (ss[y.1]'hlt) n q.core)) (by first | omega | (dsimp only; omega)) (⟨hlt, hy.2.step (ss[y.1]'hlt) n q.core⟩) (by exact ⟨rfl, rfl, rfl, rfl, rfl, rfl, rfl, trivial⟩) (by repeat first|exact s0 _|exact s1 _|apply s2|apply s3)
end
end Go.Proofs.Ytbhjchlflkgjbaa.A
/-
  Arguments that are requests, as trees.
-/
set_option maxRecDepth 100000
set_option linter.unusedSimpArgs false
set_option linter.unusedVariables false
namespace Go.Proofs.Ytbhjchlflkgjbaa.A
open Go.RowKit Go.ChangeShapes Go.WideShapes Go.ChangeAt

section
variable {H : Type} {enc : TypeId × Value → H} {w : World} {base : Nat} {spare : Nat → Bool} {held : Bool}
/-- What comes in of a core. -/
def Core.ins (c : Core) : Prop := InR .i64 c.client ∧ InR .i64 c.stamp ∧ InR .i64 c.op ∧ InR .i64 c.a ∧ InR .i64 c.b ∧ c.letter.size ≤ maxLen ∧ c.text.size ≤ maxLen
theorem open_tgA (cs : List Value) (hl : cs.length = Try.prog.cellsOf 68) (h : ∃ m y, DataW.trod enc Try.prog w base spare held m 68 cs = some y) : ∃ x : Tg, reps [] w x.abs cs ∧ True := by
  obtain ⟨fuel, x, h⟩ := h
  rw [show Try.prog.cellsOf 68 = 32 by kernel_rfl] at hl
  have hlv : leaves Try.prog 4 68 = some (List.replicate 32 5) := by kernel_rfl
  have hh := leaves_trod 4 _ _ _ _ _ hlv (by simpa using hl.symm) h
  obtain ⟨d, rfl⟩ := open_u8 (cs := cs) fun v hv => by
    obtain ⟨j, hj, rfl⟩ := List.getElem_of_mem hv
    exact hh j cs[j] _ (List.getElem?_eq_getElem hj) (by rw [List.getElem?_replicate, if_pos (by omega)])
  exact ⟨⟨d, by simpa using hl⟩, reps_dig d, trivial⟩
theorem end_leaves : leaves Try.prog 4 34 = some [3, 32] := by kernel_rfl
theorem open_enA (cs : List Value) (hl : cs.length = Try.prog.cellsOf 34) (h : ∃ m y, DataW.trod enc Try.prog w base spare held m 34 cs = some y) : ∃ e : En, reps [] w e.abs cs ∧ InR .i64 e.org := by
  obtain ⟨fuel, x, h⟩ := h
  rw [show Try.prog.cellsOf 34 = 2 by kernel_rfl] at hl
  have hh := leaves_trod 4 _ _ _ _ _ end_leaves (by simpa using hl.symm) h
  match cs, hl with
  | [v0, v1], _ =>
    obtain ⟨n0, rfl, b0⟩ := (hh 0 v0 _ rfl rfl).int Try.underlying3
    obtain ⟨ts, ht, _⟩ := open_slA (abs := Tg.abs) (Ok := fun _ => True) (s := 32) Try.underlying32 (by kernel_rfl) (hh 1 v1 _ rfl rfl) open_tgA
    exact ⟨⟨n0, ts⟩, ⟨_, _, rfl, rfl, _, _, rfl, ht, rfl⟩, wfIn b0⟩
theorem open_ensA {v : Value} (h : LeafAt enc Try.prog w base spare held 24 v) : ∃ es : List En, rep [] w (endsA es) v ∧ ∀ e ∈ es, InR .i64 e.org :=
  open_slA (abs := En.abs) (Ok := fun e => InR .i64 e.org) (s := 2) Try.underlying24 (by kernel_rfl) h open_enA
theorem rq_leaves : leaves Try.prog 4 26 = some [3, 2, 3, 9, 2, 2, 9, 24] := by kernel_rfl
theorem open_rq {cs : List Value} {fuel : Nat} {x : DataW H × List MemPlace} (hl : cs.length = Try.prog.cellsOf 26) (h : DataW.trod enc Try.prog w base spare held fuel 26 cs = some x) : ∃ q : Rq, reps [] w q.abs cs ∧ Core.ins q.core ∧ ∀ e ∈ q.ends, InR .i64 e.org := by
  rw [show Try.prog.cellsOf 26 = 8 by kernel_rfl] at hl
  have hh := leaves_trod 4 _ _ _ _ _ rq_leaves (by simpa using hl.symm) h
  match cs, hl with
  | [v0, v1, v2, v3, v4, v5, v6, v7], _ =>
    obtain ⟨n0, rfl, b0⟩ := (hh 0 v0 _ rfl rfl).int Try.underlying3
    obtain ⟨n1, rfl, b1⟩ := (hh 1 v1 _ rfl rfl).int Try.underlying2
    obtain ⟨n2, rfl, b2⟩ := (hh 2 v2 _ rfl rfl).int Try.underlying3
    obtain ⟨s3, rfl, b3⟩ := (hh 3 v3 _ rfl rfl).string Try.underlying9
    obtain ⟨n4, rfl, b4⟩ := (hh 4 v4 _ rfl rfl).int Try.underlying2
    obtain ⟨n5, rfl, b5⟩ := (hh 5 v5 _ rfl rfl).int Try.underlying2
    obtain ⟨s6, rfl, b6⟩ := (hh 6 v6 _ rfl rfl).string Try.underlying9
    obtain ⟨es, he, ho⟩ := open_ensA (hh 7 v7 _ rfl rfl)
    exact ⟨⟨⟨n0, n1, n2, s3, n4, n5, s6⟩, es⟩, ⟨_, _, rfl, rfl, _, _, rfl, rfl, _, _, rfl, rfl, _, _, rfl, rfl, _, _, rfl, rfl, _, _, rfl, rfl, _, _, rfl, rfl, _, _, rfl, he, rfl⟩, ⟨wfIn b0, wfIn b1, wfIn b2, wfIn b4, wfIn b5, b3, b6⟩, ho⟩
end
end Go.Proofs.Ytbhjchlflkgjbaa.A
