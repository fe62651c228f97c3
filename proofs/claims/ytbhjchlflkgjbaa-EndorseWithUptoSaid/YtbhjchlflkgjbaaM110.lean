/-
  Packed out of the texts: E4, E5, E6.
-/
import Derived.Test.YtbhjchlflkgjbaaM19
/-
  Masks: who stands behind a core.
-/
set_option maxRecDepth 100000
set_option linter.unusedSimpArgs false
set_option linter.unusedVariables false
namespace Go.Proofs.Ytbhjchlflkgjbaa.A
open Go.RowKit

theorem mul_two {m : Nat} : (1#32 <<< m) * 2#32 = 1#32 <<< (m + 1) := by
  rw [BitVec.shiftLeft_add]
  apply BitVec.eq_of_toNat_eq
  simp [BitVec.toNat_mul, BitVec.toNat_shiftLeft, Nat.shiftLeft_eq]
section
variable {P : Program} {n : Nat} {W : Wd} {σ : Blks} {l : Slots} {X : List Nat} {x y : Operand} {d : Option Nat} {ty t t' : TypeId} {pos : String} {aft : Array Edge} {g : Option (Nat × Bool)} {p q : Wo}
theorem Val.mulB (hx : look l x = some (u32 p)) (hy : look l y = some (u32 q)) : Val P n W σ l X ⟨d, .binOp .mul t x y t', ty, pos, aft, g⟩ (u32 (p * q)) :=
  Val.to (Val.mulW hx hy) (congrArg (fun r => Abs.v (.int .u32 r)) (by
    have e : ∀ v : Int, IntKind.u32.wrap v = v % 4294967296 := fun v => by simp [IntKind.wrap, IntKind.bits, IntKind.signed]
    rw [e, BitVec.toNat_mul]
    show _ = (((p.toNat * q.toNat) % 4294967296 : Nat) : Int)
    omega))
end
abbrev chkI (T : List (ByteArray × Nat)) (t : List UInt8) (who : Int) (o : Int) (M : List UInt8) : Bool := chkG T (sKey o who t) M
abbrev chkB (T : TMap) (t : List UInt8) (who : Int) (o : Int) (M : List UInt8) : Bool := chkG T ((o, who), t) M
section
variable {q : Rq} {e : En} {n who : Int} {t : List UInt8} {c : Core} {p bd bt : Nat} {Dm : DMap} {Tb : TMap} {T : List (ByteArray × Nat)}
set_option maxHeartbeats 1000000 in
theorem holdsi_s (hl : t.length ≤ 1000000) (hn : Num1 T) (hT : T.length < 1000000) : Spec Try.prog 30 [.ifc 30 (ptr p), .agg e.abs, byt t, int who] [.rd p 58 [mapV bd, mapV bt], .rdpc (mapPc bt Value.string cntV sOk T)] (fun _ : Unit => []) (fun _ => boo (okE (chkI T t who) who e)) := by
  refine spec_of Try.func30 rfl Try.ntmps30 rfl fun G w => ?_
  refine SC.seq (SC.region ?_)
  refine SL.eff (Eff.boxA (cs := e.abs) rfl) rfl rfl ?_
  rintro _ _ ⟨b5, rfl, rfl⟩
  refine SL.val (Val.assign rfl) rfl rfl ?_
  refine SL.nil (SE.seq ?_)
  refine SC.seq ?_
  refine SC.draw [] (.q 0 (.q 1 (.q 2 (.q 3 (.q 4 (.q 5 (.q 6 (.q 7 (.q 8 (.q 9 (.q 10 (.q 11 (.q 12 (.q 13 (.q 14 (.q 15 (.q 16 (.q 17 (.q 18 (.q 19 (.q 20 (.q 21 (.q 22 (.e 23 (.q 24 (.q 25 .nil)))))))))))))))))))))))))) (by kernel_rfl) (by kernel_rfl) ?_
  refine SX.val rfl (Val.move rfl) (by simp) rfl rfl ?_
  refine SX.val rfl (Val.geI rfl rfl) (by simp) rfl rfl ?_
  refine SX.val rfl (Val.move rfl) (by simp) rfl rfl ?_
  refine SX.bothP (t := 11) rfl ?_ ?_
  rotate_left
  · intro hc11
    iterate 5 refine SX.skip rfl rfl rfl ?_
    refine SX.val rfl (Val.pickF rfl rfl) (by simp) rfl rfl ?_
    refine SX.val rfl (Val.move rfl) (by simp) rfl rfl ?_
    iterate 13 refine SX.skip rfl rfl rfl ?_
    refine SX.skip' rfl rfl rfl ?_
    refine SX.val rfl (Val.pickF rfl rfl) (by simp) rfl rfl ?_
    refine SX.val rfl (Val.assign rfl) (by simp) rfl rfl ?_
    refine SX.nil (SE.seq ?_)
    refine SC.ret ?_
    refine SE.fin (rs := [.tmp 8]) rfl (RV.tmp rfl RV.nil) (()) (by repeat first|exact s0 _|exact s1 _|apply s2|apply s3) (by simp [It.rids]) ?_
    first
      | (rw [okE_neg (by omega)]; rfl)
      | (rw [okE_far (by omega)]; rfl)
      | (rw [okE_yes hm]; rfl)
  intro hc11
  obtain ⟨m, rfl⟩ : ∃ m : Nat, who = (m : Nat) := ⟨who.toNat, by omega⟩
  refine SX.val rfl (Val.move rfl) (by simp) rfl rfl ?_
  refine SX.val rfl (Val.fieldAddr tabOk rfl rfl rfl rfl rfl) (by simp) rfl rfl ?_
  refine SX.val rfl (Val.load1 tabOk rfl rfl (by first|(apply Or.inl;(repeat first|assumption|exact m0|apply m1);done)|(apply Or.inr;(repeat first|assumption|exact m0|apply m1);done)) List.not_mem_nil (by rfl)) (by simp) rfl rfl ?_
  first
    | refine SX.val rfl (Val.lenSl rfl Try.underlying32 (List.length_map _)) (by simp) rfl rfl ?_
    | refine SX.val rfl (Val.lenOwn rfl (by repeat first|assumption|exact m0|apply m1) Try.underlying32 (List.length_map _)) (by simp) rfl rfl ?_
    | refine SX.val rfl (Val.lenNil rfl Try.underlying32) (by simp) rfl rfl ?_
  refine SX.val rfl (Val.ltI rfl rfl) (by simp) rfl rfl ?_
  refine SX.val rfl (Val.pickT rfl rfl) (by simp) rfl rfl ?_
  refine SX.val rfl (Val.move rfl) (by simp) rfl rfl ?_
  refine SX.bothP (t := 18) rfl ?_ ?_
  rotate_left
  · intro hc18
    iterate 13 refine SX.skip rfl rfl rfl ?_
    refine SX.skip' rfl rfl rfl ?_
    refine SX.val rfl (Val.pickF rfl rfl) (by simp) rfl rfl ?_
    refine SX.val rfl (Val.assign rfl) (by simp) rfl rfl ?_
    refine SX.nil (SE.seq ?_)
    refine SC.ret ?_
    refine SE.fin (rs := [.tmp 8]) rfl (RV.tmp rfl RV.nil) (()) (by repeat first|exact s0 _|exact s1 _|apply s2|apply s3) (by simp [It.rids]) ?_
    first
      | (rw [okE_neg (by omega)]; rfl)
      | (rw [okE_far (by omega)]; rfl)
      | (rw [okE_yes hm]; rfl)
  intro hc18
  have hm : m < e.tags.length := by omega
  refine SX.val rfl (Val.move rfl) (by simp) rfl rfl ?_
  refine SX.val rfl (Val.fieldAddr tabOk rfl rfl rfl rfl rfl) (by simp) rfl rfl ?_
  refine SX.val rfl (Val.load1 tabOk rfl rfl (by first|(apply Or.inl;(repeat first|assumption|exact m0|apply m1);done)|(apply Or.inr;(repeat first|assumption|exact m0|apply m1);done)) List.not_mem_nil (by rfl)) (by simp) rfl rfl ?_
  refine SX.val rfl (Val.move rfl) (by simp) rfl rfl ?_
  refine SX.val rfl (Val.move rfl) (by simp) rfl rfl ?_
  refine SX.val rfl (Val.fieldAddr tabOk rfl rfl rfl rfl rfl) (by simp) rfl rfl ?_
  refine SX.val rfl (Val.load1 tabOk rfl rfl (by first|(apply Or.inl;(repeat first|assumption|exact m0|apply m1);done)|(apply Or.inr;(repeat first|assumption|exact m0|apply m1);done)) List.not_mem_nil (by rfl)) (by simp) rfl rfl ?_
  refine SX.val rfl (Val.move rfl) (by simp) rfl rfl ?_
  refine SX.val rfl (Val.indexSl (q := m) tabOk Try.underlying32 rfl rfl rfl rfl (at_map hm) rfl rfl) (by first | (simp [mids, It.mids, ownPc, bkPc, mapPc]; done) | (intro k hk; simp [mids, It.mids, ownPc, bkPc, mapPc] at hk ⊢; grind)) rfl rfl ?_
  refine SX.val rfl (Val.loadAR tabOk rfl rfl rfl (Tg.size _)) (by first | (simp [mids, It.mids, ownPc, bkPc, mapPc]; done) | (intro k hk; simp [mids, It.mids, ownPc, bkPc, mapPc] at hk ⊢; grind)) rfl rfl ?_
  refine SX.val rfl (Val.makeFunc rfl rfl) (by simp) rfl rfl ?_
  refine SX.val rfl (Val.nilMethod rfl (fun w => by kernel_rfl)) (by simp) rfl rfl ?_
  refine SX.val rfl (Val.move rfl) (by simp) rfl rfl ?_
  refine SX.invokeR rfl (icheck_s (q := p) (bd := bd) (bt := bt) (T := T) (a := e.org) (b := (m : Nat)) (l := t) (M := (e.tags[m]'hm).d) hl hn hT (e.tags[m]'hm).len) (by simp [mids, It.mids]) rfl Casts.refl (fun _ _ _ => by kernel_rfl) rfl rfl rfl ?_
  refine After.pure (by repeat (first | exact Reads.nil | (refine Reads.blk ?_ ?_; focus ((repeat first|assumption|exact m0|apply m1); done)) | (refine Reads.rd ?_ ?_; focus ((repeat first|assumption|exact m0|apply m1); done)) | (refine Reads.pc ?_ ?_; focus ((repeat first|assumption|exact m0|apply m1); done)) | (refine Reads.rdpc ?_ ?_; focus ((repeat first|assumption|exact m0|apply m1); done)))) (fun _ => rfl) ?_
  intro _
  refine SX.val rfl (Val.pickT rfl rfl) (by simp) rfl rfl ?_
  refine SX.val rfl (Val.assign rfl) (by simp) rfl rfl ?_
  refine SX.nil (SE.seq ?_)
  refine SC.ret ?_
  refine SE.fin (rs := [.tmp 8]) rfl (RV.tmp rfl RV.nil) (()) (by repeat first|exact s0 _|exact s1 _|apply s2|apply s3) (by simp [It.rids]) ?_
  first
    | (rw [okE_neg (by omega)]; rfl)
    | (rw [okE_far (by omega)]; rfl)
    | (rw [okE_yes hm]; rfl)
set_option maxHeartbeats 1000000 in
theorem holdsb_s (hl : t.length ≤ 1000000) (hn : Num1 Tb) (hT : Tb.length < 1000000) (hr : i64r e.org) (hw : i64r who) : Spec Try.prog 30 [.ifc 54 (.v (.pointer (some ⟨p, 0, none⟩))), .agg e.abs, byt t, int who] [.pc (bkPc p bd bt Dm Tb)] (fun _ : Unit => [.pc (bkPc p bd bt Dm Tb)]) (fun _ => boo (okE (chkB Tb t who) who e)) := by
  refine spec_of Try.func30 rfl Try.ntmps30 rfl fun G w => ?_
  refine SC.seq (SC.region ?_)
  refine SL.eff (Eff.boxA (cs := e.abs) rfl) rfl rfl ?_
  rintro _ _ ⟨b5, rfl, rfl⟩
  refine SL.val (Val.assign rfl) rfl rfl ?_
  refine SL.nil (SE.seq ?_)
  refine SC.seq ?_
  refine SC.known (p := b5 ∉ [p, bd, bt]) (fun _ _ h => by
      have h1 := h.mem.nodup
      simp [mids, It.mids, bkPc] at h1 ⊢
      grind) fun hX => ?_
  refine SC.draw [p, bd, bt] (.q 0 (.q 1 (.q 2 (.q 3 (.q 4 (.q 5 (.q 6 (.q 7 (.q 8 (.q 9 (.q 10 (.q 11 (.q 12 (.q 13 (.q 14 (.q 15 (.q 16 (.q 17 (.q 18 (.q 19 (.q 20 (.q 21 (.q 22 (.e 23 (.q 24 (.q 25 .nil)))))))))))))))))))))))))) (by kernel_rfl) (by kernel_rfl) ?_
  refine SX.val rfl (Val.move rfl) (by first | (simp [mids, It.mids, ownPc, bkPc, mapPc]; done) | (intro k hk; simp [mids, It.mids, ownPc, bkPc, mapPc] at hk ⊢; grind)) rfl rfl ?_
  refine SX.val rfl (Val.geI rfl rfl) (by first | (simp [mids, It.mids, ownPc, bkPc, mapPc]; done) | (intro k hk; simp [mids, It.mids, ownPc, bkPc, mapPc] at hk ⊢; grind)) rfl rfl ?_
  refine SX.val rfl (Val.move rfl) (by first | (simp [mids, It.mids, ownPc, bkPc, mapPc]; done) | (intro k hk; simp [mids, It.mids, ownPc, bkPc, mapPc] at hk ⊢; grind)) rfl rfl ?_
  refine SX.bothP (t := 11) rfl ?_ ?_
  rotate_left
  · intro hc11
    iterate 5 refine SX.skip rfl rfl rfl ?_
    refine SX.val rfl (Val.pickF rfl rfl) (by first | (simp [mids, It.mids, ownPc, bkPc, mapPc]; done) | (intro k hk; simp [mids, It.mids, ownPc, bkPc, mapPc] at hk ⊢; grind)) rfl rfl ?_
    refine SX.val rfl (Val.move rfl) (by first | (simp [mids, It.mids, ownPc, bkPc, mapPc]; done) | (intro k hk; simp [mids, It.mids, ownPc, bkPc, mapPc] at hk ⊢; grind)) rfl rfl ?_
    iterate 13 refine SX.skip rfl rfl rfl ?_
    refine SX.skip' rfl rfl rfl ?_
    refine SX.val rfl (Val.pickF rfl rfl) (by first | (simp [mids, It.mids, ownPc, bkPc, mapPc]; done) | (intro k hk; simp [mids, It.mids, ownPc, bkPc, mapPc] at hk ⊢; grind)) rfl rfl ?_
    refine SX.val rfl (Val.assign rfl) (by first | (simp [mids, It.mids, ownPc, bkPc, mapPc]; done) | (intro k hk; simp [mids, It.mids, ownPc, bkPc, mapPc] at hk ⊢; grind)) rfl rfl ?_
    refine SX.nil (SE.seq ?_)
    refine SC.ret ?_
    refine SE.fin (rs := [.tmp 8]) rfl (RV.tmp rfl RV.nil) (()) (by repeat first|exact s0 _|exact s1 _|apply s2|apply s3) (by simp [It.rids]) ?_
    first
      | (rw [okE_neg (by omega)]; rfl)
      | (rw [okE_far (by omega)]; rfl)
      | (rw [okE_yes hm]; rfl)
  intro hc11
  obtain ⟨m, rfl⟩ : ∃ m : Nat, who = (m : Nat) := ⟨who.toNat, by omega⟩
  refine SX.val rfl (Val.move rfl) (by first | (simp [mids, It.mids, ownPc, bkPc, mapPc]; done) | (intro k hk; simp [mids, It.mids, ownPc, bkPc, mapPc] at hk ⊢; grind)) rfl rfl ?_
  refine SX.val rfl (Val.fieldAddr tabOk rfl rfl rfl rfl rfl) (by first | (simp [mids, It.mids, ownPc, bkPc, mapPc]; done) | (intro k hk; simp [mids, It.mids, ownPc, bkPc, mapPc] at hk ⊢; grind)) rfl rfl ?_
  refine SX.val rfl (Val.load1 tabOk rfl rfl (by first|(apply Or.inl;(repeat first|assumption|exact m0|apply m1);done)|(apply Or.inr;(repeat first|assumption|exact m0|apply m1);done)) hX (by rfl)) (by first | (simp [mids, It.mids, ownPc, bkPc, mapPc]; done) | (intro k hk; simp [mids, It.mids, ownPc, bkPc, mapPc] at hk ⊢; grind)) rfl rfl ?_
  first
    | refine SX.val rfl (Val.lenSl rfl Try.underlying32 (List.length_map _)) (by first | (simp [mids, It.mids, ownPc, bkPc, mapPc]; done) | (intro k hk; simp [mids, It.mids, ownPc, bkPc, mapPc] at hk ⊢; grind)) rfl rfl ?_
    | refine SX.val rfl (Val.lenOwn rfl (by repeat first|assumption|exact m0|apply m1) Try.underlying32 (List.length_map _)) (by first | (simp [mids, It.mids, ownPc, bkPc, mapPc]; done) | (intro k hk; simp [mids, It.mids, ownPc, bkPc, mapPc] at hk ⊢; grind)) rfl rfl ?_
    | refine SX.val rfl (Val.lenNil rfl Try.underlying32) (by first | (simp [mids, It.mids, ownPc, bkPc, mapPc]; done) | (intro k hk; simp [mids, It.mids, ownPc, bkPc, mapPc] at hk ⊢; grind)) rfl rfl ?_
  refine SX.val rfl (Val.ltI rfl rfl) (by first | (simp [mids, It.mids, ownPc, bkPc, mapPc]; done) | (intro k hk; simp [mids, It.mids, ownPc, bkPc, mapPc] at hk ⊢; grind)) rfl rfl ?_
  refine SX.val rfl (Val.pickT rfl rfl) (by first | (simp [mids, It.mids, ownPc, bkPc, mapPc]; done) | (intro k hk; simp [mids, It.mids, ownPc, bkPc, mapPc] at hk ⊢; grind)) rfl rfl ?_
  refine SX.val rfl (Val.move rfl) (by first | (simp [mids, It.mids, ownPc, bkPc, mapPc]; done) | (intro k hk; simp [mids, It.mids, ownPc, bkPc, mapPc] at hk ⊢; grind)) rfl rfl ?_
  refine SX.bothP (t := 18) rfl ?_ ?_
  rotate_left
  · intro hc18
    iterate 13 refine SX.skip rfl rfl rfl ?_
    refine SX.skip' rfl rfl rfl ?_
    refine SX.val rfl (Val.pickF rfl rfl) (by first | (simp [mids, It.mids, ownPc, bkPc, mapPc]; done) | (intro k hk; simp [mids, It.mids, ownPc, bkPc, mapPc] at hk ⊢; grind)) rfl rfl ?_
    refine SX.val rfl (Val.assign rfl) (by first | (simp [mids, It.mids, ownPc, bkPc, mapPc]; done) | (intro k hk; simp [mids, It.mids, ownPc, bkPc, mapPc] at hk ⊢; grind)) rfl rfl ?_
    refine SX.nil (SE.seq ?_)
    refine SC.ret ?_
    refine SE.fin (rs := [.tmp 8]) rfl (RV.tmp rfl RV.nil) (()) (by repeat first|exact s0 _|exact s1 _|apply s2|apply s3) (by simp [It.rids]) ?_
    first
      | (rw [okE_neg (by omega)]; rfl)
      | (rw [okE_far (by omega)]; rfl)
      | (rw [okE_yes hm]; rfl)
  intro hc18
  have hm : m < e.tags.length := by omega
  refine SX.val rfl (Val.move rfl) (by first | (simp [mids, It.mids, ownPc, bkPc, mapPc]; done) | (intro k hk; simp [mids, It.mids, ownPc, bkPc, mapPc] at hk ⊢; grind)) rfl rfl ?_
  refine SX.val rfl (Val.fieldAddr tabOk rfl rfl rfl rfl rfl) (by first | (simp [mids, It.mids, ownPc, bkPc, mapPc]; done) | (intro k hk; simp [mids, It.mids, ownPc, bkPc, mapPc] at hk ⊢; grind)) rfl rfl ?_
  refine SX.val rfl (Val.load1 tabOk rfl rfl (by first|(apply Or.inl;(repeat first|assumption|exact m0|apply m1);done)|(apply Or.inr;(repeat first|assumption|exact m0|apply m1);done)) hX (by rfl)) (by first | (simp [mids, It.mids, ownPc, bkPc, mapPc]; done) | (intro k hk; simp [mids, It.mids, ownPc, bkPc, mapPc] at hk ⊢; grind)) rfl rfl ?_
  refine SX.val rfl (Val.move rfl) (by first | (simp [mids, It.mids, ownPc, bkPc, mapPc]; done) | (intro k hk; simp [mids, It.mids, ownPc, bkPc, mapPc] at hk ⊢; grind)) rfl rfl ?_
  refine SX.val rfl (Val.move rfl) (by first | (simp [mids, It.mids, ownPc, bkPc, mapPc]; done) | (intro k hk; simp [mids, It.mids, ownPc, bkPc, mapPc] at hk ⊢; grind)) rfl rfl ?_
  refine SX.val rfl (Val.fieldAddr tabOk rfl rfl rfl rfl rfl) (by first | (simp [mids, It.mids, ownPc, bkPc, mapPc]; done) | (intro k hk; simp [mids, It.mids, ownPc, bkPc, mapPc] at hk ⊢; grind)) rfl rfl ?_
  refine SX.val rfl (Val.load1 tabOk rfl rfl (by first|(apply Or.inl;(repeat first|assumption|exact m0|apply m1);done)|(apply Or.inr;(repeat first|assumption|exact m0|apply m1);done)) hX (by rfl)) (by first | (simp [mids, It.mids, ownPc, bkPc, mapPc]; done) | (intro k hk; simp [mids, It.mids, ownPc, bkPc, mapPc] at hk ⊢; grind)) rfl rfl ?_
  refine SX.val rfl (Val.move rfl) (by first | (simp [mids, It.mids, ownPc, bkPc, mapPc]; done) | (intro k hk; simp [mids, It.mids, ownPc, bkPc, mapPc] at hk ⊢; grind)) rfl rfl ?_
  refine SX.val rfl (Val.indexSl (q := m) tabOk Try.underlying32 rfl rfl rfl rfl (at_map hm) rfl rfl) (by first | (simp [mids, It.mids, ownPc, bkPc, mapPc]; done) | (intro k hk; simp [mids, It.mids, ownPc, bkPc, mapPc] at hk ⊢; grind)) rfl rfl ?_
  refine SX.val rfl (Val.loadAR tabOk rfl rfl rfl (Tg.size _)) (by first | (simp [mids, It.mids, ownPc, bkPc, mapPc]; done) | (intro k hk; simp [mids, It.mids, ownPc, bkPc, mapPc] at hk ⊢; grind)) rfl rfl ?_
  refine SX.val rfl (Val.makeFunc rfl rfl) (by first | (simp [mids, It.mids, ownPc, bkPc, mapPc]; done) | (intro k hk; simp [mids, It.mids, ownPc, bkPc, mapPc] at hk ⊢; grind)) rfl rfl ?_
  refine SX.val rfl (Val.nilMethod rfl (fun w => by kernel_rfl)) (by first | (simp [mids, It.mids, ownPc, bkPc, mapPc]; done) | (intro k hk; simp [mids, It.mids, ownPc, bkPc, mapPc] at hk ⊢; grind)) rfl rfl ?_
  refine SX.val rfl (Val.move rfl) (by first | (simp [mids, It.mids, ownPc, bkPc, mapPc]; done) | (intro k hk; simp [mids, It.mids, ownPc, bkPc, mapPc] at hk ⊢; grind)) rfl rfl ?_
  refine SX.invokeR rfl (bkcheck_s (p := p) (bd := bd) (bt := bt) (D := Dm) (T := Tb) (from_ := e.org) (to_ := (m : Nat)) (l := t) (M := (e.tags[m]'hm).d) hr hw (by unfold maxLen; omega) (e.tags[m]'hm).len hT (Nat.lt_of_le_of_lt (hn.pl_le _) (by omega))) (by simp [mids, It.mids, bkPc]) rfl Casts.refl (fun _ _ _ => by kernel_rfl) rfl rfl rfl ?_
  refine After.one rfl (by repeat first|assumption|exact m0|apply m1) (fun _ => rfl) ?_
  intro _
  refine ⟨_, (by repeat first|assumption|exact Upd.here|apply Upd.there), ?_⟩
  refine SX.val rfl (Val.pickT rfl rfl) (by first | (simp [mids, It.mids, ownPc, bkPc, mapPc]; done) | (intro k hk; simp [mids, It.mids, ownPc, bkPc, mapPc] at hk ⊢; grind)) rfl rfl ?_
  refine SX.val rfl (Val.assign rfl) (by first | (simp [mids, It.mids, ownPc, bkPc, mapPc]; done) | (intro k hk; simp [mids, It.mids, ownPc, bkPc, mapPc] at hk ⊢; grind)) rfl rfl ?_
  refine SX.nil (SE.seq ?_)
  refine SC.ret ?_
  refine SE.fin (rs := [.tmp 8]) rfl (RV.tmp rfl RV.nil) (()) (by repeat first|exact s0 _|exact s1 _|apply s2|apply s3) (by simp [It.rids]) ?_
  first
    | (rw [okE_neg (by omega)]; rfl)
    | (rw [okE_far (by omega)]; rfl)
    | (rw [okE_yes hm]; rfl)
theorem maskW_nil (n : Nat) (ok : En → Bool) : maskW n ok [] = 0#32 := by
  unfold maskW
  induction n with
  | zero => rfl
  | succ n ih => rw [bitsW, ih, show firstOk ok [] n = false from rfl, if_neg (by decide), BitVec.or_zero]
theorem seenW_nil (n : Nat) : seenW n [] = 0#32 := by
  unfold seenW
  induction n with
  | zero => rfl
  | succ n ih => rw [bitsW, ih, show hasE [] (n : Int) = false from rfl, if_neg (by decide), BitVec.or_zero]
theorem firstOk_at {ok : En → Bool} {es : List En} {z y : Nat} (hz : z < es.length) (hn : ∀ j (h : j < es.length), j < z → ¬ es[j].org = (y : Int)) (he : es[z].org = (y : Int)) : firstOk ok es y = ok es[z] := by
  have h1 : es.find? (fun x => decide (x.org = (y : Int))) = some es[z] := by
    rw [List.find?_eq_some_iff_getElem]
    exact ⟨decide_eq_true he, z, hz, rfl, fun j hj => by simpa using hn j (by omega) hj⟩
  unfold firstOk
  rw [h1]
theorem firstOk_no {ok : En → Bool} {es : List En} {y : Nat} (hn : ∀ j (h : j < es.length), ¬ es[j].org = (y : Int)) : firstOk ok es y = false := by
  refine hasE_none ?_ ok
  unfold hasE
  rw [Bool.eq_false_iff]
  intro h
  obtain ⟨x, hx, h1⟩ := List.any_eq_true.1 h
  obtain ⟨j, hj, rfl⟩ := List.getElem_of_mem hx
  exact hn j hj (of_decide_eq_true h1)
theorem bitsW_no {y : Nat} {P : Nat → Bool} (h : P y = false) : bitsW y P = bitsW (y + 1) P := by
  rw [bitsW, h, if_neg (by decide), BitVec.or_zero]
theorem bitsW_yes {y : Nat} {P : Nat → Bool} (hy : y < 32) (h : P y = true) : bitsW y P + 1#32 <<< y = bitsW (y + 1) P := by
  rw [bitsW_add hy, bitsW, h, if_pos rfl]
theorem hasE_int (es : List En) (o : Int) (m : Nat) (h : o = (m : Nat)) : hasE es o = hasE es (m : Int) := by rw [h]
set_option maxHeartbeats 2000000 in
theorem maski_s (h1 : q.core.letter.size ≤ 1000) (h2 : q.core.text.size ≤ 1000) (hl : q.ends.length ≤ 100000) (hn : Num1 T) (hT : T.length < 1000000) : Spec Try.prog 10 [.ifc 30 (ptr p), .agg q.abs, int n, int who] [.rd p 58 [mapV bd, mapV bt], .rdpc (mapPc bt Value.string cntV sOk T)] (fun _ : Unit => []) (fun _ => u32 (maskN n (okE (chkI T (textV 100 q.core.bytes) who) who) q.ends)) := by
  refine spec_of Try.func10 rfl Try.ntmps10 rfl fun G w => ?_
  refine SC.seq (SC.region ?_)
  refine SL.eff (Eff.boxA (cs := q.abs) rfl) rfl rfl ?_
  rintro _ _ ⟨b5, rfl, rfl⟩
  refine SL.val (Val.assign rfl) rfl rfl ?_
  refine SL.nil (SE.seq ?_)
  refine SC.seq ?_
  refine SC.seq (SC.region ?_)
  refine SL.val (Val.move rfl) rfl rfl ?_
  refine SL.val (Val.ifaceNil Try.underlying60 rfl) rfl rfl ?_
  refine SL.val (Val.move rfl) rfl rfl ?_
  refine SL.val (Val.move rfl) rfl rfl ?_
  refine SL.val (Val.ltI rfl rfl) rfl rfl ?_
  refine SL.val (Val.pickF rfl rfl) rfl rfl ?_
  refine SL.val (Val.move rfl) rfl rfl ?_
  refine SL.bothP (t := 20) rfl ?_ ?_
  · intro hc20
    iterate 2 refine SL.skip rfl rfl ?_
    refine SL.val (Val.pickT rfl rfl) rfl rfl ?_
    refine SL.nil (SE.seq ?_)
    refine SC.condT rfl ?_
    refine SC.seq (SC.region ?_)
    refine SL.val (Val.assign rfl) rfl rfl ?_
    refine SL.nil (SE.seq ?_)
    refine SC.ret ?_
    refine SE.then_ (by intro h; cases h) ?_
    refine SE.fin (rs := [.tmp 8]) rfl (RV.tmp rfl RV.nil) (()) (by repeat first|exact s0 _|exact s1 _|apply s2|apply s3) (by simp [It.rids]) ?_
    unfold maskN
    rw [if_neg (by omega)]
    rfl
  intro hc20
  refine SL.val (Val.move rfl) rfl rfl ?_
  refine SL.val (Val.gtI rfl rfl) rfl rfl ?_
  refine SL.val (Val.pickF rfl rfl) rfl rfl ?_
  refine SL.nil (SE.seq ?_)
  refine SC.condP rfl ?_ ?_
  · intro hc23
    refine SC.seq (SC.region ?_)
    refine SL.val (Val.assign rfl) rfl rfl ?_
    refine SL.nil (SE.seq ?_)
    refine SC.ret ?_
    refine SE.then_ (by intro h; cases h) ?_
    refine SE.fin (rs := [.tmp 8]) rfl (RV.tmp rfl RV.nil) (()) (by repeat first|exact s0 _|exact s1 _|apply s2|apply s3) (by simp [It.rids]) ?_
    unfold maskN
    rw [if_neg (by omega)]
    rfl
  intro hc23
  refine SC.skip ?_
  refine SE.seq ?_
  refine SC.seq (SC.region ?_)
  refine SL.val (Val.fieldAddr tabOk rfl rfl rfl rfl rfl) rfl rfl ?_
  refine SL.val (Val.to (C := coreA q.core) (Val.loadP tabOk rfl rfl rfl (by first|(apply Or.inl;(repeat first|assumption|exact m0|apply m1);done)|(apply Or.inr;(repeat first|assumption|exact m0|apply m1);done)) List.not_mem_nil (Nat.le_of_ble_eq_true (by rfl))) (congrArg Abs.agg (Rq.part _))) rfl rfl ?_
  refine SL.call (etext_s (c := q.core) h1 h2) Casts.refl (by kernel_rfl) rfl rfl rfl ?_
  refine After.pure (by repeat (first | exact Reads.nil | (refine Reads.blk ?_ ?_; focus ((repeat first|assumption|exact m0|apply m1); done)) | (refine Reads.rd ?_ ?_; focus ((repeat first|assumption|exact m0|apply m1); done)) | (refine Reads.pc ?_ ?_; focus ((repeat first|assumption|exact m0|apply m1); done)) | (refine Reads.rdpc ?_ ?_; focus ((repeat first|assumption|exact m0|apply m1); done)))) (fun _ => rfl) ?_
  intro _
  refine SL.val (Val.assign rfl) rfl rfl ?_
  refine SL.nil (SE.seq ?_)
  refine SC.seq (SC.region ?_)
  refine SL.val (Val.assign rfl) rfl rfl ?_
  refine SL.val (Val.assign rfl) rfl rfl ?_
  refine SL.nil (SE.seq ?_)
  refine SC.seq ?_
  refine SC.seq (SC.region ?_)
  refine SL.val (Val.fieldAddr tabOk rfl rfl rfl rfl rfl) rfl rfl ?_
  refine SL.val (Val.load1 tabOk rfl rfl (by first|(apply Or.inl;(repeat first|assumption|exact m0|apply m1);done)|(apply Or.inr;(repeat first|assumption|exact m0|apply m1);done)) List.not_mem_nil (by rfl)) rfl rfl ?_
  first
    | refine SL.val (Val.lenSl rfl Try.underlying24 (List.length_map _)) rfl rfl ?_
    | refine SL.val (Val.lenOwn rfl (by repeat first|assumption|exact m0|apply m1) Try.underlying24 (List.length_map _)) rfl rfl ?_
    | refine SL.val (Val.lenNil rfl Try.underlying24) rfl rfl ?_
  refine SL.val (Val.move rfl) rfl rfl ?_
  refine SL.nil (SE.seq ?_)
  refine SC.block ?_
  obtain ⟨N, rfl⟩ : ∃ N : Nat, n = (N : Nat) := ⟨n.toNat, by omega⟩
  refine SC.loop (ι := Nat) (fun z => [.blk b5 26 q.abs, .rd p 58 [mapV bd, mapV bt], .rdpc (mapPc bt Value.string cntV sOk T)]) (fun z => [(0, .ifc 30 (ptr p)), (2, int (N : Nat)), (3, int who), (5, ptr b5), (9, byt (textV 100 q.core.bytes)), (10, u32 (maskW N (okE (chkI T (textV 100 q.core.bytes) who) who) (q.ends.take z))), (11, u32 (seenW N (q.ends.take z))), (28, endsA q.ends), (29, int (q.ends.length : Nat)), (30, int (z : Nat))]) (fun z => z ≤ q.ends.length) (fun z => q.ends.length - z) (0) (Nat.zero_le _) (by exact ⟨rfl, rfl, rfl, rfl, rfl, congrArg (fun w : Wo => some (u32 w)) (show 0#32 = maskW N (okE (chkI T (textV 100 q.core.bytes) who) who) (q.ends.take 0) from (maskW_nil N _).symm), congrArg (fun w : Wo => some (u32 w)) (show 0#32 = seenW N (q.ends.take 0) from (seenW_nil N).symm), rfl, rfl, rfl, trivial⟩) (by repeat first|exact s0 _|exact s1 _|apply s2|apply s3) ?_
  intro z hz
  refine SC.seq (SC.region ?_)
  refine SL.val (Val.ltI rfl rfl) rfl rfl ?_
  refine SL.nil (SE.seq ?_)
  refine SC.seq ?_
  refine SC.condP rfl ?_ ?_
  rotate_left
  · intro hc31
    refine SC.exit ?_
    refine SE.then_ (by intro h; cases h) ?_
    refine SE.then_ (by intro h; cases h) ?_
    refine SE.exit ?_
    refine SE.seq ?_
    refine SC.seq (SC.region ?_)
    refine SL.val (Val.move rfl) rfl rfl ?_
    refine SL.val (Val.assign rfl) rfl rfl ?_
    refine SL.nil (SE.seq ?_)
    refine SC.ret ?_
    have hz2 : z = q.ends.length := by omega
    refine SE.fin (rs := [.tmp 8]) rfl (RV.tmp rfl RV.nil) (()) (by repeat first|exact s0 _|exact s1 _|apply s2|apply s3) (by simp [It.rids]) ?_
    unfold maskN
    rw [if_pos (by omega), Int.toNat_natCast, hz2, List.take_length]
    rfl
  intro hc31
  have hlt : z < q.ends.length := by omega
  refine SC.skip ?_
  refine SE.seq ?_
  refine SC.seq ?_
  refine SC.block ?_
  refine SC.seq (SC.region ?_)
  refine SL.val (Val.indexSl tabOk Try.underlying24 rfl rfl rfl rfl (at_map (by omega)) rfl rfl) rfl rfl ?_
  refine SL.val (Val.loadAR tabOk rfl rfl rfl rfl) rfl rfl ?_
  refine SL.eff (Eff.alloc tabOk rfl) rfl rfl ?_
  rintro _ _ ⟨b13, rfl, rfl⟩
  refine SL.eff (Eff.store (L' := (q.ends[z]'hlt).abs) tabOk rfl rfl rfl (by repeat first|assumption|exact Upd.here|apply Upd.there) rfl (Nat.le_of_ble_eq_true (by rfl)) rfl (by exact putL_whole rfl)) rfl rfl ?_
  rintro _ _ ⟨rfl, rfl⟩
  refine SL.nil (SE.seq ?_)
  refine SC.seq ?_
  refine SC.seq (SC.region ?_)
  refine SL.val (Val.fieldAddr tabOk rfl rfl rfl rfl rfl) rfl rfl ?_
  refine SL.val (Val.load1 tabOk rfl rfl (by first|(apply Or.inl;(repeat first|assumption|exact m0|apply m1);done)|(apply Or.inr;(repeat first|assumption|exact m0|apply m1);done)) List.not_mem_nil (by rfl)) rfl rfl ?_
  refine SL.val (Val.ltI rfl rfl) rfl rfl ?_
  refine SL.val (Val.move rfl) rfl rfl ?_
  refine SL.bothP (t := 37) rfl ?_ ?_
  · intro hc37
    have hout : ∀ o : Nat, o < N → ¬ (q.ends[z]'hlt).org = (o : Int) := fun o ho => by omega
    iterate 4 refine SL.skip rfl rfl ?_
    refine SL.val (Val.pickT rfl rfl) rfl rfl ?_
    refine SL.val (Val.move rfl) rfl rfl ?_
    iterate 7 refine SL.skip rfl rfl ?_
    refine SL.val (Val.pickT rfl rfl) rfl rfl ?_
    refine SL.nil (SE.seq ?_)
    refine SC.condT rfl ?_
    refine SC.exit ?_
    refine SE.then_ (by intro h; cases h) ?_
    refine SE.exit ?_
    refine SE.seq ?_
    refine SC.region ?_
    first
      | refine SL.val (Val.addI rfl rfl (by simp only [InR, lo, hi]; omega)) rfl rfl ?_
      | refine SL.val (Val.addW rfl rfl) rfl rfl ?_
    refine SL.val (Val.move rfl) rfl rfl ?_
    refine SL.nil ?_
    refine SE.round (z + 1) (by first | omega | (dsimp only; omega)) (by first | omega | (dsimp only; omega)) (by exact ⟨rfl, rfl, rfl, rfl, rfl, congrArg (fun w : Wo => some (u32 w)) (show maskW N (okE (chkI T (textV 100 q.core.bytes) who) who) (q.ends.take z) = maskW N (okE (chkI T (textV 100 q.core.bytes) who) who) (q.ends.take (z + 1)) by rw [take_snocE hlt, maskW_out (by omega) hout]), congrArg (fun w : Wo => some (u32 w)) (show seenW N (q.ends.take z) = seenW N (q.ends.take (z + 1)) by rw [take_snocE hlt, seenW_out (by omega) hout]), rfl, rfl, rfl, trivial⟩) (by repeat first|exact s0 _|exact s1 _|apply s2|apply s3)
  intro hc37
  refine SL.val (Val.fieldAddr tabOk rfl rfl rfl rfl rfl) rfl rfl ?_
  refine SL.val (Val.load1 tabOk rfl rfl (by first|(apply Or.inl;(repeat first|assumption|exact m0|apply m1);done)|(apply Or.inr;(repeat first|assumption|exact m0|apply m1);done)) List.not_mem_nil (by rfl)) rfl rfl ?_
  refine SL.val (Val.move rfl) rfl rfl ?_
  refine SL.val (Val.geI rfl rfl) rfl rfl ?_
  refine SL.val (Val.pickF rfl rfl) rfl rfl ?_
  refine SL.val (Val.move rfl) rfl rfl ?_
  refine SL.bothP (t := 43) rfl ?_ ?_
  · intro hc43
    have hout : ∀ o : Nat, o < N → ¬ (q.ends[z]'hlt).org = (o : Int) := fun o ho => by omega
    iterate 7 refine SL.skip rfl rfl ?_
    refine SL.val (Val.pickT rfl rfl) rfl rfl ?_
    refine SL.nil (SE.seq ?_)
    refine SC.condT rfl ?_
    refine SC.exit ?_
    refine SE.then_ (by intro h; cases h) ?_
    refine SE.exit ?_
    refine SE.seq ?_
    refine SC.region ?_
    first
      | refine SL.val (Val.addI rfl rfl (by simp only [InR, lo, hi]; omega)) rfl rfl ?_
      | refine SL.val (Val.addW rfl rfl) rfl rfl ?_
    refine SL.val (Val.move rfl) rfl rfl ?_
    refine SL.nil ?_
    refine SE.round (z + 1) (by first | omega | (dsimp only; omega)) (by first | omega | (dsimp only; omega)) (by exact ⟨rfl, rfl, rfl, rfl, rfl, congrArg (fun w : Wo => some (u32 w)) (show maskW N (okE (chkI T (textV 100 q.core.bytes) who) who) (q.ends.take z) = maskW N (okE (chkI T (textV 100 q.core.bytes) who) who) (q.ends.take (z + 1)) by rw [take_snocE hlt, maskW_out (by omega) hout]), congrArg (fun w : Wo => some (u32 w)) (show seenW N (q.ends.take z) = seenW N (q.ends.take (z + 1)) by rw [take_snocE hlt, seenW_out (by omega) hout]), rfl, rfl, rfl, trivial⟩) (by repeat first|exact s0 _|exact s1 _|apply s2|apply s3)
  intro hc43
  obtain ⟨m, hm⟩ : ∃ m : Nat, (q.ends[z]'hlt).org = (m : Int) := ⟨(q.ends[z]'hlt).org.toNat, by omega⟩
  have hmN : m < N := by omega
  refine SL.val (Val.move rfl) rfl rfl ?_
  refine SL.val (Val.fieldAddr tabOk rfl rfl rfl rfl rfl) rfl rfl ?_
  refine SL.val (Val.load1 tabOk rfl rfl (by first|(apply Or.inl;(repeat first|assumption|exact m0|apply m1);done)|(apply Or.inr;(repeat first|assumption|exact m0|apply m1);done)) List.not_mem_nil (by rfl)) rfl rfl ?_
  refine SL.val (Val.to (C := .v (.int .u64 ((m : Nat) : Int))) (Val.convI rfl Try.underlying72 (by kernel_rfl) (by simp only [InR, lo, hi]; omega)) (congrArg (fun x => Abs.v (.int .u64 x)) hm)) rfl rfl ?_
  refine SL.val (Val.shrB (m := m) rfl rfl rfl) rfl rfl ?_
  refine SL.val (Val.andW (q := 1#32) rfl rfl) rfl rfl ?_
  refine SL.val (Val.to (C := boo (hasE (q.ends.take z) (m : Int))) (Val.eqI rfl rfl) (congrArg (fun b => Abs.v (Value.bool b)) (by rw [← seen_bit (n := N) (by omega) hmN, decide_eq_decide]; exact Int.ofNat_inj))) rfl rfl ?_
  refine SL.val (Val.pickF rfl rfl) rfl rfl ?_
  refine SL.nil (SE.seq ?_)
  refine SC.cond rfl ?_ ?_
  · intro hc51
    refine SC.exit ?_
    refine SE.then_ (by intro h; cases h) ?_
    refine SE.exit ?_
    refine SE.seq ?_
    refine SC.region ?_
    first
      | refine SL.val (Val.addI rfl rfl (by simp only [InR, lo, hi]; omega)) rfl rfl ?_
      | refine SL.val (Val.addW rfl rfl) rfl rfl ?_
    refine SL.val (Val.move rfl) rfl rfl ?_
    refine SL.nil ?_
    refine SE.round (z + 1) (by first | omega | (dsimp only; omega)) (by first | omega | (dsimp only; omega)) (by exact ⟨rfl, rfl, rfl, rfl, rfl, congrArg (fun w : Wo => some (u32 w)) (show maskW N (okE (chkI T (textV 100 q.core.bytes) who) who) (q.ends.take z) = maskW N (okE (chkI T (textV 100 q.core.bytes) who) who) (q.ends.take (z + 1)) by rw [take_snocE hlt, maskW_old (by omega) hm hc51]), congrArg (fun w : Wo => some (u32 w)) (show seenW N (q.ends.take z) = seenW N (q.ends.take (z + 1)) by rw [take_snocE hlt, seenW_old (by omega) hm hc51]), rfl, rfl, rfl, trivial⟩) (by repeat first|exact s0 _|exact s1 _|apply s2|apply s3)
  intro hc51
  refine SC.skip ?_
  refine SE.seq ?_
  refine SC.seq (SC.region ?_)
  refine SL.val (Val.move rfl) rfl rfl ?_
  refine SL.val (Val.fieldAddr tabOk rfl rfl rfl rfl rfl) rfl rfl ?_
  refine SL.val (Val.load1 tabOk rfl rfl (by first|(apply Or.inl;(repeat first|assumption|exact m0|apply m1);done)|(apply Or.inr;(repeat first|assumption|exact m0|apply m1);done)) List.not_mem_nil (by rfl)) rfl rfl ?_
  refine SL.val (Val.to (C := .v (.int .u64 ((m : Nat) : Int))) (Val.convI rfl Try.underlying72 (by kernel_rfl) (by simp only [InR, lo, hi]; omega)) (congrArg (fun x => Abs.v (.int .u64 x)) hm)) rfl rfl ?_
  refine SL.val (Val.shlB (p := 1#32) (m := m) rfl rfl rfl) rfl rfl ?_
  refine SL.val (Val.orW rfl rfl) rfl rfl ?_
  refine SL.val (Val.assign rfl) rfl rfl ?_
  refine SL.nil (SE.seq ?_)
  refine SC.seq (SC.region ?_)
  refine SL.val (Val.move rfl) rfl rfl ?_
  refine SL.val (Val.loadA tabOk rfl rfl rfl (by first|(apply Or.inl;(repeat first|assumption|exact m0|apply m1);done)|(apply Or.inr;(repeat first|assumption|exact m0|apply m1);done)) List.not_mem_nil rfl) rfl rfl ?_
  refine SL.val (Val.move rfl) rfl rfl ?_
  refine SL.val (Val.move rfl) rfl rfl ?_
  refine SL.call (holdsi_s (p := p) (bd := bd) (bt := bt) (T := T) (e := (q.ends[z]'hlt)) (t := (textV 100 q.core.bytes)) (who := who) (by simp [textV]; rw [core_len]; omega) hn hT) Casts.refl (by kernel_rfl) rfl rfl rfl ?_
  refine After.pure (by repeat (first | exact Reads.nil | (refine Reads.blk ?_ ?_; focus ((repeat first|assumption|exact m0|apply m1); done)) | (refine Reads.rd ?_ ?_; focus ((repeat first|assumption|exact m0|apply m1); done)) | (refine Reads.pc ?_ ?_; focus ((repeat first|assumption|exact m0|apply m1); done)) | (refine Reads.rdpc ?_ ?_; focus ((repeat first|assumption|exact m0|apply m1); done)))) (fun _ => rfl) ?_
  intro _
  refine SL.nil (SE.seq ?_)
  refine SC.cond rfl ?_ ?_
  rotate_left
  · intro hc62
    refine SC.skip ?_
    refine SE.inBlock ?_
    refine SE.seq ?_
    refine SC.region ?_
    first
      | refine SL.val (Val.addI rfl rfl (by simp only [InR, lo, hi]; omega)) rfl rfl ?_
      | refine SL.val (Val.addW rfl rfl) rfl rfl ?_
    refine SL.val (Val.move rfl) rfl rfl ?_
    refine SL.nil ?_
    refine SE.round (z + 1) (by first | omega | (dsimp only; omega)) (by first | omega | (dsimp only; omega)) (by exact ⟨rfl, rfl, rfl, rfl, rfl, congrArg (fun w : Wo => some (u32 w)) (show maskW N (okE (chkI T (textV 100 q.core.bytes) who) who) (q.ends.take z) = maskW N (okE (chkI T (textV 100 q.core.bytes) who) who) (q.ends.take (z + 1)) by rw [take_snocE hlt, maskW_new (by omega) hmN hm hc51, if_neg (by rw [hc62]; decide)]), congrArg (fun w : Wo => some (u32 w)) (show seenW N (q.ends.take z) ||| 1#32 <<< m = seenW N (q.ends.take (z + 1)) by rw [take_snocE hlt, seenW_new (by omega) hmN hm]), rfl, rfl, rfl, trivial⟩) (by repeat first|exact s0 _|exact s1 _|apply s2|apply s3)
  intro hc62
  refine SC.region ?_
  refine SL.val (Val.move rfl) rfl rfl ?_
  refine SL.val (Val.fieldAddr tabOk rfl rfl rfl rfl rfl) rfl rfl ?_
  refine SL.val (Val.load1 tabOk rfl rfl (by first|(apply Or.inl;(repeat first|assumption|exact m0|apply m1);done)|(apply Or.inr;(repeat first|assumption|exact m0|apply m1);done)) List.not_mem_nil (by rfl)) rfl rfl ?_
  refine SL.val (Val.to (C := .v (.int .u64 ((m : Nat) : Int))) (Val.convI rfl Try.underlying72 (by kernel_rfl) (by simp only [InR, lo, hi]; omega)) (congrArg (fun x => Abs.v (.int .u64 x)) hm)) rfl rfl ?_
  refine SL.val (Val.shlB (p := 1#32) (m := m) rfl rfl rfl) rfl rfl ?_
  refine SL.val (Val.orW rfl rfl) rfl rfl ?_
  refine SL.val (Val.assign rfl) rfl rfl ?_
  refine SL.nil ?_
  refine SE.inBlock ?_
  refine SE.seq ?_
  refine SC.region ?_
  first
    | refine SL.val (Val.addI rfl rfl (by simp only [InR, lo, hi]; omega)) rfl rfl ?_
    | refine SL.val (Val.addW rfl rfl) rfl rfl ?_
  refine SL.val (Val.move rfl) rfl rfl ?_
  refine SL.nil ?_
  refine SE.round (z + 1) (by first | omega | (dsimp only; omega)) (by first | omega | (dsimp only; omega)) (by exact ⟨rfl, rfl, rfl, rfl, rfl, congrArg (fun w : Wo => some (u32 w)) (show maskW N (okE (chkI T (textV 100 q.core.bytes) who) who) (q.ends.take z) ||| 1#32 <<< m = maskW N (okE (chkI T (textV 100 q.core.bytes) who) who) (q.ends.take (z + 1)) by rw [take_snocE hlt, maskW_new (by omega) hmN hm hc51, if_pos hc62]), congrArg (fun w : Wo => some (u32 w)) (show seenW N (q.ends.take z) ||| 1#32 <<< m = seenW N (q.ends.take (z + 1)) by rw [take_snocE hlt, seenW_new (by omega) hmN hm]), rfl, rfl, rfl, trivial⟩) (by repeat first|exact s0 _|exact s1 _|apply s2|apply s3)
set_option maxHeartbeats 2000000 in
theorem maskb_s (h1 : q.core.letter.size ≤ 1000) (h2 : q.core.text.size ≤ 1000) (hl : q.ends.length ≤ 100000) (hn : Num1 Tb) (hT : Tb.length < 1000000) (hr : ∀ e ∈ q.ends, i64r e.org) (hw : i64r who) : Spec Try.prog 10 [.ifc 54 (.v (.pointer (some ⟨p, 0, none⟩))), .agg q.abs, int n, int who] [.pc (bkPc p bd bt Dm Tb)] (fun _ : Unit => [.pc (bkPc p bd bt Dm Tb)]) (fun _ => u32 (maskN n (okE (chkB Tb (textV 100 q.core.bytes) who) who) q.ends)) := by
  refine spec_of Try.func10 rfl Try.ntmps10 rfl fun G w => ?_
  refine SC.seq (SC.region ?_)
  refine SL.eff (Eff.boxA (cs := q.abs) rfl) rfl rfl ?_
  rintro _ _ ⟨b5, rfl, rfl⟩
  refine SL.val (Val.assign rfl) rfl rfl ?_
  refine SL.nil (SE.seq ?_)
  refine SC.seq ?_
  refine SC.seq (SC.region ?_)
  refine SL.val (Val.move rfl) rfl rfl ?_
  refine SL.val (Val.ifaceNil Try.underlying60 rfl) rfl rfl ?_
  refine SL.val (Val.move rfl) rfl rfl ?_
  refine SL.val (Val.move rfl) rfl rfl ?_
  refine SL.val (Val.ltI rfl rfl) rfl rfl ?_
  refine SL.val (Val.pickF rfl rfl) rfl rfl ?_
  refine SL.val (Val.move rfl) rfl rfl ?_
  refine SL.bothP (t := 20) rfl ?_ ?_
  · intro hc20
    iterate 2 refine SL.skip rfl rfl ?_
    refine SL.val (Val.pickT rfl rfl) rfl rfl ?_
    refine SL.nil (SE.seq ?_)
    refine SC.condT rfl ?_
    refine SC.seq (SC.region ?_)
    refine SL.val (Val.assign rfl) rfl rfl ?_
    refine SL.nil (SE.seq ?_)
    refine SC.ret ?_
    refine SE.then_ (by intro h; cases h) ?_
    refine SE.fin (rs := [.tmp 8]) rfl (RV.tmp rfl RV.nil) (()) (by repeat first|exact s0 _|exact s1 _|apply s2|apply s3) (by simp [It.rids]) ?_
    unfold maskN
    rw [if_neg (by omega)]
    rfl
  intro hc20
  refine SL.val (Val.move rfl) rfl rfl ?_
  refine SL.val (Val.gtI rfl rfl) rfl rfl ?_
  refine SL.val (Val.pickF rfl rfl) rfl rfl ?_
  refine SL.nil (SE.seq ?_)
  refine SC.condP rfl ?_ ?_
  · intro hc23
    refine SC.seq (SC.region ?_)
    refine SL.val (Val.assign rfl) rfl rfl ?_
    refine SL.nil (SE.seq ?_)
    refine SC.ret ?_
    refine SE.then_ (by intro h; cases h) ?_
    refine SE.fin (rs := [.tmp 8]) rfl (RV.tmp rfl RV.nil) (()) (by repeat first|exact s0 _|exact s1 _|apply s2|apply s3) (by simp [It.rids]) ?_
    unfold maskN
    rw [if_neg (by omega)]
    rfl
  intro hc23
  refine SC.skip ?_
  refine SE.seq ?_
  refine SC.seq (SC.region ?_)
  refine SL.val (Val.fieldAddr tabOk rfl rfl rfl rfl rfl) rfl rfl ?_
  refine SL.val (Val.to (C := coreA q.core) (Val.loadP tabOk rfl rfl rfl (by first|(apply Or.inl;(repeat first|assumption|exact m0|apply m1);done)|(apply Or.inr;(repeat first|assumption|exact m0|apply m1);done)) List.not_mem_nil (Nat.le_of_ble_eq_true (by rfl))) (congrArg Abs.agg (Rq.part _))) rfl rfl ?_
  refine SL.call (etext_s (c := q.core) h1 h2) Casts.refl (by kernel_rfl) rfl rfl rfl ?_
  refine After.pure (by repeat (first | exact Reads.nil | (refine Reads.blk ?_ ?_; focus ((repeat first|assumption|exact m0|apply m1); done)) | (refine Reads.rd ?_ ?_; focus ((repeat first|assumption|exact m0|apply m1); done)) | (refine Reads.pc ?_ ?_; focus ((repeat first|assumption|exact m0|apply m1); done)) | (refine Reads.rdpc ?_ ?_; focus ((repeat first|assumption|exact m0|apply m1); done)))) (fun _ => rfl) ?_
  intro _
  refine SL.val (Val.assign rfl) rfl rfl ?_
  refine SL.nil (SE.seq ?_)
  refine SC.seq (SC.region ?_)
  refine SL.val (Val.assign rfl) rfl rfl ?_
  refine SL.val (Val.assign rfl) rfl rfl ?_
  refine SL.nil (SE.seq ?_)
  refine SC.seq ?_
  refine SC.seq (SC.region ?_)
  refine SL.val (Val.fieldAddr tabOk rfl rfl rfl rfl rfl) rfl rfl ?_
  refine SL.val (Val.load1 tabOk rfl rfl (by first|(apply Or.inl;(repeat first|assumption|exact m0|apply m1);done)|(apply Or.inr;(repeat first|assumption|exact m0|apply m1);done)) List.not_mem_nil (by rfl)) rfl rfl ?_
  first
    | refine SL.val (Val.lenSl rfl Try.underlying24 (List.length_map _)) rfl rfl ?_
    | refine SL.val (Val.lenOwn rfl (by repeat first|assumption|exact m0|apply m1) Try.underlying24 (List.length_map _)) rfl rfl ?_
    | refine SL.val (Val.lenNil rfl Try.underlying24) rfl rfl ?_
  refine SL.val (Val.move rfl) rfl rfl ?_
  refine SL.nil (SE.seq ?_)
  refine SC.block ?_
  obtain ⟨N, rfl⟩ : ∃ N : Nat, n = (N : Nat) := ⟨n.toNat, by omega⟩
  refine SC.loop (ι := Nat) (fun z => [.blk b5 26 q.abs, .pc (bkPc p bd bt Dm Tb)]) (fun z => [(0, .ifc 54 (.v (.pointer (some ⟨p, 0, none⟩)))), (2, int (N : Nat)), (3, int who), (5, ptr b5), (9, byt (textV 100 q.core.bytes)), (10, u32 (maskW N (okE (chkB Tb (textV 100 q.core.bytes) who) who) (q.ends.take z))), (11, u32 (seenW N (q.ends.take z))), (28, endsA q.ends), (29, int (q.ends.length : Nat)), (30, int (z : Nat))]) (fun z => z ≤ q.ends.length) (fun z => q.ends.length - z) (0) (Nat.zero_le _) (by exact ⟨rfl, rfl, rfl, rfl, rfl, congrArg (fun w : Wo => some (u32 w)) (show 0#32 = maskW N (okE (chkB Tb (textV 100 q.core.bytes) who) who) (q.ends.take 0) from (maskW_nil N _).symm), congrArg (fun w : Wo => some (u32 w)) (show 0#32 = seenW N (q.ends.take 0) from (seenW_nil N).symm), rfl, rfl, rfl, trivial⟩) (by repeat first|exact s0 _|exact s1 _|apply s2|apply s3) ?_
  intro z hz
  refine SC.seq (SC.region ?_)
  refine SL.val (Val.ltI rfl rfl) rfl rfl ?_
  refine SL.nil (SE.seq ?_)
  refine SC.seq ?_
  refine SC.condP rfl ?_ ?_
  rotate_left
  · intro hc31
    refine SC.exit ?_
    refine SE.then_ (by intro h; cases h) ?_
    refine SE.then_ (by intro h; cases h) ?_
    refine SE.exit ?_
    refine SE.seq ?_
    refine SC.seq (SC.region ?_)
    refine SL.val (Val.move rfl) rfl rfl ?_
    refine SL.val (Val.assign rfl) rfl rfl ?_
    refine SL.nil (SE.seq ?_)
    refine SC.ret ?_
    have hz2 : z = q.ends.length := by omega
    refine SE.fin (rs := [.tmp 8]) rfl (RV.tmp rfl RV.nil) (()) (by repeat first|exact s0 _|exact s1 _|apply s2|apply s3) (by simp [It.rids]) ?_
    unfold maskN
    rw [if_pos (by omega), Int.toNat_natCast, hz2, List.take_length]
    rfl
  intro hc31
  have hlt : z < q.ends.length := by omega
  refine SC.skip ?_
  refine SE.seq ?_
  refine SC.seq ?_
  refine SC.block ?_
  refine SC.seq (SC.region ?_)
  refine SL.val (Val.indexSl tabOk Try.underlying24 rfl rfl rfl rfl (at_map (by omega)) rfl rfl) rfl rfl ?_
  refine SL.val (Val.loadAR tabOk rfl rfl rfl rfl) rfl rfl ?_
  refine SL.eff (Eff.alloc tabOk rfl) rfl rfl ?_
  rintro _ _ ⟨b13, rfl, rfl⟩
  refine SL.eff (Eff.store (L' := (q.ends[z]'hlt).abs) tabOk rfl rfl rfl (by repeat first|assumption|exact Upd.here|apply Upd.there) rfl (Nat.le_of_ble_eq_true (by rfl)) rfl (by exact putL_whole rfl)) rfl rfl ?_
  rintro _ _ ⟨rfl, rfl⟩
  refine SL.nil (SE.seq ?_)
  refine SC.seq ?_
  refine SC.seq (SC.region ?_)
  refine SL.val (Val.fieldAddr tabOk rfl rfl rfl rfl rfl) rfl rfl ?_
  refine SL.val (Val.load1 tabOk rfl rfl (by first|(apply Or.inl;(repeat first|assumption|exact m0|apply m1);done)|(apply Or.inr;(repeat first|assumption|exact m0|apply m1);done)) List.not_mem_nil (by rfl)) rfl rfl ?_
  refine SL.val (Val.ltI rfl rfl) rfl rfl ?_
  refine SL.val (Val.move rfl) rfl rfl ?_
  refine SL.bothP (t := 37) rfl ?_ ?_
  · intro hc37
    have hout : ∀ o : Nat, o < N → ¬ (q.ends[z]'hlt).org = (o : Int) := fun o ho => by omega
    iterate 4 refine SL.skip rfl rfl ?_
    refine SL.val (Val.pickT rfl rfl) rfl rfl ?_
    refine SL.val (Val.move rfl) rfl rfl ?_
    iterate 7 refine SL.skip rfl rfl ?_
    refine SL.val (Val.pickT rfl rfl) rfl rfl ?_
    refine SL.nil (SE.seq ?_)
    refine SC.condT rfl ?_
    refine SC.exit ?_
    refine SE.then_ (by intro h; cases h) ?_
    refine SE.exit ?_
    refine SE.seq ?_
    refine SC.region ?_
    first
      | refine SL.val (Val.addI rfl rfl (by simp only [InR, lo, hi]; omega)) rfl rfl ?_
      | refine SL.val (Val.addW rfl rfl) rfl rfl ?_
    refine SL.val (Val.move rfl) rfl rfl ?_
    refine SL.nil ?_
    refine SE.round (z + 1) (by first | omega | (dsimp only; omega)) (by first | omega | (dsimp only; omega)) (by exact ⟨rfl, rfl, rfl, rfl, rfl, congrArg (fun w : Wo => some (u32 w)) (show maskW N (okE (chkB Tb (textV 100 q.core.bytes) who) who) (q.ends.take z) = maskW N (okE (chkB Tb (textV 100 q.core.bytes) who) who) (q.ends.take (z + 1)) by rw [take_snocE hlt, maskW_out (by omega) hout]), congrArg (fun w : Wo => some (u32 w)) (show seenW N (q.ends.take z) = seenW N (q.ends.take (z + 1)) by rw [take_snocE hlt, seenW_out (by omega) hout]), rfl, rfl, rfl, trivial⟩) (by repeat first|exact s0 _|exact s1 _|apply s2|apply s3)
  intro hc37
  refine SL.val (Val.fieldAddr tabOk rfl rfl rfl rfl rfl) rfl rfl ?_
  refine SL.val (Val.load1 tabOk rfl rfl (by first|(apply Or.inl;(repeat first|assumption|exact m0|apply m1);done)|(apply Or.inr;(repeat first|assumption|exact m0|apply m1);done)) List.not_mem_nil (by rfl)) rfl rfl ?_
  refine SL.val (Val.move rfl) rfl rfl ?_
  refine SL.val (Val.geI rfl rfl) rfl rfl ?_
  refine SL.val (Val.pickF rfl rfl) rfl rfl ?_
  refine SL.val (Val.move rfl) rfl rfl ?_
  refine SL.bothP (t := 43) rfl ?_ ?_
  · intro hc43
    have hout : ∀ o : Nat, o < N → ¬ (q.ends[z]'hlt).org = (o : Int) := fun o ho => by omega
    iterate 7 refine SL.skip rfl rfl ?_
    refine SL.val (Val.pickT rfl rfl) rfl rfl ?_
    refine SL.nil (SE.seq ?_)
    refine SC.condT rfl ?_
    refine SC.exit ?_
    refine SE.then_ (by intro h; cases h) ?_
    refine SE.exit ?_
    refine SE.seq ?_
    refine SC.region ?_
    first
      | refine SL.val (Val.addI rfl rfl (by simp only [InR, lo, hi]; omega)) rfl rfl ?_
      | refine SL.val (Val.addW rfl rfl) rfl rfl ?_
    refine SL.val (Val.move rfl) rfl rfl ?_
    refine SL.nil ?_
    refine SE.round (z + 1) (by first | omega | (dsimp only; omega)) (by first | omega | (dsimp only; omega)) (by exact ⟨rfl, rfl, rfl, rfl, rfl, congrArg (fun w : Wo => some (u32 w)) (show maskW N (okE (chkB Tb (textV 100 q.core.bytes) who) who) (q.ends.take z) = maskW N (okE (chkB Tb (textV 100 q.core.bytes) who) who) (q.ends.take (z + 1)) by rw [take_snocE hlt, maskW_out (by omega) hout]), congrArg (fun w : Wo => some (u32 w)) (show seenW N (q.ends.take z) = seenW N (q.ends.take (z + 1)) by rw [take_snocE hlt, seenW_out (by omega) hout]), rfl, rfl, rfl, trivial⟩) (by repeat first|exact s0 _|exact s1 _|apply s2|apply s3)
  intro hc43
  obtain ⟨m, hm⟩ : ∃ m : Nat, (q.ends[z]'hlt).org = (m : Int) := ⟨(q.ends[z]'hlt).org.toNat, by omega⟩
  have hmN : m < N := by omega
  refine SL.val (Val.move rfl) rfl rfl ?_
  refine SL.val (Val.fieldAddr tabOk rfl rfl rfl rfl rfl) rfl rfl ?_
  refine SL.val (Val.load1 tabOk rfl rfl (by first|(apply Or.inl;(repeat first|assumption|exact m0|apply m1);done)|(apply Or.inr;(repeat first|assumption|exact m0|apply m1);done)) List.not_mem_nil (by rfl)) rfl rfl ?_
  refine SL.val (Val.to (C := .v (.int .u64 ((m : Nat) : Int))) (Val.convI rfl Try.underlying72 (by kernel_rfl) (by simp only [InR, lo, hi]; omega)) (congrArg (fun x => Abs.v (.int .u64 x)) hm)) rfl rfl ?_
  refine SL.val (Val.shrB (m := m) rfl rfl rfl) rfl rfl ?_
  refine SL.val (Val.andW (q := 1#32) rfl rfl) rfl rfl ?_
  refine SL.val (Val.to (C := boo (hasE (q.ends.take z) (m : Int))) (Val.eqI rfl rfl) (congrArg (fun b => Abs.v (Value.bool b)) (by rw [← seen_bit (n := N) (by omega) hmN, decide_eq_decide]; exact Int.ofNat_inj))) rfl rfl ?_
  refine SL.val (Val.pickF rfl rfl) rfl rfl ?_
  refine SL.nil (SE.seq ?_)
  refine SC.cond rfl ?_ ?_
  · intro hc51
    refine SC.exit ?_
    refine SE.then_ (by intro h; cases h) ?_
    refine SE.exit ?_
    refine SE.seq ?_
    refine SC.region ?_
    first
      | refine SL.val (Val.addI rfl rfl (by simp only [InR, lo, hi]; omega)) rfl rfl ?_
      | refine SL.val (Val.addW rfl rfl) rfl rfl ?_
    refine SL.val (Val.move rfl) rfl rfl ?_
    refine SL.nil ?_
    refine SE.round (z + 1) (by first | omega | (dsimp only; omega)) (by first | omega | (dsimp only; omega)) (by exact ⟨rfl, rfl, rfl, rfl, rfl, congrArg (fun w : Wo => some (u32 w)) (show maskW N (okE (chkB Tb (textV 100 q.core.bytes) who) who) (q.ends.take z) = maskW N (okE (chkB Tb (textV 100 q.core.bytes) who) who) (q.ends.take (z + 1)) by rw [take_snocE hlt, maskW_old (by omega) hm hc51]), congrArg (fun w : Wo => some (u32 w)) (show seenW N (q.ends.take z) = seenW N (q.ends.take (z + 1)) by rw [take_snocE hlt, seenW_old (by omega) hm hc51]), rfl, rfl, rfl, trivial⟩) (by repeat first|exact s0 _|exact s1 _|apply s2|apply s3)
  intro hc51
  refine SC.skip ?_
  refine SE.seq ?_
  refine SC.seq (SC.region ?_)
  refine SL.val (Val.move rfl) rfl rfl ?_
  refine SL.val (Val.fieldAddr tabOk rfl rfl rfl rfl rfl) rfl rfl ?_
  refine SL.val (Val.load1 tabOk rfl rfl (by first|(apply Or.inl;(repeat first|assumption|exact m0|apply m1);done)|(apply Or.inr;(repeat first|assumption|exact m0|apply m1);done)) List.not_mem_nil (by rfl)) rfl rfl ?_
  refine SL.val (Val.to (C := .v (.int .u64 ((m : Nat) : Int))) (Val.convI rfl Try.underlying72 (by kernel_rfl) (by simp only [InR, lo, hi]; omega)) (congrArg (fun x => Abs.v (.int .u64 x)) hm)) rfl rfl ?_
  refine SL.val (Val.shlB (p := 1#32) (m := m) rfl rfl rfl) rfl rfl ?_
  refine SL.val (Val.orW rfl rfl) rfl rfl ?_
  refine SL.val (Val.assign rfl) rfl rfl ?_
  refine SL.nil (SE.seq ?_)
  refine SC.seq (SC.region ?_)
  refine SL.val (Val.move rfl) rfl rfl ?_
  refine SL.val (Val.loadA tabOk rfl rfl rfl (by first|(apply Or.inl;(repeat first|assumption|exact m0|apply m1);done)|(apply Or.inr;(repeat first|assumption|exact m0|apply m1);done)) List.not_mem_nil rfl) rfl rfl ?_
  refine SL.val (Val.move rfl) rfl rfl ?_
  refine SL.val (Val.move rfl) rfl rfl ?_
  refine SL.call (holdsb_s (p := p) (bd := bd) (bt := bt) (Dm := Dm) (Tb := Tb) (e := (q.ends[z]'hlt)) (t := (textV 100 q.core.bytes)) (who := who) (by simp [textV]; rw [core_len]; omega) hn hT (hr _ (List.getElem_mem hlt)) hw) Casts.refl (by kernel_rfl) rfl rfl rfl ?_
  refine After.one rfl (by repeat first|assumption|exact m0|apply m1) (fun _ => rfl) ?_
  intro _
  refine ⟨_, (by repeat first|assumption|exact Upd.here|apply Upd.there), ?_⟩
  refine SL.nil (SE.seq ?_)
  refine SC.cond rfl ?_ ?_
  rotate_left
  · intro hc62
    refine SC.skip ?_
    refine SE.inBlock ?_
    refine SE.seq ?_
    refine SC.region ?_
    first
      | refine SL.val (Val.addI rfl rfl (by simp only [InR, lo, hi]; omega)) rfl rfl ?_
      | refine SL.val (Val.addW rfl rfl) rfl rfl ?_
    refine SL.val (Val.move rfl) rfl rfl ?_
    refine SL.nil ?_
    refine SE.round (z + 1) (by first | omega | (dsimp only; omega)) (by first | omega | (dsimp only; omega)) (by exact ⟨rfl, rfl, rfl, rfl, rfl, congrArg (fun w : Wo => some (u32 w)) (show maskW N (okE (chkB Tb (textV 100 q.core.bytes) who) who) (q.ends.take z) = maskW N (okE (chkB Tb (textV 100 q.core.bytes) who) who) (q.ends.take (z + 1)) by rw [take_snocE hlt, maskW_new (by omega) hmN hm hc51, if_neg (by rw [hc62]; decide)]), congrArg (fun w : Wo => some (u32 w)) (show seenW N (q.ends.take z) ||| 1#32 <<< m = seenW N (q.ends.take (z + 1)) by rw [take_snocE hlt, seenW_new (by omega) hmN hm]), rfl, rfl, rfl, trivial⟩) (by repeat first|exact s0 _|exact s1 _|apply s2|apply s3)
  intro hc62
  refine SC.region ?_
  refine SL.val (Val.move rfl) rfl rfl ?_
  refine SL.val (Val.fieldAddr tabOk rfl rfl rfl rfl rfl) rfl rfl ?_
  refine SL.val (Val.load1 tabOk rfl rfl (by first|(apply Or.inl;(repeat first|assumption|exact m0|apply m1);done)|(apply Or.inr;(repeat first|assumption|exact m0|apply m1);done)) List.not_mem_nil (by rfl)) rfl rfl ?_
  refine SL.val (Val.to (C := .v (.int .u64 ((m : Nat) : Int))) (Val.convI rfl Try.underlying72 (by kernel_rfl) (by simp only [InR, lo, hi]; omega)) (congrArg (fun x => Abs.v (.int .u64 x)) hm)) rfl rfl ?_
  refine SL.val (Val.shlB (p := 1#32) (m := m) rfl rfl rfl) rfl rfl ?_
  refine SL.val (Val.orW rfl rfl) rfl rfl ?_
  refine SL.val (Val.assign rfl) rfl rfl ?_
  refine SL.nil ?_
  refine SE.inBlock ?_
  refine SE.seq ?_
  refine SC.region ?_
  first
    | refine SL.val (Val.addI rfl rfl (by simp only [InR, lo, hi]; omega)) rfl rfl ?_
    | refine SL.val (Val.addW rfl rfl) rfl rfl ?_
  refine SL.val (Val.move rfl) rfl rfl ?_
  refine SL.nil ?_
  refine SE.round (z + 1) (by first | omega | (dsimp only; omega)) (by first | omega | (dsimp only; omega)) (by exact ⟨rfl, rfl, rfl, rfl, rfl, congrArg (fun w : Wo => some (u32 w)) (show maskW N (okE (chkB Tb (textV 100 q.core.bytes) who) who) (q.ends.take z) ||| 1#32 <<< m = maskW N (okE (chkB Tb (textV 100 q.core.bytes) who) who) (q.ends.take (z + 1)) by rw [take_snocE hlt, maskW_new (by omega) hmN hm hc51, if_pos hc62]), congrArg (fun w : Wo => some (u32 w)) (show seenW N (q.ends.take z) ||| 1#32 <<< m = seenW N (q.ends.take (z + 1)) by rw [take_snocE hlt, seenW_new (by omega) hmN hm]), rfl, rfl, rfl, trivial⟩) (by repeat first|exact s0 _|exact s1 _|apply s2|apply s3)
theorem mask0_s  : Spec Try.prog 10 [.v .nilIface, .agg q.abs, int n, int who] [] (fun _ : Unit => []) (fun _ => u32 0#32) := by
  refine spec_of Try.func10 rfl Try.ntmps10 rfl fun G w => ?_
  refine SC.seq (SC.region ?_)
  refine SL.eff (Eff.boxA (cs := q.abs) rfl) rfl rfl ?_
  rintro _ _ ⟨b5, rfl, rfl⟩
  refine SL.val (Val.assign rfl) rfl rfl ?_
  refine SL.nil (SE.seq ?_)
  refine SC.seq ?_
  refine SC.seq (SC.region ?_)
  refine SL.val (Val.move rfl) rfl rfl ?_
  refine SL.val (Val.nilNil Try.underlying60 rfl) rfl rfl ?_
  refine SL.val (Val.move rfl) rfl rfl ?_
  iterate 2 refine SL.skip rfl rfl ?_
  refine SL.val (Val.pickT rfl rfl) rfl rfl ?_
  refine SL.val (Val.move rfl) rfl rfl ?_
  iterate 2 refine SL.skip rfl rfl ?_
  refine SL.val (Val.pickT rfl rfl) rfl rfl ?_
  refine SL.nil (SE.seq ?_)
  refine SC.condT rfl ?_
  refine SC.seq (SC.region ?_)
  refine SL.val (Val.assign rfl) rfl rfl ?_
  refine SL.nil (SE.seq ?_)
  refine SC.ret ?_
  refine SE.then_ (by intro h; cases h) ?_
  refine SE.fin (rs := [.tmp 8]) rfl (RV.tmp rfl RV.nil) (()) (by repeat first|exact s0 _|exact s1 _|apply s2|apply s3) (by simp [It.rids]) ?_
  exact rfl
set_option maxHeartbeats 2000000 in
theorem rmask_s (h1 : q.core.letter.size ≤ 1000) (h2 : q.core.text.size ≤ 1000) (hl : q.ends.length ≤ 100000) (hn : Num1 T) (hT : T.length < 1000000) : Spec Try.prog 11 [ptr p, .agg q.abs, int n, int who] [.rd p 58 [mapV bd, mapV bt], .rdpc (mapPc bt Value.string cntV sOk T)] (fun _ : Unit => []) (fun _ => u32 (maskN n (okE (chkI T (textV 100 q.core.bytes) who) who) q.ends)) := by
  refine spec_of Try.func11 rfl Try.ntmps11 rfl fun G w => ?_
  refine SC.seq (SC.region ?_)
  refine SL.eff (Eff.boxA (cs := q.abs) rfl) rfl rfl ?_
  rintro _ _ ⟨b5, rfl, rfl⟩
  refine SL.val (Val.assign rfl) rfl rfl ?_
  refine SL.nil (SE.seq ?_)
  refine SC.seq (SC.region ?_)
  refine SL.val (Val.assign rfl) rfl rfl ?_
  refine SL.val (Val.assign rfl) rfl rfl ?_
  refine SL.nil (SE.seq ?_)
  refine SC.seq ?_
  refine SC.seq (SC.region ?_)
  refine SL.val (Val.move rfl) rfl rfl ?_
  refine SL.val (Val.ltI rfl rfl) rfl rfl ?_
  refine SL.val (Val.move rfl) rfl rfl ?_
  refine SL.bothP (t := 16) rfl ?_ ?_
  · intro hc16
    iterate 2 refine SL.skip rfl rfl ?_
    refine SL.val (Val.pickT rfl rfl) rfl rfl ?_
    refine SL.nil (SE.seq ?_)
    refine SC.condT rfl ?_
    refine SC.seq (SC.region ?_)
    refine SL.val (Val.assign rfl) rfl rfl ?_
    refine SL.nil (SE.seq ?_)
    refine SC.ret ?_
    refine SE.then_ (by intro h; cases h) ?_
    refine SE.fin (rs := [.tmp 8]) rfl (RV.tmp rfl RV.nil) (()) (by repeat first|exact s0 _|exact s1 _|apply s2|apply s3) (by simp [It.rids]) ?_
    unfold maskN
    rw [if_neg (by omega)]
    rfl
  intro hc16
  refine SL.val (Val.move rfl) rfl rfl ?_
  refine SL.val (Val.gtI rfl rfl) rfl rfl ?_
  refine SL.val (Val.pickF rfl rfl) rfl rfl ?_
  refine SL.nil (SE.seq ?_)
  refine SC.condP rfl ?_ ?_
  · intro hc19
    refine SC.seq (SC.region ?_)
    refine SL.val (Val.assign rfl) rfl rfl ?_
    refine SL.nil (SE.seq ?_)
    refine SC.ret ?_
    refine SE.then_ (by intro h; cases h) ?_
    refine SE.fin (rs := [.tmp 8]) rfl (RV.tmp rfl RV.nil) (()) (by repeat first|exact s0 _|exact s1 _|apply s2|apply s3) (by simp [It.rids]) ?_
    unfold maskN
    rw [if_neg (by omega)]
    rfl
  intro hc19
  refine SC.skip ?_
  refine SE.seq ?_
  refine SC.seq ?_
  refine SC.seq (SC.region ?_)
  refine SL.val (Val.assign rfl) rfl rfl ?_
  refine SL.nil (SE.seq ?_)
  refine SC.block ?_
  obtain ⟨N, rfl⟩ : ∃ N : Nat, n = (N : Nat) := ⟨n.toNat, by omega⟩
  refine SC.loop (ι := Nat) (fun y => [.blk b5 26 q.abs, .rd p 58 [mapV bd, mapV bt], .rdpc (mapPc bt Value.string cntV sOk T)]) (fun y => [(0, ptr p), (2, int (N : Nat)), (3, int who), (5, ptr b5), (9, u32 (bitsW y (fun o : Nat => firstOk (okE (chkI T (textV 100 q.core.bytes) who) who) q.ends o))), (10, u32 (1#32 <<< y)), (11, int (y : Nat))]) (fun y => y ≤ N) (fun y => N - y) (0) (Nat.zero_le _) (by exact ⟨rfl, rfl, rfl, rfl, rfl, rfl, rfl, trivial⟩) (by repeat first|exact s0 _|exact s1 _|apply s2|apply s3) ?_
  intro y hy
  refine SC.seq ?_
  refine SC.seq (SC.region ?_)
  refine SL.val (Val.move rfl) rfl rfl ?_
  refine SL.val (Val.move rfl) rfl rfl ?_
  refine SL.val (Val.ltI rfl rfl) rfl rfl ?_
  refine SL.nil (SE.seq ?_)
  refine SC.condP rfl ?_ ?_
  rotate_left
  · intro hc22
    refine SC.exit ?_
    refine SE.then_ (by intro h; cases h) ?_
    refine SE.then_ (by intro h; cases h) ?_
    refine SE.exit ?_
    refine SE.seq ?_
    refine SC.seq (SC.region ?_)
    refine SL.val (Val.move rfl) rfl rfl ?_
    refine SL.val (Val.assign rfl) rfl rfl ?_
    refine SL.nil (SE.seq ?_)
    refine SC.ret ?_
    have hz2 : y = N := by omega
    refine SE.fin (rs := [.tmp 8]) rfl (RV.tmp rfl RV.nil) (()) (by repeat first|exact s0 _|exact s1 _|apply s2|apply s3) (by simp [It.rids]) ?_
    unfold maskN maskW
    rw [if_pos (by omega), Int.toNat_natCast, hz2]
    rfl
  intro hc22
  refine SC.skip ?_
  refine SE.seq ?_
  refine SC.seq ?_
  refine SC.block ?_
  refine SC.cutS (ι := Unit) (fun z => [.blk b5 26 q.abs, .rd p 58 [mapV bd, mapV bt], .rdpc (mapPc bt Value.string cntV sOk T)]) (fun z => [(0, ptr p), (2, int (N : Nat)), (3, int who), (5, ptr b5), (9, u32 (bitsW (y + 1) (fun o : Nat => firstOk (okE (chkI T (textV 100 q.core.bytes) who) who) q.ends o))), (10, u32 (1#32 <<< y)), (11, int (y : Nat))]) (fun z => True) ?_ ?_
  · skip
    refine SC.seq (SC.region ?_)
    refine SL.val (Val.fieldAddr tabOk rfl rfl rfl rfl rfl) rfl rfl ?_
    refine SL.val (Val.load1 tabOk rfl rfl (by first|(apply Or.inl;(repeat first|assumption|exact m0|apply m1);done)|(apply Or.inr;(repeat first|assumption|exact m0|apply m1);done)) List.not_mem_nil (by rfl)) rfl rfl ?_
    first
      | refine SL.val (Val.lenSl rfl Try.underlying24 (List.length_map _)) rfl rfl ?_
      | refine SL.val (Val.lenOwn rfl (by repeat first|assumption|exact m0|apply m1) Try.underlying24 (List.length_map _)) rfl rfl ?_
      | refine SL.val (Val.lenNil rfl Try.underlying24) rfl rfl ?_
    refine SL.val (Val.move rfl) rfl rfl ?_
    refine SL.nil (SE.seq ?_)
    refine SC.block ?_
    refine SC.loop (ι := Nat) (fun z => [.blk b5 26 q.abs, .rd p 58 [mapV bd, mapV bt], .rdpc (mapPc bt Value.string cntV sOk T)]) (fun z => [(0, ptr p), (2, int (N : Nat)), (3, int who), (5, ptr b5), (9, u32 (bitsW y (fun o : Nat => firstOk (okE (chkI T (textV 100 q.core.bytes) who) who) q.ends o))), (10, u32 (1#32 <<< y)), (11, int (y : Nat)), (26, endsA q.ends), (27, int (q.ends.length : Nat)), (28, int (z : Nat))]) (fun z => z ≤ q.ends.length ∧ ∀ j (h : j < q.ends.length), j < z → ¬ q.ends[j].org = (y : Int)) (fun z => q.ends.length - z) (0) (⟨Nat.zero_le _, fun j h hj => by omega⟩) (by exact ⟨rfl, rfl, rfl, rfl, rfl, rfl, rfl, rfl, rfl, rfl, trivial⟩) (by repeat first|exact s0 _|exact s1 _|apply s2|apply s3) ?_
    intro z hz
    refine SC.seq (SC.region ?_)
    refine SL.val (Val.ltI rfl rfl) rfl rfl ?_
    refine SL.nil (SE.seq ?_)
    refine SC.seq ?_
    refine SC.condP rfl ?_ ?_
    rotate_left
    · intro hc29
      refine SC.exit ?_
      refine SE.then_ (by intro h; cases h) ?_
      refine SE.then_ (by intro h; cases h) ?_
      refine SE.exit ?_
      refine SE.meet (()) (trivial) (by exact ⟨rfl, rfl, rfl, rfl, congrArg (fun w : Wo => some (u32 w)) (show bitsW y (fun o : Nat => firstOk (okE (chkI T (textV 100 q.core.bytes) who) who) q.ends o) = bitsW (y + 1) (fun o : Nat => firstOk (okE (chkI T (textV 100 q.core.bytes) who) who) q.ends o) from bitsW_no (firstOk_no fun j h => hz.2 j h (by omega))), rfl, rfl, trivial⟩) (by repeat first|exact s0 _|exact s1 _|apply s2|apply s3)
    intro hc29
    have hlt : z < q.ends.length := by omega
    refine SC.skip ?_
    refine SE.seq ?_
    refine SC.seq ?_
    refine SC.block ?_
    refine SC.seq (SC.region ?_)
    refine SL.val (Val.indexSl tabOk Try.underlying24 rfl rfl rfl rfl (at_map (by omega)) rfl rfl) rfl rfl ?_
    refine SL.val (Val.loadAR tabOk rfl rfl rfl rfl) rfl rfl ?_
    refine SL.eff (Eff.alloc tabOk rfl) rfl rfl ?_
    rintro _ _ ⟨b13, rfl, rfl⟩
    refine SL.eff (Eff.store (L' := (q.ends[z]'hlt).abs) tabOk rfl rfl rfl (by repeat first|assumption|exact Upd.here|apply Upd.there) rfl (Nat.le_of_ble_eq_true (by rfl)) rfl (by exact putL_whole rfl)) rfl rfl ?_
    rintro _ _ ⟨rfl, rfl⟩
    refine SL.nil (SE.seq ?_)
    refine SC.seq ?_
    refine SC.seq (SC.region ?_)
    refine SL.val (Val.fieldAddr tabOk rfl rfl rfl rfl rfl) rfl rfl ?_
    refine SL.val (Val.load1 tabOk rfl rfl (by first|(apply Or.inl;(repeat first|assumption|exact m0|apply m1);done)|(apply Or.inr;(repeat first|assumption|exact m0|apply m1);done)) List.not_mem_nil (by rfl)) rfl rfl ?_
    refine SL.val (Val.move rfl) rfl rfl ?_
    refine SL.val (Val.neI rfl rfl) rfl rfl ?_
    refine SL.nil (SE.seq ?_)
    refine SC.condP rfl ?_ ?_
    · intro hc35
      refine SC.exit ?_
      refine SE.then_ (by intro h; cases h) ?_
      refine SE.exit ?_
      refine SE.seq ?_
      refine SC.region ?_
      first
        | refine SL.val (Val.addI rfl rfl (by simp only [InR, lo, hi]; omega)) rfl rfl ?_
        | refine SL.val (Val.addW rfl rfl) rfl rfl ?_
      refine SL.val (Val.move rfl) rfl rfl ?_
      refine SL.nil ?_
      refine SE.round (z + 1) (by first | omega | (dsimp only; omega)) (⟨by omega, fun j h hj => by
            rcases Nat.lt_or_ge j z with h1 | h1
            · exact hz.2 j h h1
            · obtain rfl : j = z := by omega
              omega⟩) (by exact ⟨rfl, rfl, rfl, rfl, rfl, rfl, rfl, rfl, rfl, rfl, trivial⟩) (by repeat first|exact s0 _|exact s1 _|apply s2|apply s3)
    intro hc35
    have hey : (q.ends[z]'hlt).org = (y : Int) := by omega
    refine SC.skip ?_
    refine SE.seq ?_
    refine SC.seq ?_
    refine SC.seq ?_
    refine SC.draw [] (.q 0 (.q 1 (.q 2 (.q 3 (.q 4 (.q 5 (.q 6 (.q 7 (.q 8 (.q 9 (.q 10 (.q 11 (.q 12 (.q 13 (.q 14 (.q 16 (.q 17 (.q 18 (.q 19 (.q 20 (.e 15 (.e 21 (.q 22 .nil))))))))))))))))))))))) (by kernel_rfl) (by kernel_rfl) ?_
    refine SX.val rfl (Val.move rfl) (by simp) rfl rfl ?_
    refine SX.val rfl (Val.geI rfl rfl) (by simp) rfl rfl ?_
    refine SX.val rfl (Val.move rfl) (by simp) rfl rfl ?_
    refine SX.bothP (t := 38) rfl ?_ ?_
    rotate_left
    · intro hc38
      iterate 5 refine SX.skip rfl rfl rfl ?_
      refine SX.val rfl (Val.pickF rfl rfl) (by simp) rfl rfl ?_
      refine SX.val rfl (Val.move rfl) (by simp) rfl rfl ?_
      iterate 10 refine SX.skip rfl rfl rfl ?_
      refine SX.skip' rfl rfl rfl ?_
      refine SX.skip' rfl rfl rfl ?_
      refine SX.val rfl (Val.pickF rfl rfl) (by simp) rfl rfl ?_
      refine SX.nil (SE.seq ?_)
      refine SC.condF rfl ?_
      refine SC.skip ?_
      refine SE.seq ?_
      refine SC.exit ?_
      refine SE.exit_ rfl ?_
      refine SE.then_ (by intro h; cases h) ?_
      refine SE.then_ (by intro h; cases h) ?_
      refine SE.exit ?_
      refine SE.meet (()) (trivial) (by exact ⟨rfl, rfl, rfl, rfl, congrArg (fun w : Wo => some (u32 w)) (show bitsW y (fun o : Nat => firstOk (okE (chkI T (textV 100 q.core.bytes) who) who) q.ends o) = bitsW (y + 1) (fun o : Nat => firstOk (okE (chkI T (textV 100 q.core.bytes) who) who) q.ends o) from bitsW_no ((firstOk_at (ok := okE (chkI T (textV 100 q.core.bytes) who) who) hlt hz.2 hey).trans (okE_neg (by omega)))), rfl, rfl, trivial⟩) (by repeat first|exact s0 _|exact s1 _|apply s2|apply s3)
    intro hc38
    obtain ⟨m, rfl⟩ : ∃ m : Nat, who = (m : Nat) := ⟨who.toNat, by omega⟩
    refine SX.val rfl (Val.move rfl) (by simp) rfl rfl ?_
    refine SX.val rfl (Val.fieldAddr tabOk rfl rfl rfl rfl rfl) (by simp) rfl rfl ?_
    refine SX.val rfl (Val.load1 tabOk rfl rfl (by first|(apply Or.inl;(repeat first|assumption|exact m0|apply m1);done)|(apply Or.inr;(repeat first|assumption|exact m0|apply m1);done)) List.not_mem_nil (by rfl)) (by simp) rfl rfl ?_
    first
      | refine SX.val rfl (Val.lenSl rfl Try.underlying32 (List.length_map _)) (by simp) rfl rfl ?_
      | refine SX.val rfl (Val.lenOwn rfl (by repeat first|assumption|exact m0|apply m1) Try.underlying32 (List.length_map _)) (by simp) rfl rfl ?_
      | refine SX.val rfl (Val.lenNil rfl Try.underlying32) (by simp) rfl rfl ?_
    refine SX.val rfl (Val.ltI rfl rfl) (by simp) rfl rfl ?_
    refine SX.val rfl (Val.pickT rfl rfl) (by simp) rfl rfl ?_
    refine SX.val rfl (Val.move rfl) (by simp) rfl rfl ?_
    refine SX.bothP (t := 45) rfl ?_ ?_
    rotate_left
    · intro hc45
      iterate 10 refine SX.skip rfl rfl rfl ?_
      refine SX.skip' rfl rfl rfl ?_
      refine SX.skip' rfl rfl rfl ?_
      refine SX.val rfl (Val.pickF rfl rfl) (by simp) rfl rfl ?_
      refine SX.nil (SE.seq ?_)
      refine SC.condF rfl ?_
      refine SC.skip ?_
      refine SE.seq ?_
      refine SC.exit ?_
      refine SE.exit_ rfl ?_
      refine SE.then_ (by intro h; cases h) ?_
      refine SE.then_ (by intro h; cases h) ?_
      refine SE.exit ?_
      refine SE.meet (()) (trivial) (by exact ⟨rfl, rfl, rfl, rfl, congrArg (fun w : Wo => some (u32 w)) (show bitsW y (fun o : Nat => firstOk (okE (chkI T (textV 100 q.core.bytes) ((m : Nat) : Int)) ((m : Nat) : Int)) q.ends o) = bitsW (y + 1) (fun o : Nat => firstOk (okE (chkI T (textV 100 q.core.bytes) ((m : Nat) : Int)) ((m : Nat) : Int)) q.ends o) from bitsW_no ((firstOk_at (ok := okE (chkI T (textV 100 q.core.bytes) ((m : Nat) : Int)) ((m : Nat) : Int)) hlt hz.2 hey).trans (okE_far (by omega)))), rfl, rfl, trivial⟩) (by repeat first|exact s0 _|exact s1 _|apply s2|apply s3)
    intro hc45
    have hm : m < (q.ends[z]'hlt).tags.length := by omega
    refine SX.val rfl (Val.move rfl) (by simp) rfl rfl ?_
    refine SX.val rfl (Val.move rfl) (by simp) rfl rfl ?_
    refine SX.val rfl (Val.move rfl) (by simp) rfl rfl ?_
    refine SX.val rfl (Val.fieldAddr tabOk rfl rfl rfl rfl rfl) (by simp) rfl rfl ?_
    refine SX.val rfl (Val.to (C := coreA q.core) (Val.loadP tabOk rfl rfl rfl (by first|(apply Or.inl;(repeat first|assumption|exact m0|apply m1);done)|(apply Or.inr;(repeat first|assumption|exact m0|apply m1);done)) List.not_mem_nil (Nat.le_of_ble_eq_true (by rfl))) (congrArg Abs.agg (Rq.part _))) (by first | (simp [mids, It.mids, ownPc, bkPc, mapPc]; done) | (intro k hk; simp [mids, It.mids, ownPc, bkPc, mapPc] at hk ⊢; grind)) rfl rfl ?_
    refine SX.val rfl (Val.fieldAddr tabOk rfl rfl rfl rfl rfl) (by simp) rfl rfl ?_
    refine SX.val rfl (Val.load1 tabOk rfl rfl (by first|(apply Or.inl;(repeat first|assumption|exact m0|apply m1);done)|(apply Or.inr;(repeat first|assumption|exact m0|apply m1);done)) List.not_mem_nil (by rfl)) (by simp) rfl rfl ?_
    refine SX.val rfl (Val.move rfl) (by simp) rfl rfl ?_
    refine SX.val rfl (Val.indexSl (q := m) tabOk Try.underlying32 rfl rfl rfl rfl (at_map hm) rfl rfl) (by first | (simp [mids, It.mids, ownPc, bkPc, mapPc]; done) | (intro k hk; simp [mids, It.mids, ownPc, bkPc, mapPc] at hk ⊢; grind)) rfl rfl ?_
    refine SX.val rfl (Val.loadAR tabOk rfl rfl rfl (Tg.size _)) (by first | (simp [mids, It.mids, ownPc, bkPc, mapPc]; done) | (intro k hk; simp [mids, It.mids, ownPc, bkPc, mapPc] at hk ⊢; grind)) rfl rfl ?_
    refine SX.call rfl (retext_s (c := q.core) h1 h2) (by simp [mids, It.mids]) Casts.refl (by kernel_rfl) rfl rfl rfl ?_
    refine After.pure (by repeat (first | exact Reads.nil | (refine Reads.blk ?_ ?_; focus ((repeat first|assumption|exact m0|apply m1); done)) | (refine Reads.rd ?_ ?_; focus ((repeat first|assumption|exact m0|apply m1); done)) | (refine Reads.pc ?_ ?_; focus ((repeat first|assumption|exact m0|apply m1); done)) | (refine Reads.rdpc ?_ ?_; focus ((repeat first|assumption|exact m0|apply m1); done)))) (fun _ => rfl) ?_
    intro _
    refine SX.call rfl (icheck_s (q := p) (bd := bd) (bt := bt) (T := T) (a := (y : Nat)) (b := (m : Nat)) (l := (textV 100 q.core.bytes)) (M := ((q.ends[z]'hlt).tags[m]'hm).d) (by simp [textV]; rw [core_len]; omega) hn hT ((q.ends[z]'hlt).tags[m]'hm).len) (by simp [mids, It.mids]) Casts.refl (by kernel_rfl) rfl rfl rfl ?_
    refine After.pure (by repeat (first | exact Reads.nil | (refine Reads.blk ?_ ?_; focus ((repeat first|assumption|exact m0|apply m1); done)) | (refine Reads.rd ?_ ?_; focus ((repeat first|assumption|exact m0|apply m1); done)) | (refine Reads.pc ?_ ?_; focus ((repeat first|assumption|exact m0|apply m1); done)) | (refine Reads.rdpc ?_ ?_; focus ((repeat first|assumption|exact m0|apply m1); done)))) (fun _ => rfl) ?_
    intro _
    refine SX.val rfl (Val.pickT rfl rfl) (by simp) rfl rfl ?_
    refine SX.nil (SE.seq ?_)
    refine SC.cond rfl ?_ ?_
    rotate_left
    · intro hc58
      refine SC.skip ?_
      refine SE.seq ?_
      refine SC.exit ?_
      refine SE.exit_ rfl ?_
      refine SE.then_ (by intro h; cases h) ?_
      refine SE.then_ (by intro h; cases h) ?_
      refine SE.exit ?_
      refine SE.meet (()) (trivial) (by exact ⟨rfl, rfl, rfl, rfl, congrArg (fun w : Wo => some (u32 w)) (show bitsW y (fun o : Nat => firstOk (okE (chkI T (textV 100 q.core.bytes) ((m : Nat) : Int)) ((m : Nat) : Int)) q.ends o) = bitsW (y + 1) (fun o : Nat => firstOk (okE (chkI T (textV 100 q.core.bytes) ((m : Nat) : Int)) ((m : Nat) : Int)) q.ends o) from bitsW_no ((firstOk_at (ok := okE (chkI T (textV 100 q.core.bytes) ((m : Nat) : Int)) ((m : Nat) : Int)) hlt hz.2 hey).trans ((okE_yes hm).trans (by rw [hey]; exact hc58)))), rfl, rfl, trivial⟩) (by repeat first|exact s0 _|exact s1 _|apply s2|apply s3)
    intro hc58
    refine SC.region ?_
    refine SL.val (Val.move rfl) rfl rfl ?_
    refine SL.val (Val.move rfl) rfl rfl ?_
    refine SL.val (Val.sumW rfl rfl) rfl rfl ?_
    refine SL.val (Val.assign rfl) rfl rfl ?_
    refine SL.nil (SE.seq ?_)
    refine SC.exit ?_
    refine SE.exit_ rfl ?_
    refine SE.then_ (by intro h; cases h) ?_
    refine SE.then_ (by intro h; cases h) ?_
    refine SE.exit ?_
    refine SE.meet (()) (trivial) (by exact ⟨rfl, rfl, rfl, rfl, congrArg (fun w : Wo => some (u32 w)) (show bitsW y (fun o : Nat => firstOk (okE (chkI T (textV 100 q.core.bytes) ((m : Nat) : Int)) ((m : Nat) : Int)) q.ends o) + 1#32 <<< y = bitsW (y + 1) (fun o : Nat => firstOk (okE (chkI T (textV 100 q.core.bytes) ((m : Nat) : Int)) ((m : Nat) : Int)) q.ends o) from bitsW_yes (by omega) ((firstOk_at (ok := okE (chkI T (textV 100 q.core.bytes) ((m : Nat) : Int)) ((m : Nat) : Int)) hlt hz.2 hey).trans ((okE_yes hm).trans (by rw [hey]; exact hc58)))), rfl, rfl, trivial⟩) (by repeat first|exact s0 _|exact s1 _|apply s2|apply s3)
  · intro z hz
    refine SC.region ?_
    refine SL.val (Val.move rfl) rfl rfl ?_
    refine SL.val (Val.to (C := u32 (1#32 <<< (y + 1))) (Val.mulB (q := 2#32) rfl rfl) (congrArg u32 mul_two)) rfl rfl ?_
    refine SL.val (Val.assign rfl) rfl rfl ?_
    refine SL.nil ?_
    refine SE.inBlock ?_
    refine SE.seq ?_
    refine SC.region ?_
    refine SL.val (Val.move rfl) rfl rfl ?_
    first
      | refine SL.val (Val.addI rfl rfl (by simp only [InR, lo, hi]; omega)) rfl rfl ?_
      | refine SL.val (Val.addW rfl rfl) rfl rfl ?_
    refine SL.val (Val.assign rfl) rfl rfl ?_
    refine SL.nil ?_
    refine SE.round (y + 1) (by first | omega | (dsimp only; omega)) (by first | omega | (dsimp only; omega)) (by exact ⟨rfl, rfl, rfl, rfl, rfl, rfl, rfl, trivial⟩) (by repeat first|exact s0 _|exact s1 _|apply s2|apply s3)
end
end Go.Proofs.Ytbhjchlflkgjbaa.A
/-
  Endorsements signed.
-/
set_option maxRecDepth 100000
set_option linter.unusedSimpArgs false
set_option linter.unusedVariables false
namespace Go.Proofs.Ytbhjchlflkgjbaa.A
open Go.RowKit

theorem allN_zero (n : Int) : (allN n).length = 0 ↔ n < 1 ∨ 7 < n := by
  unfold allN
  split
  · simp; omega
  · simp; omega
theorem allN_le (n : Int) : (allN n).length ≤ 7 := by
  unfold allN
  split
  · simp
  · simp; omega
theorem Msg.abs_len (m : Msg) : m.abs.length = 4 := rfl
/-- Whoever says who endorsed. -/
def sgI (T : List (ByteArray × Nat)) (o n : Int) (c : Core) : En := ⟨o, tagsG (gI o (textV 100 c.bytes)) T (allN n)⟩
def sgB (T : TMap) (o n : Int) (c : Core) : En := ⟨o, tagsG (gB o (textV 100 c.bytes)) T (allN n)⟩
section
variable {q : Rq} {e : En} {o n who : Int} {c : Core} {p bd bt : Nat} {Dm : DMap} {Tb : TMap} {T : List (ByteArray × Nat)}
theorem esigni_s (h1 : c.letter.size ≤ 1000) (h2 : c.text.size ≤ 1000) (hn : Num1 T) (hT : T.length ≤ 900000) : Spec Try.prog 8 [.ifc 30 (ptr p), int o, int n, coreA c] [.blk p 58 [mapV bd, mapV bt], .pc (mapPc bt Value.string cntV sOk (T))] (fun _ : Unit => [.blk p 58 [mapV bd, mapV bt], .pc (mapPc bt Value.string cntV sOk (tmG (gI o (textV 100 c.bytes)) T (allN n)))]) (fun _ => .agg (sgI T o n c).abs) := by
  refine spec_of Try.func8 rfl Try.ntmps8 rfl fun G w => ?_
  refine SC.seq (SC.region ?_)
  refine SL.eff (Eff.boxA (cs := c.cells.map .v) rfl) rfl rfl ?_
  rintro _ _ ⟨b7, rfl, rfl⟩
  refine SL.eff (Eff.alloc tabOk rfl) rfl rfl ?_
  rintro _ _ ⟨b8, rfl, rfl⟩
  refine SL.nil (SE.seq ?_)
  refine SC.seq (SC.region ?_)
  refine SL.val (Val.move rfl) rfl rfl ?_
  refine SL.val (Val.move rfl) rfl rfl ?_
  refine SL.val (Val.loadA tabOk rfl rfl rfl (by first|(apply Or.inl;(repeat first|assumption|exact m0|apply m1);done)|(apply Or.inr;(repeat first|assumption|exact m0|apply m1);done)) List.not_mem_nil rfl) rfl rfl ?_
  refine SL.call (cbytes_s (by omega) (by omega)) Casts.refl (by kernel_rfl) rfl rfl rfl ?_
  refine After.pure (by repeat first|exact .nil|refine .blk (by repeat first|assumption|exact m0|apply m1) ?_|refine .rd (by repeat first|assumption|exact m0|apply m1) ?_|refine .pc (by repeat first|assumption|exact m0|apply m1) ?_|refine .rdpc (by repeat first|assumption|exact m0|apply m1) ?_) (fun _ => rfl) ?_
  intro _
  refine SL.val (Val.move rfl) rfl rfl ?_
  refine SL.call (all_s (n := n)) Casts.refl (by kernel_rfl) rfl rfl rfl ?_
  refine After.pure (by repeat first|exact .nil|refine .blk (by repeat first|assumption|exact m0|apply m1) ?_|refine .rd (by repeat first|assumption|exact m0|apply m1) ?_|refine .pc (by repeat first|assumption|exact m0|apply m1) ?_|refine .rdpc (by repeat first|assumption|exact m0|apply m1) ?_) (fun _ => rfl) ?_
  intro _
  refine SL.call (signi_s (k := 100) (f := o) (body := c.bytes) (to := allN n) (q := p) (bd := bd) (bt := bt) (T := T) (by rw [core_len]; omega) hn hT (by have := allN_le n; omega)) Casts.refl (by kernel_rfl) rfl rfl rfl ?_
  refine After.mid [_, _] (β := []) rfl (by intro x hx; simp only [List.mem_cons, List.not_mem_nil, or_false] at hx; rcases hx with rfl | rfl <;> rfl) ?_
  intro _
  refine SL.eff (Eff.alloc tabOk rfl) rfl rfl ?_
  rintro _ _ ⟨b9, rfl, rfl⟩
  refine SL.eff (Eff.store (L' := (Msg.mk 100 o c.bytes (tagsG (gI o (textV 100 c.bytes)) T (allN n))).abs) tabOk rfl rfl rfl (by repeat first|assumption|exact Upd.here|apply Upd.there) rfl (Nat.le_of_ble_eq_true (by rfl)) rfl (by exact putL_whole rfl)) rfl rfl ?_
  rintro _ _ ⟨rfl, rfl⟩
  refine SL.nil (SE.seq ?_)
  refine SC.seq (SC.region ?_)
  refine SL.val (Val.move rfl) rfl rfl ?_
  refine SL.val (Val.fieldAddr tabOk rfl rfl rfl rfl rfl) rfl rfl ?_
  refine SL.val (Val.load1 tabOk rfl rfl (by first|(apply Or.inl;(repeat first|assumption|exact m0|apply m1);done)|(apply Or.inr;(repeat first|assumption|exact m0|apply m1);done)) List.not_mem_nil (by rfl)) rfl rfl ?_
  refine SL.val (Val.buildS (L := (sgI T o n c).abs) tabOk rfl rfl rfl rfl) rfl rfl ?_
  refine SL.eff (Eff.store (L' := (sgI T o n c).abs) tabOk rfl rfl rfl (by repeat first|assumption|exact Upd.here|apply Upd.there) rfl (Nat.le_of_ble_eq_true (by rfl)) rfl (by exact putL_whole rfl)) rfl rfl ?_
  rintro _ _ ⟨rfl, rfl⟩
  refine SL.nil (SE.seq ?_)
  refine SC.ret ?_
  refine SE.fin (rs := [.cell 8 34]) rfl (RV.cell rfl (RV.cellA tabOk rfl rfl (by first|(apply Or.inl;(repeat first|assumption|exact m0|apply m1);done)|(apply Or.inr;(repeat first|assumption|exact m0|apply m1);done)) (by rfl)) RV.nil) (()) (by repeat first|exact s0 _|exact s1 _|apply s2|apply s3) (by simp [It.rids]) ?_
  exact rfl
theorem allN_i64 (n : Int) : ∀ w ∈ allN n, i64r w := fun w hw => by
  unfold allN at hw
  split at hw
  · cases hw
  · obtain ⟨i, hi, rfl⟩ := List.mem_map.1 hw
    rw [List.mem_range] at hi
    unfold i64r
    omega
theorem esignb_s (h1 : c.letter.size ≤ 1000) (h2 : c.text.size ≤ 1000) (hn : Num1 Tb) (hT : Tb.length ≤ 900000) (ho : i64r o) : Spec Try.prog 8 [.ifc 54 (.v (.pointer (some ⟨p, 0, none⟩))), int o, int n, coreA c] [.pc (bkPc p bd bt Dm (Tb))] (fun _ : Unit => [.pc (bkPc p bd bt Dm (tmG (gB o (textV 100 c.bytes)) Tb (allN n)))]) (fun _ => .agg (sgB Tb o n c).abs) := by
  refine spec_of Try.func8 rfl Try.ntmps8 rfl fun G w => ?_
  refine SC.seq (SC.region ?_)
  refine SL.eff (Eff.boxA (cs := c.cells.map .v) rfl) rfl rfl ?_
  rintro _ _ ⟨b7, rfl, rfl⟩
  refine SL.eff (Eff.alloc tabOk rfl) rfl rfl ?_
  rintro _ _ ⟨b8, rfl, rfl⟩
  refine SL.nil (SE.seq ?_)
  refine SC.seq (SC.region ?_)
  refine SL.val (Val.move rfl) rfl rfl ?_
  refine SL.val (Val.move rfl) rfl rfl ?_
  refine SL.val (Val.loadA tabOk rfl rfl rfl (by first|(apply Or.inl;(repeat first|assumption|exact m0|apply m1);done)|(apply Or.inr;(repeat first|assumption|exact m0|apply m1);done)) List.not_mem_nil rfl) rfl rfl ?_
  refine SL.call (cbytes_s (by omega) (by omega)) Casts.refl (by kernel_rfl) rfl rfl rfl ?_
  refine After.pure (by repeat first|exact .nil|refine .blk (by repeat first|assumption|exact m0|apply m1) ?_|refine .rd (by repeat first|assumption|exact m0|apply m1) ?_|refine .pc (by repeat first|assumption|exact m0|apply m1) ?_|refine .rdpc (by repeat first|assumption|exact m0|apply m1) ?_) (fun _ => rfl) ?_
  intro _
  refine SL.val (Val.move rfl) rfl rfl ?_
  refine SL.call (all_s (n := n)) Casts.refl (by kernel_rfl) rfl rfl rfl ?_
  refine After.pure (by repeat first|exact .nil|refine .blk (by repeat first|assumption|exact m0|apply m1) ?_|refine .rd (by repeat first|assumption|exact m0|apply m1) ?_|refine .pc (by repeat first|assumption|exact m0|apply m1) ?_|refine .rdpc (by repeat first|assumption|exact m0|apply m1) ?_) (fun _ => rfl) ?_
  intro _
  refine SL.call (signbk_s (k := 100) (f := o) (body := c.bytes) (to := allN n) (p := p) (bd := bd) (bt := bt) (Dm := Dm) (Tb := Tb) (by rw [core_len]; omega) hn hT (by have := allN_le n; omega) ho (allN_i64 n)) Casts.refl (by kernel_rfl) rfl rfl rfl ?_
  refine After.one rfl (by repeat first|assumption|exact m0|apply m1) (fun _ => rfl) ?_
  intro _
  refine ⟨_, (by repeat first|assumption|exact Upd.here|apply Upd.there), ?_⟩
  refine SL.eff (Eff.alloc tabOk rfl) rfl rfl ?_
  rintro _ _ ⟨b9, rfl, rfl⟩
  refine SL.eff (Eff.store (L' := (Msg.mk 100 o c.bytes (tagsG (gB o (textV 100 c.bytes)) Tb (allN n))).abs) tabOk rfl rfl rfl (by repeat first|assumption|exact Upd.here|apply Upd.there) rfl (Nat.le_of_ble_eq_true (by rfl)) rfl (by exact putL_whole rfl)) rfl rfl ?_
  rintro _ _ ⟨rfl, rfl⟩
  refine SL.nil (SE.seq ?_)
  refine SC.seq (SC.region ?_)
  refine SL.val (Val.move rfl) rfl rfl ?_
  refine SL.val (Val.fieldAddr tabOk rfl rfl rfl rfl rfl) rfl rfl ?_
  refine SL.val (Val.load1 tabOk rfl rfl (by first|(apply Or.inl;(repeat first|assumption|exact m0|apply m1);done)|(apply Or.inr;(repeat first|assumption|exact m0|apply m1);done)) List.not_mem_nil (by rfl)) rfl rfl ?_
  refine SL.val (Val.buildS (L := (sgB Tb o n c).abs) tabOk rfl rfl rfl rfl) rfl rfl ?_
  refine SL.eff (Eff.store (L' := (sgB Tb o n c).abs) tabOk rfl rfl rfl (by repeat first|assumption|exact Upd.here|apply Upd.there) rfl (Nat.le_of_ble_eq_true (by rfl)) rfl (by exact putL_whole rfl)) rfl rfl ?_
  rintro _ _ ⟨rfl, rfl⟩
  refine SL.nil (SE.seq ?_)
  refine SC.ret ?_
  refine SE.fin (rs := [.cell 8 34]) rfl (RV.cell rfl (RV.cellA tabOk rfl rfl (by first|(apply Or.inl;(repeat first|assumption|exact m0|apply m1);done)|(apply Or.inr;(repeat first|assumption|exact m0|apply m1);done)) (by rfl)) RV.nil) (()) (by repeat first|exact s0 _|exact s1 _|apply s2|apply s3) (by simp [It.rids]) ?_
  exact rfl
end
end Go.Proofs.Ytbhjchlflkgjbaa.A
/-
  EndorseMasks: calls whose answers the document fixes.
-/
set_option maxRecDepth 100000
set_option linter.unusedSimpArgs false
set_option linter.unusedVariables false
namespace Go.Proofs.Ytbhjchlflkgjbaa.A
open Go.RowKit

def c13 : Core := ⟨4, 1, 2, ⟨#[97]⟩, 0, 0, ⟨#[]⟩⟩
abbrev t13 : List UInt8 := textV 100 c13.bytes
def T1 : TMap := tmG (gB 2 t13) [] (allN 4)
def T2 : TMap := tmG (gB 0 t13) T1 (allN 4)
def q13 : Rq := ⟨c13, [sgB T1 0 4 c13, sgB [] 2 4 c13]⟩
theorem all4 : allN 4 = [0, 1, 2, 3] := by decide
theorem T1_num : Num1 T1 := tmG_num Num1.nil _ _
theorem T2_num : Num1 T2 := tmG_num T1_num _ _
theorem T1_len : T1.length ≤ 7 := Nat.le_trans (tmG_len _ _ _) (by rw [all4]; decide)
theorem T2_len : T2.length ≤ 20 := Nat.le_trans (tmG_len _ _ _) (by rw [all4]; have := T1_len; simp only [List.length_cons, List.length_nil]; omega)
theorem chk_kept {T : TMap} {g h : Int → (Int × Int) × List UInt8} {l m : List Int} {w : Int} (hw : w ∈ l) : chkG (tmG h (tmG g T l) m) (g w) (tagN (tmG g T l) (g w)).d = true := by
  have h1 : hasK (tmG g T l) (g w) = true := by
    rw [tmG_has, Bool.or_eq_true]
    exact .inr (List.any_eq_true.2 ⟨w, hw, by simp⟩)
  unfold chkG
  rw [tmG_has, h1, Bool.true_or, Bool.true_and, decide_eq_true_iff, tmG_keep h h1 m]
  rfl
theorem chk_new {T : TMap} {g : Int → (Int × Int) × List UInt8} {l : List Int} {w : Int} (hw : w ∈ l) : chkG (tmG g T l) (g w) (tagN (tmG g T l) (g w)).d = true := by
  have h1 : hasK (tmG g T l) (g w) = true := by
    rw [tmG_has, Bool.or_eq_true]
    exact .inr (List.any_eq_true.2 ⟨w, hw, by simp⟩)
  unfold chkG
  rw [h1, Bool.true_and, decide_eq_true_iff]
  rfl
theorem sgB_tags (T : TMap) (o : Int) : (sgB T o 4 c13).tags = [0, 1, 2, 3].map fun w => tagN (tmG (gB o t13) T (allN 4)) (gB o t13 w) := by
  unfold sgB tagsG
  rw [all4]
theorem okE_0 : okE (chkB T2 t13 3) 3 (sgB T1 0 4 c13) = true := by
  have hl : (3 : Nat) < (sgB T1 0 4 c13).tags.length := by rw [sgB_tags]; decide
  rw [show (3 : Int) = ((3 : Nat) : Int) from rfl, okE_yes hl]
  have : (sgB T1 0 4 c13).tags[3] = tagN T2 (gB 0 t13 3) := by simp only [sgB_tags]; rfl
  rw [this]
  exact chk_new (g := gB 0 t13) (w := 3) (by rw [all4]; decide)
theorem okE_2 : okE (chkB T2 t13 3) 3 (sgB [] 2 4 c13) = true := by
  have hl : (3 : Nat) < (sgB [] 2 4 c13).tags.length := by rw [sgB_tags]; decide
  rw [show (3 : Int) = ((3 : Nat) : Int) from rfl, okE_yes hl]
  have : (sgB [] 2 4 c13).tags[3] = tagN T1 (gB 2 t13 3) := by simp only [sgB_tags]; rfl
  rw [this]
  exact chk_kept (g := gB 2 t13) (w := 3) (by rw [all4]; decide)
theorem mask_5 : maskN 4 (okE (chkB T2 t13 3) 3) q13.ends = 5#32 := by
  have h0 : firstOk (okE (chkB T2 t13 3) 3) q13.ends 0 = true := okE_0
  have h1 : firstOk (okE (chkB T2 t13 3) 3) q13.ends 1 = false := rfl
  have h2 : firstOk (okE (chkB T2 t13 3) 3) q13.ends 2 = true := okE_2
  have h3 : firstOk (okE (chkB T2 t13 3) 3) q13.ends 3 = false := rfl
  unfold maskN maskW
  rw [if_pos (by decide)]
  show bitsW 4 _ = _
  refine (bitsW_ext (Q := fun i => decide (i = 0) || decide (i = 2)) (by decide) fun i hi => ?_).trans (by decide)
  rcases (by omega : i = 0 ∨ i = 1 ∨ i = 2 ∨ i = 3) with e | e | e | e <;> subst e
  · exact h0
  · exact h1
  · exact h2
  · exact h3
theorem mask_0 : maskN 4 (okE (chkB T2 t13 4) 4) q13.ends = 0#32 := by
  have f : ∀ e ∈ q13.ends, okE (chkB T2 t13 4) 4 e = false := fun e he => by
    refine okE_far ?_
    rcases List.mem_cons.1 he with rfl | he
    · rw [sgB_tags]; decide
    · rw [List.mem_singleton.1 he, sgB_tags]; decide
  have h : ∀ i, firstOk (okE (chkB T2 t13 4) 4) q13.ends i = false := fun i => by
    unfold firstOk
    cases hf : q13.ends.find? fun x => decide (x.org = (i : Int)) with
    | none => rfl
    | some e => exact f e (List.mem_of_find?_eq_some hf)
  unfold maskN maskW
  rw [if_pos (by decide)]
  show bitsW 4 _ = _
  exact (bitsW_ext (Q := fun _ => false) (by decide) fun i hi => h i).trans (by decide)
theorem agg_cast {xs ys : List Abs} (h : Casts xs ys) : ∀ K w u, rep K w (.agg xs) u → rep K w (.agg ys) u := fun K w u ⟨us, h1, h2⟩ => ⟨us, h1, h K w us h2⟩
theorem en_4 : (decide ((Frm.mk 2 0 []).check 4 = 0) && (Frm.mk 2 0 []).holds 4#32) = true := by
  rw [Frm.holds_leaf, decide_eq_true (Frm.check_ok.2 ⟨by omega, by rw [Frm.nodes_mk]; simp [Frm.nodess], by rw [Frm.depth_mk]; simp [Frm.depths], by rw [Frm.ranges_leaf]; decide⟩)]
  decide
theorem en_2 : (decide ((Frm.mk 2 0 []).check 2 = 0) && (Frm.mk 2 0 []).holds 4#32) = false := by
  rw [decide_eq_false fun h => by
    have h1 := (Frm.check_ok.1 h).2.2.2
    rw [Frm.ranges_leaf] at h1
    exact absurd h1 (by decide), Bool.false_and]
theorem neb {p q : Bool} (h : p = q) : (p != q) = false := by subst h; cases p <;> rfl
set_option maxHeartbeats 4000000 in
theorem fixed13_s  : Spec Try.prog 5 [] [] (fun _ : Unit => []) (fun _ => boo true) := by
  refine spec_of Try.func5 rfl Try.ntmps5 rfl fun G w => ?_
  refine SC.seq (SC.region ?_)
  refine SL.val (Val.assign rfl) rfl rfl ?_
  refine SL.nil (SE.seq ?_)
  refine SC.seq (SC.region ?_)
  refine SL.call (bknew_s) Casts.refl (by kernel_rfl) rfl rfl rfl ?_
  refine After.make (by repeat (first | exact Reads.nil | (refine Reads.blk ?_ ?_; focus ((repeat first|assumption|exact m0|apply m1); done)) | (refine Reads.rd ?_ ?_; focus ((repeat first|assumption|exact m0|apply m1); done)) | (refine Reads.pc ?_ ?_; focus ((repeat first|assumption|exact m0|apply m1); done)) | (refine Reads.rdpc ?_ ?_; focus ((repeat first|assumption|exact m0|apply m1); done)))) (fun _ => rfl) ?_
  intro z
  refine SL.val (Val.assign rfl) rfl rfl ?_
  refine SL.nil (SE.seq ?_)
  refine SC.seq (SC.region ?_)
  refine SL.val (Val.buildS (L := c13.cells.map .v) tabOk rfl rfl rfl rfl) rfl rfl ?_
  refine SL.val (Val.buildS (L := c13.cells.map .v ++ [.v (.slice none 0 0)]) tabOk rfl rfl rfl rfl) rfl rfl ?_
  refine SL.cast (t := 5) (.agg (Rq.mk c13 []).abs) rfl (agg_cast (by repeat (first | exact Casts.nils Casts.refl | apply Casts.keep))) ?_
  refine SL.eff (Eff.alloc tabOk rfl) rfl rfl ?_
  rintro _ _ ⟨b2, rfl, rfl⟩
  refine SL.eff (Eff.store (L' := (Rq.mk c13 []).abs) tabOk rfl rfl rfl (by repeat first|assumption|exact Upd.here|apply Upd.there) rfl (Nat.le_of_ble_eq_true (by rfl)) rfl (by exact putL_whole rfl)) rfl rfl ?_
  rintro _ _ ⟨rfl, rfl⟩
  refine SL.nil (SE.seq ?_)
  refine SC.seq ?_
  refine SC.known (p := b2 ∉ [z.1, z.2.1, z.2.2]) (fun _ _ h => by
      have h1 := h.mem.nodup
      simp [mids, It.mids, bkPc] at h1 ⊢
      grind) fun hX => ?_
  refine SC.drawZ [z.1, z.2.1, z.2.2] (.q 0 (.q 1 (.q 2 (.q 3 (.q 4 (.q 7 (.q 8 (.q 9 (.q 10 (.e 5 (.e 6 (.e 11 (.e 12 .nil))))))))))))) (by kernel_rfl) (by kernel_rfl) ?_
  refine SX.val rfl (Val.loadA tabOk rfl rfl rfl (by first|(apply Or.inl;(repeat first|assumption|exact m0|apply m1);done)|(apply Or.inr;(repeat first|assumption|exact m0|apply m1);done)) hX rfl) (by first | (simp [mids, It.mids, ownPc, bkPc, mapPc]; done) | (intro k hk; simp [mids, It.mids, ownPc, bkPc, mapPc] at hk ⊢; grind)) rfl rfl ?_
  refine SX.val rfl (Val.move rfl) (by first | (simp [mids, It.mids, ownPc, bkPc, mapPc]; done) | (intro k hk; simp [mids, It.mids, ownPc, bkPc, mapPc] at hk ⊢; grind)) rfl rfl ?_
  refine SX.val rfl (Val.makeIface rfl (fun _ _ => by kernel_rfl)) (by first | (simp [mids, It.mids, ownPc, bkPc, mapPc]; done) | (intro k hk; simp [mids, It.mids, ownPc, bkPc, mapPc] at hk ⊢; grind)) rfl rfl ?_
  refine SX.val rfl (Val.fieldAddr tabOk rfl rfl rfl rfl rfl) (by first | (simp [mids, It.mids, ownPc, bkPc, mapPc]; done) | (intro k hk; simp [mids, It.mids, ownPc, bkPc, mapPc] at hk ⊢; grind)) rfl rfl ?_
  refine SX.val rfl (Val.to (C := coreA (Rq.mk c13 []).core) (Val.loadP tabOk rfl rfl rfl (by first|(apply Or.inl;(repeat first|assumption|exact m0|apply m1);done)|(apply Or.inr;(repeat first|assumption|exact m0|apply m1);done)) hX (Nat.le_of_ble_eq_true (by rfl))) (congrArg Abs.agg (Rq.part _))) (by first | (simp [mids, It.mids, ownPc, bkPc, mapPc]; done) | (intro k hk; simp [mids, It.mids, ownPc, bkPc, mapPc] at hk ⊢; grind)) rfl rfl ?_
  refine SX.val rfl (Val.move rfl) (by first | (simp [mids, It.mids, ownPc, bkPc, mapPc]; done) | (intro k hk; simp [mids, It.mids, ownPc, bkPc, mapPc] at hk ⊢; grind)) rfl rfl ?_
  refine SX.val rfl (Val.makeIface rfl (fun _ _ => by kernel_rfl)) (by first | (simp [mids, It.mids, ownPc, bkPc, mapPc]; done) | (intro k hk; simp [mids, It.mids, ownPc, bkPc, mapPc] at hk ⊢; grind)) rfl rfl ?_
  refine SX.val rfl (Val.fieldAddr tabOk rfl rfl rfl rfl rfl) (by first | (simp [mids, It.mids, ownPc, bkPc, mapPc]; done) | (intro k hk; simp [mids, It.mids, ownPc, bkPc, mapPc] at hk ⊢; grind)) rfl rfl ?_
  refine SX.val rfl (Val.to (C := coreA (Rq.mk c13 []).core) (Val.loadP tabOk rfl rfl rfl (by first|(apply Or.inl;(repeat first|assumption|exact m0|apply m1);done)|(apply Or.inr;(repeat first|assumption|exact m0|apply m1);done)) hX (Nat.le_of_ble_eq_true (by rfl))) (congrArg Abs.agg (Rq.part _))) (by first | (simp [mids, It.mids, ownPc, bkPc, mapPc]; done) | (intro k hk; simp [mids, It.mids, ownPc, bkPc, mapPc] at hk ⊢; grind)) rfl rfl ?_
  refine SX.call rfl (esignb_s (o := 2) (n := 4) (c := c13) (p := z.1) (bd := z.2.1) (bt := z.2.2) (Dm := []) (Tb := []) (by decide) (by decide) Num1.nil (by decide) (by unfold i64r; omega)) (by simp [mids, It.mids, bkPc]) Casts.refl (by kernel_rfl) rfl rfl rfl ?_
  refine After.one rfl (by repeat first|assumption|exact m0|apply m1) (fun _ => rfl) ?_
  intro _
  refine ⟨_, (by repeat first|assumption|exact Upd.here|apply Upd.there), ?_⟩
  refine SX.call rfl (with_s (q := (Rq.mk c13 [])) (e := sgB [] 2 4 c13) (by decide) (by rw [sgB_tags]; decide)) (by simp [mids, It.mids]) Casts.refl (by kernel_rfl) rfl rfl rfl ?_
  refine After.pure (by repeat (first | exact Reads.nil | (refine Reads.blk ?_ ?_; focus ((repeat first|assumption|exact m0|apply m1); done)) | (refine Reads.rd ?_ ?_; focus ((repeat first|assumption|exact m0|apply m1); done)) | (refine Reads.pc ?_ ?_; focus ((repeat first|assumption|exact m0|apply m1); done)) | (refine Reads.rdpc ?_ ?_; focus ((repeat first|assumption|exact m0|apply m1); done)))) (fun _ => rfl) ?_
  intro _
  rw [show withL (Rq.mk c13 []).ends (sgB [] 2 4 c13) = [sgB [] 2 4 c13] from rfl]
  refine SX.call rfl (esignb_s (o := 0) (n := 4) (c := c13) (p := z.1) (bd := z.2.1) (bt := z.2.2) (Dm := []) (Tb := T1) (by decide) (by decide) T1_num (by have := T1_len; omega) (by unfold i64r; omega)) (by simp [mids, It.mids, bkPc]) Casts.refl (by kernel_rfl) rfl rfl rfl ?_
  refine After.one rfl (by repeat first|assumption|exact m0|apply m1) (fun _ => rfl) ?_
  intro _
  refine ⟨_, (by repeat first|assumption|exact Upd.here|apply Upd.there), ?_⟩
  refine SX.call rfl (with_s (q := (Rq.mk c13 [sgB [] 2 4 c13])) (e := sgB T1 0 4 c13) (by simp) (by rw [sgB_tags]; decide)) (by simp [mids, It.mids]) Casts.refl (by kernel_rfl) rfl rfl rfl ?_
  refine After.pure (by repeat (first | exact Reads.nil | (refine Reads.blk ?_ ?_; focus ((repeat first|assumption|exact m0|apply m1); done)) | (refine Reads.rd ?_ ?_; focus ((repeat first|assumption|exact m0|apply m1); done)) | (refine Reads.pc ?_ ?_; focus ((repeat first|assumption|exact m0|apply m1); done)) | (refine Reads.rdpc ?_ ?_; focus ((repeat first|assumption|exact m0|apply m1); done)))) (fun _ => rfl) ?_
  intro _
  rw [show (Rq.mk (Rq.mk c13 [sgB [] 2 4 c13]).core (withL (Rq.mk c13 [sgB [] 2 4 c13]).ends (sgB T1 0 4 c13))) = q13 from rfl]
  refine SX.nil ?_
  refine SE.effZ rfl (Eff.store (L' := q13.abs) tabOk rfl rfl rfl (by repeat first|assumption|exact Upd.here|apply Upd.there) rfl (Nat.le_of_ble_eq_true (by rfl)) rfl (by exact putL_whole rfl)) rfl rfl ?_
  rintro _ _ ⟨rfl, rfl⟩
  refine SE.seq ?_
  refine SC.seq (SC.region ?_)
  refine SL.val (Val.fieldAddr tabOk rfl rfl rfl rfl rfl) rfl rfl ?_
  refine SL.val (Val.load1 tabOk rfl rfl (by first|(apply Or.inl;(repeat first|assumption|exact m0|apply m1);done)|(apply Or.inr;(repeat first|assumption|exact m0|apply m1);done)) List.not_mem_nil (by rfl)) rfl rfl ?_
  first
    | refine SL.val (Val.lenSl rfl Try.underlying24 (List.length_map _)) rfl rfl ?_
    | refine SL.val (Val.lenOwn rfl (by repeat first|assumption|exact m0|apply m1) Try.underlying24 (List.length_map _)) rfl rfl ?_
    | refine SL.val (Val.lenNil rfl Try.underlying24) rfl rfl ?_
  refine SL.val (Val.to (C := boo true) (Val.eqI rfl rfl) (congrArg (fun b => Abs.v (Value.bool b)) (rfl))) rfl rfl ?_
  refine SL.val (Val.move rfl) rfl rfl ?_
  refine SL.val (Val.fieldAddr tabOk rfl rfl rfl rfl rfl) rfl rfl ?_
  refine SL.val (Val.load1 tabOk rfl rfl (by first|(apply Or.inl;(repeat first|assumption|exact m0|apply m1);done)|(apply Or.inr;(repeat first|assumption|exact m0|apply m1);done)) List.not_mem_nil (by rfl)) rfl rfl ?_
  refine SL.val (Val.indexSl (q := 0) tabOk Try.underlying24 rfl rfl rfl rfl rfl rfl rfl) rfl rfl ?_
  first
    | refine SL.val (Val.fieldAddr tabOk rfl rfl rfl rfl rfl) rfl rfl ?_
    | refine SL.val (Val.fieldAddrR tabOk rfl rfl rfl rfl rfl) rfl rfl ?_
  refine SL.val (Val.to (C := int 0) (Val.load1R tabOk rfl rfl rfl) rfl) rfl rfl ?_
  refine SL.val (Val.to (C := boo true) (Val.eqI rfl rfl) (congrArg (fun b => Abs.v (Value.bool b)) (rfl))) rfl rfl ?_
  refine SL.val (Val.pickT rfl rfl) rfl rfl ?_
  refine SL.val (Val.move rfl) rfl rfl ?_
  refine SL.val (Val.move rfl) rfl rfl ?_
  refine SL.val (Val.makeIface rfl (fun _ _ => by kernel_rfl)) rfl rfl ?_
  refine SL.val (Val.loadA tabOk rfl rfl rfl (by first|(apply Or.inl;(repeat first|assumption|exact m0|apply m1);done)|(apply Or.inr;(repeat first|assumption|exact m0|apply m1);done)) List.not_mem_nil rfl) rfl rfl ?_
  refine SL.call (maskb_s (q := q13) (n := 4) (who := 3) (p := z.1) (bd := z.2.1) (bt := z.2.2) (Dm := []) (Tb := T2) (by decide) (by decide) (by simp [q13]) T2_num (by have := T2_len; omega) (by intro e he; simp only [q13, List.mem_cons, List.not_mem_nil, or_false] at he; rcases he with rfl | rfl <;> (unfold sgB i64r; dsimp only; omega)) (by unfold i64r; omega)) Casts.refl (by kernel_rfl) rfl rfl rfl ?_
  refine After.one rfl (by repeat first|assumption|exact m0|apply m1) (fun _ => rfl) ?_
  intro _
  refine ⟨_, (by repeat first|assumption|exact Upd.here|apply Upd.there), ?_⟩
  rw [show textV 100 q13.core.bytes = t13 from rfl, mask_5]
  refine SL.val (Val.to (C := boo true) (Val.eqI rfl rfl) (congrArg (fun b => Abs.v (Value.bool b)) (rfl))) rfl rfl ?_
  refine SL.val (Val.pickT rfl rfl) rfl rfl ?_
  refine SL.val (Val.move rfl) rfl rfl ?_
  refine SL.val (Val.move rfl) rfl rfl ?_
  refine SL.val (Val.makeIface rfl (fun _ _ => by kernel_rfl)) rfl rfl ?_
  refine SL.val (Val.loadA tabOk rfl rfl rfl (by first|(apply Or.inl;(repeat first|assumption|exact m0|apply m1);done)|(apply Or.inr;(repeat first|assumption|exact m0|apply m1);done)) List.not_mem_nil rfl) rfl rfl ?_
  refine SL.call (maskb_s (q := q13) (n := 4) (who := 4) (p := z.1) (bd := z.2.1) (bt := z.2.2) (Dm := []) (Tb := T2) (by decide) (by decide) (by simp [q13]) T2_num (by have := T2_len; omega) (by intro e he; simp only [q13, List.mem_cons, List.not_mem_nil, or_false] at he; rcases he with rfl | rfl <;> (unfold sgB i64r; dsimp only; omega)) (by unfold i64r; omega)) Casts.refl (by kernel_rfl) rfl rfl rfl ?_
  refine After.one rfl (by repeat first|assumption|exact m0|apply m1) (fun _ => rfl) ?_
  intro _
  refine ⟨_, (by repeat first|assumption|exact Upd.here|apply Upd.there), ?_⟩
  rw [show textV 100 q13.core.bytes = t13 from rfl, mask_0]
  refine SL.val (Val.to (C := boo true) (Val.eqI rfl rfl) (congrArg (fun b => Abs.v (Value.bool b)) (rfl))) rfl rfl ?_
  refine SL.val (Val.pickT rfl rfl) rfl rfl ?_
  refine SL.val (Val.move rfl) rfl rfl ?_
  refine SL.val (Val.buildS (L := [int 2, int 0, .v (.slice none 0 0)]) tabOk rfl rfl rfl rfl) rfl rfl ?_
  refine SL.cast (t := 46) (.agg (Frm.mk 2 0 []).abs) rfl (agg_cast (by rw [Frm.abs_mk]; exact Casts.keep (Casts.keep (Casts.nils Casts.refl)))) ?_
  refine SL.call (enough_s (f := (Frm.mk 2 0 [])) (s := 4#32) (n := 4) (by rw [Frm.nodes_mk]; decide)) Casts.refl (by kernel_rfl) rfl rfl rfl ?_
  refine After.pure (by repeat (first | exact Reads.nil | (refine Reads.blk ?_ ?_; focus ((repeat first|assumption|exact m0|apply m1); done)) | (refine Reads.rd ?_ ?_; focus ((repeat first|assumption|exact m0|apply m1); done)) | (refine Reads.pc ?_ ?_; focus ((repeat first|assumption|exact m0|apply m1); done)) | (refine Reads.rdpc ?_ ?_; focus ((repeat first|assumption|exact m0|apply m1); done)))) (fun _ => rfl) ?_
  intro _
  rw [show (decide ((Frm.mk 2 0 []).check 4 = 0) && (Frm.mk 2 0 []).holds 4#32) = true from en_4]
  refine SL.val (Val.pickT rfl rfl) rfl rfl ?_
  refine SL.val (Val.move rfl) rfl rfl ?_
  refine SL.val (Val.buildS (L := [int 2, int 0, .v (.slice none 0 0)]) tabOk rfl rfl rfl rfl) rfl rfl ?_
  refine SL.cast (t := 50) (.agg (Frm.mk 2 0 []).abs) rfl (agg_cast (by rw [Frm.abs_mk]; exact Casts.keep (Casts.keep (Casts.nils Casts.refl)))) ?_
  refine SL.call (enough_s (f := (Frm.mk 2 0 [])) (s := 4#32) (n := 2) (by rw [Frm.nodes_mk]; decide)) Casts.refl (by kernel_rfl) rfl rfl rfl ?_
  refine After.pure (by repeat (first | exact Reads.nil | (refine Reads.blk ?_ ?_; focus ((repeat first|assumption|exact m0|apply m1); done)) | (refine Reads.rd ?_ ?_; focus ((repeat first|assumption|exact m0|apply m1); done)) | (refine Reads.pc ?_ ?_; focus ((repeat first|assumption|exact m0|apply m1); done)) | (refine Reads.rdpc ?_ ?_; focus ((repeat first|assumption|exact m0|apply m1); done)))) (fun _ => rfl) ?_
  intro _
  rw [show (decide ((Frm.mk 2 0 []).check 2 = 0) && (Frm.mk 2 0 []).holds 4#32) = false from en_2]
  refine SL.val (Val.notF rfl) rfl rfl ?_
  refine SL.val (Val.pickT rfl rfl) rfl rfl ?_
  refine SL.val (Val.assign rfl) rfl rfl ?_
  refine SL.nil (SE.seq ?_)
  refine SC.ret ?_
  refine SE.fin (rs := [.tmp 0]) rfl (RV.tmp rfl RV.nil) (()) (by repeat first|exact s0 _|exact s1 _|apply s2|apply s3) (by simp [It.rids]) ?_
  exact rfl
end Go.Proofs.Ytbhjchlflkgjbaa.A
