/-
  Packed out of the texts: S1, S2, S3, A9, S4, T5, T6.
-/
import Derived.Test.YtgfndlibbfamfaaH06
/-
  Sums: words, the schedule.
-/
set_option maxRecDepth 100000
set_option linter.unusedSimpArgs false
set_option linter.unusedVariables false
namespace Go.Proofs.Ytgfndlibbfamfaa.A
open Go.RowKit

theorem lsched (l : List UInt8) : (lA (sched l)).length = 64 := by rw [lA_length, sched_length]
section
variable {l : List UInt8} {r : R8}
theorem turn_s {x : Wo} {m : Int} (n : Nat) (hm : m = (n : Nat)) (h : n < 32) : Spec Try.prog 50 [u32 x, int m] [] (fun _ : Unit => []) (fun _ => u32 (rot x n)) := by
  refine spec_of Try.func50 rfl Try.ntmps50 rfl fun G w => ?_
  refine SC.seq (SC.region ?_)
  refine SL.val (Val.assign rfl) rfl rfl ?_
  refine SL.nil (SE.seq ?_)
  refine SC.seq (SC.region ?_)
  refine SL.val (Val.move rfl) rfl rfl ?_
  first
    | refine SL.val (Val.convI rfl Try.underlying70 (by kernel_rfl) (by simp only [InR, lo, hi]; omega)) rfl rfl ?_
    | refine SL.val (Val.convU rfl Try.underlying70 (by kernel_rfl)) rfl rfl ?_
  first
    | refine SL.val (Val.remI rfl rfl (by omega)) rfl rfl ?_
    | refine SL.val (Val.remT rfl rfl (by omega)) rfl rfl ?_
  refine SL.val (Val.assign rfl) rfl rfl ?_
  refine SL.nil (SE.seq ?_)
  refine SC.seq (SC.region ?_)
  refine SL.val (Val.move rfl) rfl rfl ?_
  refine SL.val (Val.move rfl) rfl rfl ?_
  refine SL.val (Val.shrB (m := n) rfl rfl (by first | rfl | omega)) rfl rfl ?_
  refine SL.val (Val.move rfl) rfl rfl ?_
  refine SL.val (Val.move rfl) rfl rfl ?_
  first
    | refine SL.val (Val.subI rfl rfl (by simp only [InR, lo, hi]; omega)) rfl rfl ?_
    | refine SL.val (Val.subW rfl rfl) rfl rfl ?_
  refine SL.val (Val.shlB (m := 32 - n) rfl rfl (by first | rfl | omega)) rfl rfl ?_
  refine SL.val (Val.orW rfl rfl) rfl rfl ?_
  refine SL.val (Val.assign rfl) rfl rfl ?_
  refine SL.nil (SE.seq ?_)
  refine SC.ret ?_
  refine SE.fin (rs := [.tmp 4]) rfl (RV.tmp rfl RV.nil) (()) (by repeat first|exact s0 _|exact s1 _|apply s2|apply s3) (by simp [It.rids]) ?_
  exact rfl
theorem mix_s {x : Wo} {a' b' c' : Int} (a b c : Nat) (ha : a' = (a : Nat)) (hb : b' = (b : Nat)) (hc : c' = (c : Nat)) (h1 : a < 32) (h2 : b < 32) (h3 : c < 32) : Spec Try.prog 43 [u32 x, int a', int b', int c'] [] (fun _ : Unit => []) (fun _ => u32 (mixW x a b c)) := by
  refine spec_of Try.func43 rfl Try.ntmps43 rfl fun G w => ?_
  refine SC.seq (SC.region ?_)
  refine SL.val (Val.assign rfl) rfl rfl ?_
  refine SL.nil (SE.seq ?_)
  refine SC.seq (SC.region ?_)
  refine SL.val (Val.move rfl) rfl rfl ?_
  refine SL.val (Val.move rfl) rfl rfl ?_
  refine SL.call (turn_s a ha h1) Casts.refl (by kernel_rfl) rfl rfl rfl ?_
  refine After.pure (by repeat first|exact .nil|refine .blk (by repeat first|assumption|exact m0|apply m1) ?_|refine .rd (by repeat first|assumption|exact m0|apply m1) ?_|refine .pc (by repeat first|assumption|exact m0|apply m1) ?_|refine .rdpc (by repeat first|assumption|exact m0|apply m1) ?_) (fun _ => rfl) ?_
  intro _
  refine SL.val (Val.move rfl) rfl rfl ?_
  refine SL.val (Val.move rfl) rfl rfl ?_
  refine SL.call (turn_s b hb h2) Casts.refl (by kernel_rfl) rfl rfl rfl ?_
  refine After.pure (by repeat first|exact .nil|refine .blk (by repeat first|assumption|exact m0|apply m1) ?_|refine .rd (by repeat first|assumption|exact m0|apply m1) ?_|refine .pc (by repeat first|assumption|exact m0|apply m1) ?_|refine .rdpc (by repeat first|assumption|exact m0|apply m1) ?_) (fun _ => rfl) ?_
  intro _
  refine SL.val (Val.xorW rfl rfl) rfl rfl ?_
  refine SL.val (Val.move rfl) rfl rfl ?_
  refine SL.val (Val.move rfl) rfl rfl ?_
  refine SL.call (turn_s c hc h3) Casts.refl (by kernel_rfl) rfl rfl rfl ?_
  refine After.pure (by repeat first|exact .nil|refine .blk (by repeat first|assumption|exact m0|apply m1) ?_|refine .rd (by repeat first|assumption|exact m0|apply m1) ?_|refine .pc (by repeat first|assumption|exact m0|apply m1) ?_|refine .rdpc (by repeat first|assumption|exact m0|apply m1) ?_) (fun _ => rfl) ?_
  intro _
  refine SL.val (Val.xorW rfl rfl) rfl rfl ?_
  refine SL.val (Val.assign rfl) rfl rfl ?_
  refine SL.nil (SE.seq ?_)
  refine SC.ret ?_
  refine SE.fin (rs := [.tmp 8]) rfl (RV.tmp rfl RV.nil) (()) (by repeat first|exact s0 _|exact s1 _|apply s2|apply s3) (by simp [It.rids]) ?_
  exact rfl
theorem first_s  : Spec Try.prog 40 [] [] (fun _ : Unit => []) (fun _ => .agg (lA firstR.l)) := by
  refine spec_of Try.func40 rfl Try.ntmps40 rfl fun G w => ?_
  refine SC.seq (SC.region ?_)
  refine SL.eff (Eff.alloc tabOk rfl) rfl rfl ?_
  rintro _ _ ⟨b0, rfl, rfl⟩
  refine SL.nil (SE.seq ?_)
  refine SC.seq (SC.region ?_)
  refine SL.val (Val.buildA tabOk rfl rfl rfl rfl) rfl rfl ?_
  refine SL.eff (Eff.store tabOk rfl rfl rfl (by repeat first|assumption|exact Upd.here|apply Upd.there) (by rfl) (Nat.le_of_ble_eq_true (by rfl)) (by rfl) (by rfl)) rfl rfl ?_
  rintro _ _ ⟨rfl, rfl⟩
  refine SL.nil (SE.seq ?_)
  refine SC.ret ?_
  refine SE.fin (rs := [.cell 0 76]) rfl (RV.cell rfl (RV.cellA tabOk rfl rfl (by first|(apply Or.inl;(repeat first|assumption|exact m0|apply m1);done)|(apply Or.inr;(repeat first|assumption|exact m0|apply m1);done)) (by rfl)) RV.nil) (()) (by repeat first|exact s0 _|exact s1 _|apply s2|apply s3) (by simp [It.rids]) ?_
  exact rfl
theorem rounds_s  : Spec Try.prog 41 [] [] (fun _ : Unit => []) (fun _ => .agg (lA roundsL)) := by
  refine spec_of Try.func41 rfl Try.ntmps41 rfl fun G w => ?_
  refine SC.seq (SC.region ?_)
  refine SL.eff (Eff.alloc tabOk rfl) rfl rfl ?_
  rintro _ _ ⟨b0, rfl, rfl⟩
  refine SL.nil (SE.seq ?_)
  refine SC.seq (SC.region ?_)
  refine SL.val (Val.buildA tabOk rfl rfl rfl rfl) rfl rfl ?_
  refine SL.eff (Eff.store tabOk rfl rfl rfl (by repeat first|assumption|exact Upd.here|apply Upd.there) (by rfl) (Nat.le_of_ble_eq_true (by rfl)) (by rfl) (by rfl)) rfl rfl ?_
  rintro _ _ ⟨rfl, rfl⟩
  refine SL.nil (SE.seq ?_)
  refine SC.ret ?_
  refine SE.fin (rs := [.cell 0 94]) rfl (RV.cell rfl (RV.cellA tabOk rfl rfl (by first|(apply Or.inl;(repeat first|assumption|exact m0|apply m1);done)|(apply Or.inr;(repeat first|assumption|exact m0|apply m1);done)) (by rfl)) RV.nil) (()) (by repeat first|exact s0 _|exact s1 _|apply s2|apply s3) (by simp [It.rids]) ?_
  exact rfl
set_option maxHeartbeats 2000000 in
theorem schedule_s (h : 64 ≤ l.length) (hl : l.length ≤ 4611686018427387904) : Spec Try.prog 42 [byt l] [] (fun _ : Unit => []) (fun _ => .agg (lA (sched l))) := by
  refine spec_of Try.func42 rfl Try.ntmps42 rfl fun G w => ?_
  refine SC.seq (SC.region ?_)
  refine SL.eff (Eff.alloc tabOk rfl) rfl rfl ?_
  rintro _ _ ⟨b2, rfl, rfl⟩
  refine SL.nil (SE.seq ?_)
  refine SC.seq (SC.region ?_)
  refine SL.eff (Eff.alloc tabOk rfl) rfl rfl ?_
  rintro _ _ ⟨b3, rfl, rfl⟩
  refine SL.nil (SE.seq ?_)
  refine SC.seq ?_
  refine SC.seq (SC.region ?_)
  refine SL.val (Val.move rfl) rfl rfl ?_
  refine SL.nil (SE.seq ?_)
  refine SC.block ?_
  refine SC.loop (ι := Nat) (fun z => [.blk b3 94 (lA (sched0 l z ++ List.replicate (64 - z) 0)), .blk b2 94 (lA (List.replicate 64 0))]) (fun z => [(0, byt l), (2, ptr b2), (3, ptr b3), (9, int (z : Nat))]) (fun z => z ≤ 16) (fun z => 16 - z) (0) (by decide) (by exact ⟨rfl, rfl, rfl, rfl, trivial⟩) (by repeat first|exact s0 _|exact s1 _|apply s2|apply s3) ?_
  intro z hz
  refine SC.seq (SC.region ?_)
  refine SL.val (Val.ltI rfl rfl) rfl rfl ?_
  refine SL.nil (SE.seq ?_)
  refine SC.seq ?_
  refine SC.condP rfl ?_ ?_
  · intro hc10
    refine SC.skip ?_
    refine SE.seq ?_
    refine SC.seq ?_
    refine SC.block ?_
    refine SC.seq (SC.region ?_)
    refine SL.val (Val.move rfl) rfl rfl ?_
    refine SL.val (Val.assign rfl) rfl rfl ?_
    refine SL.nil (SE.seq ?_)
    refine SC.seq (SC.region ?_)
    refine SL.val (Val.move rfl) rfl rfl ?_
    refine SL.val (Val.move rfl) rfl rfl ?_
    first
      | refine SL.val (Val.mulI rfl rfl (by simp only [InR, lo, hi]; omega)) rfl rfl ?_
      | refine SL.val (Val.mulW rfl rfl) rfl rfl ?_
    refine SL.val (Val.to (Val.sliceLo (q := 4 * z) tabOk Try.underlying22 rfl rfl rfl rfl (by omega) (by rw [List.length_map]; omega)) (congrArg (Abs.sl 1) List.map_drop.symm)) rfl rfl ?_
    refine SL.val (Val.assign rfl) rfl rfl ?_
    refine SL.nil (SE.seq ?_)
    refine SC.drawZ [] (.q 0 (.q 1 (.q 2 (.q 3 (.q 4 (.q 5 (.q 6 (.q 7 (.q 8 (.q 9 (.q 10 (.q 11 (.q 12 (.q 13 (.q 14 (.q 15 (.q 16 (.q 17 (.q 18 (.q 19 (.q 20 (.q 21 (.q 22 (.q 23 .nil)))))))))))))))))))))))) (by kernel_rfl) (by kernel_rfl) ?_
    refine SX.val rfl (Val.move rfl) (by simp) rfl rfl ?_
    refine SX.val rfl (Val.move rfl) (by simp) rfl rfl ?_
    refine SX.val rfl (Val.indexSl (q := 0) tabOk Try.underlying22 rfl rfl rfl rfl (byt_at (by omega)) rfl rfl) (by first|(simp[mids,It.mids,ownPc];done)|(intro k hk;simp[mids,It.mids,ownPc] at hk ⊢;grind)) rfl rfl ?_
    refine SX.val rfl (Val.load1R tabOk rfl rfl rfl) (by simp) rfl rfl ?_
    refine SX.val rfl (Val.conv8 rfl Try.underlying74 (by kernel_rfl)) (by first|(simp[mids,It.mids,ownPc];done)|(intro k hk;simp[mids,It.mids,ownPc] at hk ⊢;grind)) rfl rfl ?_
    refine SX.val rfl (Val.shlB (m := 24) rfl rfl (by first | rfl | omega)) (by first|(simp[mids,It.mids,ownPc];done)|(intro k hk;simp[mids,It.mids,ownPc] at hk ⊢;grind)) rfl rfl ?_
    refine SX.val rfl (Val.move rfl) (by simp) rfl rfl ?_
    refine SX.val rfl (Val.indexSl (q := 1) tabOk Try.underlying22 rfl rfl rfl rfl (byt_at (by omega)) rfl rfl) (by first|(simp[mids,It.mids,ownPc];done)|(intro k hk;simp[mids,It.mids,ownPc] at hk ⊢;grind)) rfl rfl ?_
    refine SX.val rfl (Val.load1R tabOk rfl rfl rfl) (by simp) rfl rfl ?_
    refine SX.val rfl (Val.conv8 rfl Try.underlying74 (by kernel_rfl)) (by first|(simp[mids,It.mids,ownPc];done)|(intro k hk;simp[mids,It.mids,ownPc] at hk ⊢;grind)) rfl rfl ?_
    refine SX.val rfl (Val.shlB (m := 16) rfl rfl (by first | rfl | omega)) (by first|(simp[mids,It.mids,ownPc];done)|(intro k hk;simp[mids,It.mids,ownPc] at hk ⊢;grind)) rfl rfl ?_
    refine SX.val rfl (Val.orW rfl rfl) (by first|(simp[mids,It.mids,ownPc];done)|(intro k hk;simp[mids,It.mids,ownPc] at hk ⊢;grind)) rfl rfl ?_
    refine SX.val rfl (Val.move rfl) (by simp) rfl rfl ?_
    refine SX.val rfl (Val.indexSl (q := 2) tabOk Try.underlying22 rfl rfl rfl rfl (byt_at (by omega)) rfl rfl) (by first|(simp[mids,It.mids,ownPc];done)|(intro k hk;simp[mids,It.mids,ownPc] at hk ⊢;grind)) rfl rfl ?_
    refine SX.val rfl (Val.load1R tabOk rfl rfl rfl) (by simp) rfl rfl ?_
    refine SX.val rfl (Val.conv8 rfl Try.underlying74 (by kernel_rfl)) (by first|(simp[mids,It.mids,ownPc];done)|(intro k hk;simp[mids,It.mids,ownPc] at hk ⊢;grind)) rfl rfl ?_
    refine SX.val rfl (Val.shlB (m := 8) rfl rfl (by first | rfl | omega)) (by first|(simp[mids,It.mids,ownPc];done)|(intro k hk;simp[mids,It.mids,ownPc] at hk ⊢;grind)) rfl rfl ?_
    refine SX.val rfl (Val.orW rfl rfl) (by first|(simp[mids,It.mids,ownPc];done)|(intro k hk;simp[mids,It.mids,ownPc] at hk ⊢;grind)) rfl rfl ?_
    refine SX.val rfl (Val.move rfl) (by simp) rfl rfl ?_
    refine SX.val rfl (Val.indexSl (q := 3) tabOk Try.underlying22 rfl rfl rfl rfl (byt_at (by omega)) rfl rfl) (by first|(simp[mids,It.mids,ownPc];done)|(intro k hk;simp[mids,It.mids,ownPc] at hk ⊢;grind)) rfl rfl ?_
    refine SX.val rfl (Val.load1R tabOk rfl rfl rfl) (by simp) rfl rfl ?_
    refine SX.val rfl (Val.conv8 rfl Try.underlying74 (by kernel_rfl)) (by first|(simp[mids,It.mids,ownPc];done)|(intro k hk;simp[mids,It.mids,ownPc] at hk ⊢;grind)) rfl rfl ?_
    refine SX.val rfl (Val.orW rfl rfl) (by first|(simp[mids,It.mids,ownPc];done)|(intro k hk;simp[mids,It.mids,ownPc] at hk ⊢;grind)) rfl rfl ?_
    refine SX.val rfl (Val.indexArP (q := z) tabOk Try.underlying94 rfl rfl rfl (by first | rfl | omega) (by omega) rfl) (by first|(simp[mids,It.mids,ownPc];done)|(intro k hk;simp[mids,It.mids,ownPc] at hk ⊢;grind)) rfl rfl ?_
    refine SX.nil ?_
    refine SE.effZ rfl (Eff.store (L' := lA (sched0 l (z + 1) ++ List.replicate (64 - (z + 1)) 0)) tabOk rfl rfl rfl (by repeat first|assumption|exact Upd.here|apply Upd.there) (by rfl) (by simp only [lA_length, List.length_append, List.length_replicate, List.length_set, grow_length, sched0_length]; omega) (by rfl) (lA_put' (by simp [sched0_length]; omega) (set_next' (sched0_length l z) (by omega) (sched0_succ l z)))) rfl rfl ?_
    rintro _ _ ⟨rfl, rfl⟩
    refine SE.inBlock ?_
    refine SE.seq ?_
    refine SC.region ?_
    first
      | refine SL.val (Val.addI rfl rfl (by simp only [InR, lo, hi]; omega)) rfl rfl ?_
      | refine SL.val (Val.addW rfl rfl) rfl rfl ?_
    refine SL.val (Val.move rfl) rfl rfl ?_
    refine SL.nil ?_
    refine SE.round (z + 1) (by first | omega | (dsimp only; omega)) (by first | omega | (dsimp only; omega)) (by exact ⟨rfl, rfl, rfl, rfl, trivial⟩) (by repeat first|exact s0 _|exact s1 _|apply s2|apply s3)
  intro hc10
  refine SC.exit ?_
  refine SE.then_ (by intro h; cases h) ?_
  refine SE.then_ (by intro h; cases h) ?_
  refine SE.exit ?_
  refine SE.seq ?_
  refine SC.seq ?_
  refine SC.seq (SC.region ?_)
  refine SL.val (Val.assign rfl) rfl rfl ?_
  refine SL.nil (SE.seq ?_)
  refine SC.block ?_
  obtain rfl : z = 16 := by omega
  refine SC.loop (ι := Nat) (fun z => [.blk b3 94 (lA (grow (sched0 l 16) z ++ List.replicate (48 - z) 0)), .blk b2 94 (lA (List.replicate 64 0))]) (fun z => [(0, byt l), (2, ptr b2), (3, ptr b3), (6, int (16 + (z : Nat)))]) (fun z => z ≤ 48) (fun z => 48 - z) (0) (by decide) (by exact ⟨rfl, rfl, rfl, rfl, trivial⟩) (by repeat first|exact s0 _|exact s1 _|apply s2|apply s3) ?_
  intro z hz
  refine SC.seq ?_
  refine SC.seq (SC.region ?_)
  refine SL.val (Val.move rfl) rfl rfl ?_
  refine SL.val (Val.ltI rfl rfl) rfl rfl ?_
  refine SL.nil (SE.seq ?_)
  refine SC.condP rfl ?_ ?_
  rotate_left
  · intro hc42
    refine SC.exit ?_
    refine SE.then_ (by intro h; cases h) ?_
    refine SE.then_ (by intro h; cases h) ?_
    refine SE.exit ?_
    refine SE.seq ?_
    refine SC.seq ?_
    obtain rfl : z = 48 := by omega
    rw [show lA (grow (sched0 l 16) 48 ++ List.replicate (48 - 48) 0) = lA (sched l) by simp [sched]]
    refine SC.region ?_
    refine SL.val (Val.loadA tabOk rfl rfl rfl (by first|(apply Or.inl;(repeat first|assumption|exact m0|apply m1);done)|(apply Or.inr;(repeat first|assumption|exact m0|apply m1);done)) List.not_mem_nil (lsched l)) rfl rfl ?_
    refine SL.eff (Eff.store (L' := lA (sched l)) tabOk rfl rfl rfl (by repeat first|assumption|exact Upd.here|apply Upd.there) (lsched l) (Nat.le_of_ble_eq_true (by rfl)) (ones_lA _) (putL_whole (by exact lsched l))) rfl rfl ?_
    rintro _ _ ⟨rfl, rfl⟩
    refine SL.nil (SE.seq ?_)
    refine SC.ret ?_
    refine SE.fin (rs := [.cell 2 94]) rfl (RV.cell rfl (RV.cellA tabOk rfl rfl (by first|(apply Or.inl;(repeat first|assumption|exact m0|apply m1);done)|(apply Or.inr;(repeat first|assumption|exact m0|apply m1);done)) (lsched l)) RV.nil) (()) (by repeat first|exact s0 _|exact s1 _|apply s2|apply s3) (by simp [It.rids]) ?_
    exact rfl
  intro hc42
  refine SC.skip ?_
  refine SE.seq ?_
  refine SC.seq ?_
  refine SC.block ?_
  refine SC.seq ?_
  refine SC.draw [] (.q 0 (.q 1 (.q 2 (.q 3 (.q 4 (.q 5 (.q 6 (.q 7 (.q 8 (.q 9 .nil)))))))))) (by kernel_rfl) (by kernel_rfl) ?_
  refine SX.val rfl (Val.move rfl) (by simp) rfl rfl ?_
  first
    | refine SX.val rfl (Val.subI rfl rfl (by simp only [InR, lo, hi]; omega)) (by simp) rfl rfl ?_
    | refine SX.val rfl (Val.subW rfl rfl) (by simp) rfl rfl ?_
  refine SX.val rfl (Val.indexArP (q := z + 1) tabOk Try.underlying94 rfl rfl rfl (by first | rfl | omega) (by omega) rfl) (by first|(simp[mids,It.mids,ownPc];done)|(intro k hk;simp[mids,It.mids,ownPc] at hk ⊢;grind)) rfl rfl ?_
  refine SX.val rfl (Val.load1 tabOk rfl rfl (by first|(apply Or.inl;(repeat first|assumption|exact m0|apply m1);done)|(apply Or.inr;(repeat first|assumption|exact m0|apply m1);done)) List.not_mem_nil (lA_at' (by simp only [grow_length, sched0_length]; omega))) (by first|(simp[mids,It.mids,ownPc];done)|(intro k hk;simp[mids,It.mids,ownPc] at hk ⊢;grind)) rfl rfl ?_
  refine SX.val rfl (Val.move rfl) (by simp) rfl rfl ?_
  first
    | refine SX.val rfl (Val.subI rfl rfl (by simp only [InR, lo, hi]; omega)) (by simp) rfl rfl ?_
    | refine SX.val rfl (Val.subW rfl rfl) (by simp) rfl rfl ?_
  refine SX.val rfl (Val.indexArP (q := z + 14) tabOk Try.underlying94 rfl rfl rfl (by first | rfl | omega) (by omega) rfl) (by first|(simp[mids,It.mids,ownPc];done)|(intro k hk;simp[mids,It.mids,ownPc] at hk ⊢;grind)) rfl rfl ?_
  refine SX.val rfl (Val.load1 tabOk rfl rfl (by first|(apply Or.inl;(repeat first|assumption|exact m0|apply m1);done)|(apply Or.inr;(repeat first|assumption|exact m0|apply m1);done)) List.not_mem_nil (lA_at' (by simp only [grow_length, sched0_length]; omega))) (by first|(simp[mids,It.mids,ownPc];done)|(intro k hk;simp[mids,It.mids,ownPc] at hk ⊢;grind)) rfl rfl ?_
  refine SX.val rfl (Val.assign rfl) (by simp) rfl rfl ?_
  refine SX.val rfl (Val.assign rfl) (by simp) rfl rfl ?_
  refine SX.nil (SE.seq ?_)
  refine SC.drawZ [] (.q 0 (.q 1 (.q 2 (.q 3 (.q 4 (.q 5 (.q 7 (.q 10 (.q 11 (.q 14 (.q 15 (.q 16 (.q 17 (.q 19 (.q 21 (.q 24 (.q 25 (.e 6 (.e 8 (.q 9 (.q 12 (.q 13 (.q 18 (.e 20 (.e 22 (.q 23 (.q 26 (.q 27 (.q 28 .nil))))))))))))))))))))))))))))) (by kernel_rfl) (by kernel_rfl) ?_
  refine SX.val rfl (Val.move rfl) (by simp) rfl rfl ?_
  refine SX.val rfl (Val.move rfl) (by simp) rfl rfl ?_
  first
    | refine SX.val rfl (Val.subI rfl rfl (by simp only [InR, lo, hi]; omega)) (by simp) rfl rfl ?_
    | refine SX.val rfl (Val.subW rfl rfl) (by simp) rfl rfl ?_
  refine SX.val rfl (Val.indexArP (q := z) tabOk Try.underlying94 rfl rfl rfl (by first | rfl | omega) (by omega) rfl) (by first|(simp[mids,It.mids,ownPc];done)|(intro k hk;simp[mids,It.mids,ownPc] at hk ⊢;grind)) rfl rfl ?_
  refine SX.val rfl (Val.load1 tabOk rfl rfl (by first|(apply Or.inl;(repeat first|assumption|exact m0|apply m1);done)|(apply Or.inr;(repeat first|assumption|exact m0|apply m1);done)) List.not_mem_nil (lA_at' (by simp only [grow_length, sched0_length]; omega))) (by first|(simp[mids,It.mids,ownPc];done)|(intro k hk;simp[mids,It.mids,ownPc] at hk ⊢;grind)) rfl rfl ?_
  refine SX.val rfl (Val.move rfl) (by simp) rfl rfl ?_
  refine SX.val rfl (Val.move rfl) (by simp) rfl rfl ?_
  refine SX.val rfl (Val.move rfl) (by simp) rfl rfl ?_
  refine SX.val rfl (Val.shrB (m := 3) rfl rfl (by first | rfl | omega)) (by first|(simp[mids,It.mids,ownPc];done)|(intro k hk;simp[mids,It.mids,ownPc] at hk ⊢;grind)) rfl rfl ?_
  refine SX.val rfl (Val.move rfl) (by simp) rfl rfl ?_
  first
    | refine SX.val rfl (Val.subI rfl rfl (by simp only [InR, lo, hi]; omega)) (by simp) rfl rfl ?_
    | refine SX.val rfl (Val.subW rfl rfl) (by simp) rfl rfl ?_
  refine SX.val rfl (Val.indexArP (q := z + 9) tabOk Try.underlying94 rfl rfl rfl (by first | rfl | omega) (by omega) rfl) (by first|(simp[mids,It.mids,ownPc];done)|(intro k hk;simp[mids,It.mids,ownPc] at hk ⊢;grind)) rfl rfl ?_
  refine SX.val rfl (Val.load1 tabOk rfl rfl (by first|(apply Or.inl;(repeat first|assumption|exact m0|apply m1);done)|(apply Or.inr;(repeat first|assumption|exact m0|apply m1);done)) List.not_mem_nil (lA_at' (by simp only [grow_length, sched0_length]; omega))) (by first|(simp[mids,It.mids,ownPc];done)|(intro k hk;simp[mids,It.mids,ownPc] at hk ⊢;grind)) rfl rfl ?_
  refine SX.val rfl (Val.move rfl) (by simp) rfl rfl ?_
  refine SX.val rfl (Val.move rfl) (by simp) rfl rfl ?_
  refine SX.val rfl (Val.move rfl) (by simp) rfl rfl ?_
  refine SX.val rfl (Val.shrB (m := 10) rfl rfl (by first | rfl | omega)) (by first|(simp[mids,It.mids,ownPc];done)|(intro k hk;simp[mids,It.mids,ownPc] at hk ⊢;grind)) rfl rfl ?_
  refine SX.call rfl (turn_s 7 rfl (by decide)) (by simp [mids, It.mids]) Casts.refl (by kernel_rfl) rfl rfl rfl ?_
  refine After.pure (by repeat first|exact .nil|refine .blk (by repeat first|assumption|exact m0|apply m1) ?_|refine .rd (by repeat first|assumption|exact m0|apply m1) ?_|refine .pc (by repeat first|assumption|exact m0|apply m1) ?_|refine .rdpc (by repeat first|assumption|exact m0|apply m1) ?_) (fun _ => rfl) ?_
  intro _
  refine SX.call rfl (turn_s 18 rfl (by decide)) (by simp [mids, It.mids]) Casts.refl (by kernel_rfl) rfl rfl rfl ?_
  refine After.pure (by repeat first|exact .nil|refine .blk (by repeat first|assumption|exact m0|apply m1) ?_|refine .rd (by repeat first|assumption|exact m0|apply m1) ?_|refine .pc (by repeat first|assumption|exact m0|apply m1) ?_|refine .rdpc (by repeat first|assumption|exact m0|apply m1) ?_) (fun _ => rfl) ?_
  intro _
  refine SX.val rfl (Val.xorW rfl rfl) (by first|(simp[mids,It.mids,ownPc];done)|(intro k hk;simp[mids,It.mids,ownPc] at hk ⊢;grind)) rfl rfl ?_
  refine SX.val rfl (Val.xorW rfl rfl) (by first|(simp[mids,It.mids,ownPc];done)|(intro k hk;simp[mids,It.mids,ownPc] at hk ⊢;grind)) rfl rfl ?_
  refine SX.val rfl (Val.sumW rfl rfl) (by first|(simp[mids,It.mids,ownPc];done)|(intro k hk;simp[mids,It.mids,ownPc] at hk ⊢;grind)) rfl rfl ?_
  refine SX.val rfl (Val.sumW rfl rfl) (by first|(simp[mids,It.mids,ownPc];done)|(intro k hk;simp[mids,It.mids,ownPc] at hk ⊢;grind)) rfl rfl ?_
  refine SX.call rfl (turn_s 17 rfl (by decide)) (by simp [mids, It.mids]) Casts.refl (by kernel_rfl) rfl rfl rfl ?_
  refine After.pure (by repeat first|exact .nil|refine .blk (by repeat first|assumption|exact m0|apply m1) ?_|refine .rd (by repeat first|assumption|exact m0|apply m1) ?_|refine .pc (by repeat first|assumption|exact m0|apply m1) ?_|refine .rdpc (by repeat first|assumption|exact m0|apply m1) ?_) (fun _ => rfl) ?_
  intro _
  refine SX.call rfl (turn_s 19 rfl (by decide)) (by simp [mids, It.mids]) Casts.refl (by kernel_rfl) rfl rfl rfl ?_
  refine After.pure (by repeat first|exact .nil|refine .blk (by repeat first|assumption|exact m0|apply m1) ?_|refine .rd (by repeat first|assumption|exact m0|apply m1) ?_|refine .pc (by repeat first|assumption|exact m0|apply m1) ?_|refine .rdpc (by repeat first|assumption|exact m0|apply m1) ?_) (fun _ => rfl) ?_
  intro _
  refine SX.val rfl (Val.xorW rfl rfl) (by first|(simp[mids,It.mids,ownPc];done)|(intro k hk;simp[mids,It.mids,ownPc] at hk ⊢;grind)) rfl rfl ?_
  refine SX.val rfl (Val.xorW rfl rfl) (by first|(simp[mids,It.mids,ownPc];done)|(intro k hk;simp[mids,It.mids,ownPc] at hk ⊢;grind)) rfl rfl ?_
  refine SX.val rfl (Val.sumW rfl rfl) (by first|(simp[mids,It.mids,ownPc];done)|(intro k hk;simp[mids,It.mids,ownPc] at hk ⊢;grind)) rfl rfl ?_
  refine SX.val rfl (Val.indexArP (q := 16 + z) tabOk Try.underlying94 rfl rfl rfl (by first | rfl | omega) (by omega) rfl) (by first|(simp[mids,It.mids,ownPc];done)|(intro k hk;simp[mids,It.mids,ownPc] at hk ⊢;grind)) rfl rfl ?_
  refine SX.nil ?_
  refine SE.effZ rfl (Eff.store (L' := lA (grow (sched0 l 16) (z + 1) ++ List.replicate (48 - (z + 1)) 0)) tabOk rfl rfl rfl (by repeat first|assumption|exact Upd.here|apply Upd.there) (by rfl) (by simp only [lA_length, List.length_append, List.length_replicate, List.length_set, grow_length, sched0_length]; omega) (by rfl) (lA_put' (by simp only [List.length_append, List.length_replicate, grow_length, sched0_length]; omega) (set_next' (by simp only [grow_length, sched0_length]) (by omega) rfl))) rfl rfl ?_
  rintro _ _ ⟨rfl, rfl⟩
  refine SE.inBlock ?_
  refine SE.seq ?_
  refine SC.region ?_
  refine SL.val (Val.move rfl) rfl rfl ?_
  first
    | refine SL.val (Val.addI rfl rfl (by simp only [InR, lo, hi]; omega)) rfl rfl ?_
    | refine SL.val (Val.addW rfl rfl) rfl rfl ?_
  refine SL.val (Val.assign rfl) rfl rfl ?_
  refine SL.nil ?_
  refine SE.round (z + 1) (by first | omega | (dsimp only; omega)) (by first | omega | (dsimp only; omega)) (by exact ⟨rfl, rfl, rfl, rfl, trivial⟩) (by repeat first|exact s0 _|exact s1 _|apply s2|apply s3)
end
end Go.Proofs.Ytgfndlibbfamfaa.A
/-
  Sums: a block.
-/
set_option maxRecDepth 100000
set_option linter.unusedSimpArgs false
set_option linter.unusedVariables false
namespace Go.Proofs.Ytgfndlibbfamfaa.A
open Go.RowKit

theorem le4 (r : R8) : (lA r.e).length = 4 := rfl
theorem la4 (r : R8) : (lA r.a).length = 4 := rfl
section
variable {l : List UInt8} {r : R8}
set_option maxHeartbeats 4000000 in
theorem block_s (h : 64 ≤ l.length) (hl : l.length ≤ 4611686018427387904) : Spec Try.prog 26 [.agg (lA r.l), byt l] [] (fun _ : Unit => []) (fun _ => .agg (lA (blockW r l).l)) := by
  refine spec_of Try.func26 rfl Try.ntmps26 rfl fun G w => ?_
  refine SC.seq (SC.region ?_)
  refine SL.eff (Eff.boxA rfl) rfl rfl ?_
  rintro _ _ ⟨b2, rfl, rfl⟩
  refine SL.eff (Eff.alloc tabOk rfl) rfl rfl ?_
  rintro _ _ ⟨b4, rfl, rfl⟩
  refine SL.nil (SE.seq ?_)
  refine SC.seq (SC.region ?_)
  refine SL.call (rounds_s) Casts.refl (by kernel_rfl) rfl rfl rfl ?_
  refine After.pure (by repeat first|exact .nil|refine .blk (by repeat first|assumption|exact m0|apply m1) ?_|refine .rd (by repeat first|assumption|exact m0|apply m1) ?_|refine .pc (by repeat first|assumption|exact m0|apply m1) ?_|refine .rdpc (by repeat first|assumption|exact m0|apply m1) ?_) (fun _ => rfl) ?_
  intro _
  refine SL.val (Val.move rfl) rfl rfl ?_
  refine SL.call (schedule_s h hl) Casts.refl (by kernel_rfl) rfl rfl rfl ?_
  refine After.pure (by repeat first|exact .nil|refine .blk (by repeat first|assumption|exact m0|apply m1) ?_|refine .rd (by repeat first|assumption|exact m0|apply m1) ?_|refine .pc (by repeat first|assumption|exact m0|apply m1) ?_|refine .rdpc (by repeat first|assumption|exact m0|apply m1) ?_) (fun _ => rfl) ?_
  intro _
  refine SL.eff (Eff.alloc tabOk rfl) rfl rfl ?_
  rintro _ _ ⟨b5, rfl, rfl⟩
  refine SL.eff (Eff.alloc tabOk rfl) rfl rfl ?_
  rintro _ _ ⟨b6, rfl, rfl⟩
  refine SL.eff (Eff.store (L' := lA roundsL) tabOk rfl rfl rfl (by repeat first|assumption|exact Upd.here|apply Upd.there) (rfl) (Nat.le_of_ble_eq_true (by rfl)) (ones_lA _) (putL_whole (by exact rfl))) rfl rfl ?_
  rintro _ _ ⟨rfl, rfl⟩
  refine SL.eff (Eff.store (L' := lA (sched l)) tabOk rfl rfl rfl (by repeat first|assumption|exact Upd.here|apply Upd.there) (lsched l) (Nat.le_of_ble_eq_true (by rfl)) (ones_lA _) (putL_whole (by exact lsched l))) rfl rfl ?_
  rintro _ _ ⟨rfl, rfl⟩
  refine SL.nil (SE.seq ?_)
  refine SC.cutS (ι := Nat × Nat) (fun z => [.blk z.2 97 (lA r.e), .blk z.1 97 (lA r.a), .blk b6 94 (lA (sched l)), .blk b5 94 (lA roundsL), .blk b4 76 (lA (List.replicate 8 0)), .blk b2 76 (lA r.l)]) (fun z => [(1, byt l), (2, ptr b2), (4, ptr b4), (5, ptr b5), (6, ptr b6), (7, ptr z.1), (8, ptr z.2)]) (fun z => True) ?_ ?_
  · skip
    refine SC.draw [] (.q 0 (.q 1 (.q 2 (.q 3 (.q 4 (.q 5 (.two 6 7 (.e 7 (.e 8 (.e 9 .nil))) (.e 6 (.e 8 (.e 9 .nil)))))))))) (by kernel_rfl) (by kernel_rfl) ?_
    refine SX.val rfl (Val.sliceArrHi (q := 4) tabOk Try.underlying76 rfl rfl rfl rfl (by decide)) (by first|(simp[mids,It.mids,ownPc];done)|(intro k hk;simp[mids,It.mids,ownPc] at hk ⊢;grind)) rfl rfl ?_
    refine SX.val rfl (Val.arrayAt Try.underlying97 rfl (by decide)) (by first|(simp[mids,It.mids,ownPc];done)|(intro k hk;simp[mids,It.mids,ownPc] at hk ⊢;grind)) rfl rfl ?_
    refine SX.val rfl (Val.to (C := .agg (lA r.a)) (Val.loadP tabOk rfl rfl rfl (by first|(apply Or.inl;(repeat first|assumption|exact m0|apply m1);done)|(apply Or.inr;(repeat first|assumption|exact m0|apply m1);done)) List.not_mem_nil (Nat.le_of_ble_eq_true (by rfl))) rfl) (by first|(simp[mids,It.mids,ownPc];done)|(intro k hk;simp[mids,It.mids,ownPc] at hk ⊢;grind)) rfl rfl ?_
    refine SX.val rfl (Val.sliceArrLo (q := 4) tabOk Try.underlying76 rfl rfl rfl rfl (by decide)) (by first|(simp[mids,It.mids,ownPc];done)|(intro k hk;simp[mids,It.mids,ownPc] at hk ⊢;grind)) rfl rfl ?_
    refine SX.val rfl (Val.arrayAt Try.underlying97 rfl (by decide)) (by first|(simp[mids,It.mids,ownPc];done)|(intro k hk;simp[mids,It.mids,ownPc] at hk ⊢;grind)) rfl rfl ?_
    refine SX.val rfl (Val.to (C := .agg (lA r.e)) (Val.loadP tabOk rfl rfl rfl (by first|(apply Or.inl;(repeat first|assumption|exact m0|apply m1);done)|(apply Or.inr;(repeat first|assumption|exact m0|apply m1);done)) List.not_mem_nil (Nat.le_of_ble_eq_true (by rfl))) rfl) (by first|(simp[mids,It.mids,ownPc];done)|(intro k hk;simp[mids,It.mids,ownPc] at hk ⊢;grind)) rfl rfl ?_
    refine SX.two ?_ ?_
    · skip
      refine SX.alloc tabOk rfl rfl rfl rfl fun b7 => ?_
      refine SX.alloc tabOk rfl rfl rfl rfl fun b8 => ?_
      refine SX.eff rfl (Eff.store (L' := lA r.a) tabOk rfl rfl rfl (by repeat first|assumption|exact Upd.here|apply Upd.there) (rfl) (Nat.le_of_ble_eq_true (by rfl)) (ones_lA _) (putL_whole (by exact rfl))) (by simp) rfl rfl ?_
      rintro _ _ ⟨rfl, rfl⟩
      refine SX.eff rfl (Eff.store (L' := lA r.e) tabOk rfl rfl rfl (by repeat first|assumption|exact Upd.here|apply Upd.there) (rfl) (Nat.le_of_ble_eq_true (by rfl)) (ones_lA _) (putL_whole (by exact rfl))) (by simp) rfl rfl ?_
      rintro _ _ ⟨rfl, rfl⟩
      refine SX.nil ?_
      refine SE.meet (b7, b8) (trivial) (by exact ⟨rfl, rfl, rfl, rfl, rfl, rfl, rfl, trivial⟩) (by repeat first|exact s0 _|exact s1 _|apply s2|apply s3)
    · skip
      refine SX.alloc tabOk rfl rfl rfl rfl fun b8 => ?_
      refine SX.alloc tabOk rfl rfl rfl rfl fun b7 => ?_
      refine SX.eff rfl (Eff.store (L' := lA r.a) tabOk rfl rfl rfl (by repeat first|assumption|exact Upd.here|apply Upd.there) (rfl) (Nat.le_of_ble_eq_true (by rfl)) (ones_lA _) (putL_whole (by exact rfl))) (by simp) rfl rfl ?_
      rintro _ _ ⟨rfl, rfl⟩
      refine SX.eff rfl (Eff.store (L' := lA r.e) tabOk rfl rfl rfl (by repeat first|assumption|exact Upd.here|apply Upd.there) (rfl) (Nat.le_of_ble_eq_true (by rfl)) (ones_lA _) (putL_whole (by exact rfl))) (by simp) rfl rfl ?_
      rintro _ _ ⟨rfl, rfl⟩
      refine SX.nil ?_
      refine SE.swap ?_
      refine SE.meet (b7, b8) (trivial) (by exact ⟨rfl, rfl, rfl, rfl, rfl, rfl, rfl, trivial⟩) (by repeat first|exact s0 _|exact s1 _|apply s2|apply s3)
  · intro z0 hz0
    refine SC.seq ?_
    refine SC.seq (SC.region ?_)
    refine SL.val (Val.move rfl) rfl rfl ?_
    refine SL.nil (SE.seq ?_)
    refine SC.block ?_
    refine SC.loop (ι := Nat) (fun z => [.blk z0.2 97 (lA (rnds r (sched l) z).e), .blk z0.1 97 (lA (rnds r (sched l) z).a), .blk b6 94 (lA (sched l)), .blk b5 94 (lA roundsL), .blk b4 76 (lA (List.replicate 8 0)), .blk b2 76 (lA r.l)]) (fun z => [(1, byt l), (2, ptr b2), (4, ptr b4), (5, ptr b5), (6, ptr b6), (7, ptr z0.1), (8, ptr z0.2), (22, int (z : Nat))]) (fun z => z ≤ 64) (fun z => 64 - z) (0) (by decide) (by exact ⟨rfl, rfl, rfl, rfl, rfl, rfl, rfl, rfl, trivial⟩) (by repeat first|exact s0 _|exact s1 _|apply s2|apply s3) ?_
    intro z hz
    refine SC.seq (SC.region ?_)
    refine SL.val (Val.ltI rfl rfl) rfl rfl ?_
    refine SL.nil (SE.seq ?_)
    refine SC.seq ?_
    refine SC.condP rfl ?_ ?_
    rotate_left
    · intro hc23
      refine SC.exit ?_
      refine SE.then_ (by intro h; cases h) ?_
      refine SE.then_ (by intro h; cases h) ?_
      refine SE.exit ?_
      refine SE.seq ?_
      refine SC.seq ?_
      refine SC.seq (SC.region ?_)
      refine SL.val (Val.move rfl) rfl rfl ?_
      refine SL.nil (SE.seq ?_)
      refine SC.block ?_
      obtain rfl : z = 64 := by omega
      refine SC.loop (ι := Nat) (fun y => [.blk z0.2 97 (lA (rnds r (sched l) 64).e), .blk z0.1 97 (lA (rnds r (sched l) 64).a), .blk b4 76 (lA (List.replicate 8 0)), .blk b2 76 (lA (addL r (rnds r (sched l) 64) y))]) (fun y => [(2, ptr b2), (4, ptr b4), (7, ptr z0.1), (8, ptr z0.2), (94, int (y : Nat))]) (fun y => y ≤ 4) (fun y => 4 - y) (0) (by decide) (by exact ⟨rfl, rfl, rfl, rfl, rfl, trivial⟩) (by repeat first|exact s0 _|exact s1 _|apply s2|apply s3) ?_
      intro y hy
      refine SC.seq (SC.region ?_)
      refine SL.val (Val.ltI rfl rfl) rfl rfl ?_
      refine SL.nil (SE.seq ?_)
      refine SC.seq ?_
      refine SC.condP rfl ?_ ?_
      rotate_left
      · intro hc95
        refine SC.exit ?_
        refine SE.then_ (by intro h; cases h) ?_
        refine SE.then_ (by intro h; cases h) ?_
        refine SE.exit ?_
        refine SE.seq ?_
        refine SC.seq ?_
        obtain rfl : y = 4 := by omega
        rw [addL_four]
        refine SC.region ?_
        first
          | refine SL.val (Val.loadAR tabOk rfl rfl rfl (by rfl)) rfl rfl ?_
          | refine SL.val (Val.loadPR tabOk rfl rfl rfl (Nat.le_of_ble_eq_true (by rfl))) rfl rfl ?_
          | refine SL.val (Val.loadA tabOk rfl rfl rfl (by first|(apply Or.inl;(repeat first|assumption|exact m0|apply m1);done)|(apply Or.inr;(repeat first|assumption|exact m0|apply m1);done)) List.not_mem_nil (by rfl)) rfl rfl ?_
          | refine SL.val (Val.loadP tabOk rfl rfl rfl (by first|(apply Or.inl;(repeat first|assumption|exact m0|apply m1);done)|(apply Or.inr;(repeat first|assumption|exact m0|apply m1);done)) List.not_mem_nil (Nat.le_of_ble_eq_true (by rfl))) rfl rfl ?_
        refine SL.eff (Eff.store tabOk rfl rfl rfl (by repeat first|assumption|exact Upd.here|apply Upd.there) (by rfl) (Nat.le_of_ble_eq_true (by rfl)) (by rfl) (by rfl)) rfl rfl ?_
        rintro _ _ ⟨rfl, rfl⟩
        refine SL.nil (SE.seq ?_)
        refine SC.ret ?_
        refine SE.fin (rs := [.cell 4 76]) rfl (RV.cell rfl (RV.cellA tabOk rfl rfl (by first|(apply Or.inl;(repeat first|assumption|exact m0|apply m1);done)|(apply Or.inr;(repeat first|assumption|exact m0|apply m1);done)) (by rfl)) RV.nil) (()) (by repeat first|exact s0 _|exact s1 _|apply s2|apply s3) (by simp [It.rids]) ?_
        exact rfl
      intro hc95
      refine SC.skip ?_
      refine SE.seq ?_
      refine SC.seq ?_
      refine SC.block ?_
      refine SC.seq (SC.region ?_)
      refine SL.val (Val.move rfl) rfl rfl ?_
      refine SL.val (Val.assign rfl) rfl rfl ?_
      refine SL.nil (SE.seq ?_)
      refine SC.seq ?_
      refine SC.drawZ [] (.q 0 (.q 1 (.q 2 (.q 3 (.q 4 (.q 5 (.q 6 (.q 7 .nil)))))))) (by kernel_rfl) (by kernel_rfl) ?_
      refine SX.val rfl (Val.move rfl) (by simp) rfl rfl ?_
      refine SX.val rfl (Val.indexArP (q := y) tabOk Try.underlying76 rfl rfl rfl (by first | rfl | omega) (by omega) rfl) (by first|(simp[mids,It.mids,ownPc];done)|(intro k hk;simp[mids,It.mids,ownPc] at hk ⊢;grind)) rfl rfl ?_
      refine SX.val rfl (Val.load1 tabOk rfl rfl (by first|(apply Or.inl;(repeat first|assumption|exact m0|apply m1);done)|(apply Or.inr;(repeat first|assumption|exact m0|apply m1);done)) List.not_mem_nil (lA_at (by rw [addL_length]; omega))) (by first|(simp[mids,It.mids,ownPc];done)|(intro k hk;simp[mids,It.mids,ownPc] at hk ⊢;grind)) rfl rfl ?_
      refine SX.val rfl (Val.move rfl) (by simp) rfl rfl ?_
      refine SX.val rfl (Val.indexArP (q := y) tabOk Try.underlying97 rfl rfl rfl (by first | rfl | omega) (by omega) rfl) (by first|(simp[mids,It.mids,ownPc];done)|(intro k hk;simp[mids,It.mids,ownPc] at hk ⊢;grind)) rfl rfl ?_
      refine SX.val rfl (Val.load1 tabOk rfl rfl (by first|(apply Or.inl;(repeat first|assumption|exact m0|apply m1);done)|(apply Or.inr;(repeat first|assumption|exact m0|apply m1);done)) List.not_mem_nil (lA_at (by show y < 4; omega))) (by first|(simp[mids,It.mids,ownPc];done)|(intro k hk;simp[mids,It.mids,ownPc] at hk ⊢;grind)) rfl rfl ?_
      refine SX.val rfl (Val.sumW rfl rfl) (by first|(simp[mids,It.mids,ownPc];done)|(intro k hk;simp[mids,It.mids,ownPc] at hk ⊢;grind)) rfl rfl ?_
      refine SX.val rfl (Val.indexArP (q := y) tabOk Try.underlying76 rfl rfl rfl (by first | rfl | omega) (by omega) rfl) (by first|(simp[mids,It.mids,ownPc];done)|(intro k hk;simp[mids,It.mids,ownPc] at hk ⊢;grind)) rfl rfl ?_
      refine SX.nil ?_
      refine SE.effZ rfl (Eff.store (L' := lA (addM r (rnds r (sched l) 64) y)) tabOk rfl rfl rfl (by repeat first|assumption|exact Upd.here|apply Upd.there) (by rfl) (by simp only [lA_length, addL_length, addM_length]; omega) (by rfl) (lA_put' (by rw [addL_length]; omega) rfl)) rfl rfl ?_
      rintro _ _ ⟨rfl, rfl⟩
      refine SE.seq ?_
      refine SC.drawZ [] (.q 0 (.q 1 (.q 2 (.q 3 (.q 4 (.q 5 (.q 6 (.q 7 (.q 8 .nil))))))))) (by kernel_rfl) (by kernel_rfl) ?_
      refine SX.val rfl (Val.move rfl) (by simp) rfl rfl ?_
      first
        | refine SX.val rfl (Val.addI rfl rfl (by simp only [InR, lo, hi]; omega)) (by simp) rfl rfl ?_
        | refine SX.val rfl (Val.addW rfl rfl) (by simp) rfl rfl ?_
      refine SX.val rfl (Val.indexArP (q := y + 4) tabOk Try.underlying76 rfl rfl rfl (by first | rfl | omega) (by omega) rfl) (by first|(simp[mids,It.mids,ownPc];done)|(intro k hk;simp[mids,It.mids,ownPc] at hk ⊢;grind)) rfl rfl ?_
      refine SX.val rfl (Val.load1 tabOk rfl rfl (by first|(apply Or.inl;(repeat first|assumption|exact m0|apply m1);done)|(apply Or.inr;(repeat first|assumption|exact m0|apply m1);done)) List.not_mem_nil (lA_at (by rw [addM_length]; omega))) (by first|(simp[mids,It.mids,ownPc];done)|(intro k hk;simp[mids,It.mids,ownPc] at hk ⊢;grind)) rfl rfl ?_
      refine SX.val rfl (Val.move rfl) (by simp) rfl rfl ?_
      refine SX.val rfl (Val.indexArP (q := y) tabOk Try.underlying97 rfl rfl rfl (by first | rfl | omega) (by omega) rfl) (by first|(simp[mids,It.mids,ownPc];done)|(intro k hk;simp[mids,It.mids,ownPc] at hk ⊢;grind)) rfl rfl ?_
      refine SX.val rfl (Val.load1 tabOk rfl rfl (by first|(apply Or.inl;(repeat first|assumption|exact m0|apply m1);done)|(apply Or.inr;(repeat first|assumption|exact m0|apply m1);done)) List.not_mem_nil (lA_at (by show y < 4; omega))) (by first|(simp[mids,It.mids,ownPc];done)|(intro k hk;simp[mids,It.mids,ownPc] at hk ⊢;grind)) rfl rfl ?_
      refine SX.val rfl (Val.sumW rfl rfl) (by first|(simp[mids,It.mids,ownPc];done)|(intro k hk;simp[mids,It.mids,ownPc] at hk ⊢;grind)) rfl rfl ?_
      refine SX.val rfl (Val.indexArP (q := y + 4) tabOk Try.underlying76 rfl rfl rfl (by first | rfl | omega) (by omega) rfl) (by first|(simp[mids,It.mids,ownPc];done)|(intro k hk;simp[mids,It.mids,ownPc] at hk ⊢;grind)) rfl rfl ?_
      refine SX.nil ?_
      refine SE.effZ rfl (Eff.store (L' := lA (addL r (rnds r (sched l) 64) (y + 1))) tabOk rfl rfl rfl (by repeat first|assumption|exact Upd.here|apply Upd.there) (by rfl) (by simp only [lA_length, addL_length, addM_length]; omega) (by rfl) (lA_put' (by rw [addM_length]; omega) (addL_step _ _ (by omega)))) rfl rfl ?_
      rintro _ _ ⟨rfl, rfl⟩
      refine SE.inBlock ?_
      refine SE.seq ?_
      refine SC.region ?_
      first
        | refine SL.val (Val.addI rfl rfl (by simp only [InR, lo, hi]; omega)) rfl rfl ?_
        | refine SL.val (Val.addW rfl rfl) rfl rfl ?_
      refine SL.val (Val.move rfl) rfl rfl ?_
      refine SL.nil ?_
      refine SE.round (y + 1) (by first | omega | (dsimp only; omega)) (by first | omega | (dsimp only; omega)) (by exact ⟨rfl, rfl, rfl, rfl, rfl, trivial⟩) (by repeat first|exact s0 _|exact s1 _|apply s2|apply s3)
    intro hc23
    refine SC.skip ?_
    refine SE.seq ?_
    refine SC.seq ?_
    refine SC.block ?_
    refine SC.seq (SC.region ?_)
    refine SL.val (Val.move rfl) rfl rfl ?_
    refine SL.val (Val.assign rfl) rfl rfl ?_
    refine SL.nil (SE.seq ?_)
    refine SC.seq ?_
    refine SC.draw [] (.q 0 (.q 1 (.q 2 (.q 3 (.q 6 (.q 7 (.q 8 (.q 9 (.q 10 (.q 11 (.q 12 (.q 13 (.q 14 (.q 15 (.q 16 (.q 18 (.q 19 (.q 20 (.q 22 (.q 23 (.q 24 (.e 4 (.q 5 (.q 17 (.q 21 (.q 25 (.q 26 .nil))))))))))))))))))))))))))) (by kernel_rfl) (by kernel_rfl) ?_
    refine SX.val rfl (Val.indexArP (q := 3) tabOk Try.underlying97 rfl rfl rfl (by first | rfl | omega) (by decide) rfl) (by first|(simp[mids,It.mids,ownPc];done)|(intro k hk;simp[mids,It.mids,ownPc] at hk ⊢;grind)) rfl rfl ?_
    refine SX.val rfl (Val.load1 tabOk rfl rfl (by first|(apply Or.inl;(repeat first|assumption|exact m0|apply m1);done)|(apply Or.inr;(repeat first|assumption|exact m0|apply m1);done)) List.not_mem_nil (rfl)) (by first|(simp[mids,It.mids,ownPc];done)|(intro k hk;simp[mids,It.mids,ownPc] at hk ⊢;grind)) rfl rfl ?_
    refine SX.val rfl (Val.indexArP (q := 0) tabOk Try.underlying97 rfl rfl rfl (by first | rfl | omega) (by decide) rfl) (by first|(simp[mids,It.mids,ownPc];done)|(intro k hk;simp[mids,It.mids,ownPc] at hk ⊢;grind)) rfl rfl ?_
    refine SX.val rfl (Val.load1 tabOk rfl rfl (by first|(apply Or.inl;(repeat first|assumption|exact m0|apply m1);done)|(apply Or.inr;(repeat first|assumption|exact m0|apply m1);done)) List.not_mem_nil (rfl)) (by first|(simp[mids,It.mids,ownPc];done)|(intro k hk;simp[mids,It.mids,ownPc] at hk ⊢;grind)) rfl rfl ?_
    refine SX.val rfl (Val.indexArP (q := 2) tabOk Try.underlying97 rfl rfl rfl (by first | rfl | omega) (by decide) rfl) (by first|(simp[mids,It.mids,ownPc];done)|(intro k hk;simp[mids,It.mids,ownPc] at hk ⊢;grind)) rfl rfl ?_
    refine SX.val rfl (Val.load1 tabOk rfl rfl (by first|(apply Or.inl;(repeat first|assumption|exact m0|apply m1);done)|(apply Or.inr;(repeat first|assumption|exact m0|apply m1);done)) List.not_mem_nil (rfl)) (by first|(simp[mids,It.mids,ownPc];done)|(intro k hk;simp[mids,It.mids,ownPc] at hk ⊢;grind)) rfl rfl ?_
    refine SX.val rfl (Val.indexArP (q := 0) tabOk Try.underlying97 rfl rfl rfl (by first | rfl | omega) (by decide) rfl) (by first|(simp[mids,It.mids,ownPc];done)|(intro k hk;simp[mids,It.mids,ownPc] at hk ⊢;grind)) rfl rfl ?_
    refine SX.val rfl (Val.load1 tabOk rfl rfl (by first|(apply Or.inl;(repeat first|assumption|exact m0|apply m1);done)|(apply Or.inr;(repeat first|assumption|exact m0|apply m1);done)) List.not_mem_nil (rfl)) (by first|(simp[mids,It.mids,ownPc];done)|(intro k hk;simp[mids,It.mids,ownPc] at hk ⊢;grind)) rfl rfl ?_
    refine SX.val rfl (Val.indexArP (q := 1) tabOk Try.underlying97 rfl rfl rfl (by first | rfl | omega) (by decide) rfl) (by first|(simp[mids,It.mids,ownPc];done)|(intro k hk;simp[mids,It.mids,ownPc] at hk ⊢;grind)) rfl rfl ?_
    refine SX.val rfl (Val.load1 tabOk rfl rfl (by first|(apply Or.inl;(repeat first|assumption|exact m0|apply m1);done)|(apply Or.inr;(repeat first|assumption|exact m0|apply m1);done)) List.not_mem_nil (rfl)) (by first|(simp[mids,It.mids,ownPc];done)|(intro k hk;simp[mids,It.mids,ownPc] at hk ⊢;grind)) rfl rfl ?_
    refine SX.val rfl (Val.indexArP (q := 2) tabOk Try.underlying97 rfl rfl rfl (by first | rfl | omega) (by decide) rfl) (by first|(simp[mids,It.mids,ownPc];done)|(intro k hk;simp[mids,It.mids,ownPc] at hk ⊢;grind)) rfl rfl ?_
    refine SX.val rfl (Val.load1 tabOk rfl rfl (by first|(apply Or.inl;(repeat first|assumption|exact m0|apply m1);done)|(apply Or.inr;(repeat first|assumption|exact m0|apply m1);done)) List.not_mem_nil (rfl)) (by first|(simp[mids,It.mids,ownPc];done)|(intro k hk;simp[mids,It.mids,ownPc] at hk ⊢;grind)) rfl rfl ?_
    refine SX.val rfl (Val.xorW rfl rfl) (by first|(simp[mids,It.mids,ownPc];done)|(intro k hk;simp[mids,It.mids,ownPc] at hk ⊢;grind)) rfl rfl ?_
    refine SX.val rfl (Val.andW rfl rfl) (by first|(simp[mids,It.mids,ownPc];done)|(intro k hk;simp[mids,It.mids,ownPc] at hk ⊢;grind)) rfl rfl ?_
    refine SX.val rfl (Val.xorW rfl rfl) (by first|(simp[mids,It.mids,ownPc];done)|(intro k hk;simp[mids,It.mids,ownPc] at hk ⊢;grind)) rfl rfl ?_
    refine SX.val rfl (Val.move rfl) (by simp) rfl rfl ?_
    refine SX.val rfl (Val.indexArP (q := z) tabOk Try.underlying94 rfl rfl rfl (by first | rfl | omega) (by omega) rfl) (by first|(simp[mids,It.mids,ownPc];done)|(intro k hk;simp[mids,It.mids,ownPc] at hk ⊢;grind)) rfl rfl ?_
    refine SX.val rfl (Val.load1 tabOk rfl rfl (by first|(apply Or.inl;(repeat first|assumption|exact m0|apply m1);done)|(apply Or.inr;(repeat first|assumption|exact m0|apply m1);done)) List.not_mem_nil (lA_at (l := roundsL) (by show z < 64; omega))) (by first|(simp[mids,It.mids,ownPc];done)|(intro k hk;simp[mids,It.mids,ownPc] at hk ⊢;grind)) rfl rfl ?_
    refine SX.val rfl (Val.move rfl) (by simp) rfl rfl ?_
    refine SX.val rfl (Val.indexArP (q := z) tabOk Try.underlying94 rfl rfl rfl (by first | rfl | omega) (by omega) rfl) (by first|(simp[mids,It.mids,ownPc];done)|(intro k hk;simp[mids,It.mids,ownPc] at hk ⊢;grind)) rfl rfl ?_
    refine SX.val rfl (Val.load1 tabOk rfl rfl (by first|(apply Or.inl;(repeat first|assumption|exact m0|apply m1);done)|(apply Or.inr;(repeat first|assumption|exact m0|apply m1);done)) List.not_mem_nil (lA_at (by rw [sched_length]; omega))) (by first|(simp[mids,It.mids,ownPc];done)|(intro k hk;simp[mids,It.mids,ownPc] at hk ⊢;grind)) rfl rfl ?_
    refine SX.call rfl (mix_s 6 11 25 rfl rfl rfl (by decide) (by decide) (by decide)) (by simp [mids, It.mids]) Casts.refl (by kernel_rfl) rfl rfl rfl ?_
    refine After.pure (by repeat first|exact .nil|refine .blk (by repeat first|assumption|exact m0|apply m1) ?_|refine .rd (by repeat first|assumption|exact m0|apply m1) ?_|refine .pc (by repeat first|assumption|exact m0|apply m1) ?_|refine .rdpc (by repeat first|assumption|exact m0|apply m1) ?_) (fun _ => rfl) ?_
    intro _
    refine SX.val rfl (Val.sumW rfl rfl) (by first|(simp[mids,It.mids,ownPc];done)|(intro k hk;simp[mids,It.mids,ownPc] at hk ⊢;grind)) rfl rfl ?_
    refine SX.val rfl (Val.sumW rfl rfl) (by first|(simp[mids,It.mids,ownPc];done)|(intro k hk;simp[mids,It.mids,ownPc] at hk ⊢;grind)) rfl rfl ?_
    refine SX.val rfl (Val.sumW rfl rfl) (by first|(simp[mids,It.mids,ownPc];done)|(intro k hk;simp[mids,It.mids,ownPc] at hk ⊢;grind)) rfl rfl ?_
    refine SX.val rfl (Val.sumW rfl rfl) (by first|(simp[mids,It.mids,ownPc];done)|(intro k hk;simp[mids,It.mids,ownPc] at hk ⊢;grind)) rfl rfl ?_
    refine SX.val rfl (Val.to (C := u32 (t1W (rnds r (sched l) z) (roundsL.getD z 0) ((sched l).getD z 0))) (Val.assign rfl) rfl) (by first|(simp[mids,It.mids,ownPc];done)|(intro k hk;simp[mids,It.mids,ownPc] at hk ⊢;grind)) rfl rfl ?_
    refine SX.nil (SE.seq ?_)
    refine SC.seq ?_
    refine SC.draw [] (.q 0 (.q 1 (.q 3 (.q 4 (.q 5 (.q 6 (.q 7 (.q 8 (.q 9 (.q 10 (.q 11 (.q 12 (.q 13 (.q 14 (.q 15 (.q 16 (.q 17 (.q 18 (.q 19 (.e 2 (.q 20 (.q 21 .nil)))))))))))))))))))))) (by kernel_rfl) (by kernel_rfl) ?_
    refine SX.val rfl (Val.indexArP (q := 0) tabOk Try.underlying97 rfl rfl rfl (by first | rfl | omega) (by decide) rfl) (by first|(simp[mids,It.mids,ownPc];done)|(intro k hk;simp[mids,It.mids,ownPc] at hk ⊢;grind)) rfl rfl ?_
    refine SX.val rfl (Val.load1 tabOk rfl rfl (by first|(apply Or.inl;(repeat first|assumption|exact m0|apply m1);done)|(apply Or.inr;(repeat first|assumption|exact m0|apply m1);done)) List.not_mem_nil (rfl)) (by first|(simp[mids,It.mids,ownPc];done)|(intro k hk;simp[mids,It.mids,ownPc] at hk ⊢;grind)) rfl rfl ?_
    refine SX.val rfl (Val.indexArP (q := 0) tabOk Try.underlying97 rfl rfl rfl (by first | rfl | omega) (by decide) rfl) (by first|(simp[mids,It.mids,ownPc];done)|(intro k hk;simp[mids,It.mids,ownPc] at hk ⊢;grind)) rfl rfl ?_
    refine SX.val rfl (Val.load1 tabOk rfl rfl (by first|(apply Or.inl;(repeat first|assumption|exact m0|apply m1);done)|(apply Or.inr;(repeat first|assumption|exact m0|apply m1);done)) List.not_mem_nil (rfl)) (by first|(simp[mids,It.mids,ownPc];done)|(intro k hk;simp[mids,It.mids,ownPc] at hk ⊢;grind)) rfl rfl ?_
    refine SX.val rfl (Val.indexArP (q := 1) tabOk Try.underlying97 rfl rfl rfl (by first | rfl | omega) (by decide) rfl) (by first|(simp[mids,It.mids,ownPc];done)|(intro k hk;simp[mids,It.mids,ownPc] at hk ⊢;grind)) rfl rfl ?_
    refine SX.val rfl (Val.load1 tabOk rfl rfl (by first|(apply Or.inl;(repeat first|assumption|exact m0|apply m1);done)|(apply Or.inr;(repeat first|assumption|exact m0|apply m1);done)) List.not_mem_nil (rfl)) (by first|(simp[mids,It.mids,ownPc];done)|(intro k hk;simp[mids,It.mids,ownPc] at hk ⊢;grind)) rfl rfl ?_
    refine SX.val rfl (Val.andW rfl rfl) (by first|(simp[mids,It.mids,ownPc];done)|(intro k hk;simp[mids,It.mids,ownPc] at hk ⊢;grind)) rfl rfl ?_
    refine SX.val rfl (Val.indexArP (q := 0) tabOk Try.underlying97 rfl rfl rfl (by first | rfl | omega) (by decide) rfl) (by first|(simp[mids,It.mids,ownPc];done)|(intro k hk;simp[mids,It.mids,ownPc] at hk ⊢;grind)) rfl rfl ?_
    refine SX.val rfl (Val.load1 tabOk rfl rfl (by first|(apply Or.inl;(repeat first|assumption|exact m0|apply m1);done)|(apply Or.inr;(repeat first|assumption|exact m0|apply m1);done)) List.not_mem_nil (rfl)) (by first|(simp[mids,It.mids,ownPc];done)|(intro k hk;simp[mids,It.mids,ownPc] at hk ⊢;grind)) rfl rfl ?_
    refine SX.val rfl (Val.indexArP (q := 2) tabOk Try.underlying97 rfl rfl rfl (by first | rfl | omega) (by decide) rfl) (by first|(simp[mids,It.mids,ownPc];done)|(intro k hk;simp[mids,It.mids,ownPc] at hk ⊢;grind)) rfl rfl ?_
    refine SX.val rfl (Val.load1 tabOk rfl rfl (by first|(apply Or.inl;(repeat first|assumption|exact m0|apply m1);done)|(apply Or.inr;(repeat first|assumption|exact m0|apply m1);done)) List.not_mem_nil (rfl)) (by first|(simp[mids,It.mids,ownPc];done)|(intro k hk;simp[mids,It.mids,ownPc] at hk ⊢;grind)) rfl rfl ?_
    refine SX.val rfl (Val.andW rfl rfl) (by first|(simp[mids,It.mids,ownPc];done)|(intro k hk;simp[mids,It.mids,ownPc] at hk ⊢;grind)) rfl rfl ?_
    refine SX.val rfl (Val.xorW rfl rfl) (by first|(simp[mids,It.mids,ownPc];done)|(intro k hk;simp[mids,It.mids,ownPc] at hk ⊢;grind)) rfl rfl ?_
    refine SX.val rfl (Val.indexArP (q := 1) tabOk Try.underlying97 rfl rfl rfl (by first | rfl | omega) (by decide) rfl) (by first|(simp[mids,It.mids,ownPc];done)|(intro k hk;simp[mids,It.mids,ownPc] at hk ⊢;grind)) rfl rfl ?_
    refine SX.val rfl (Val.load1 tabOk rfl rfl (by first|(apply Or.inl;(repeat first|assumption|exact m0|apply m1);done)|(apply Or.inr;(repeat first|assumption|exact m0|apply m1);done)) List.not_mem_nil (rfl)) (by first|(simp[mids,It.mids,ownPc];done)|(intro k hk;simp[mids,It.mids,ownPc] at hk ⊢;grind)) rfl rfl ?_
    refine SX.val rfl (Val.indexArP (q := 2) tabOk Try.underlying97 rfl rfl rfl (by first | rfl | omega) (by decide) rfl) (by first|(simp[mids,It.mids,ownPc];done)|(intro k hk;simp[mids,It.mids,ownPc] at hk ⊢;grind)) rfl rfl ?_
    refine SX.val rfl (Val.load1 tabOk rfl rfl (by first|(apply Or.inl;(repeat first|assumption|exact m0|apply m1);done)|(apply Or.inr;(repeat first|assumption|exact m0|apply m1);done)) List.not_mem_nil (rfl)) (by first|(simp[mids,It.mids,ownPc];done)|(intro k hk;simp[mids,It.mids,ownPc] at hk ⊢;grind)) rfl rfl ?_
    refine SX.val rfl (Val.andW rfl rfl) (by first|(simp[mids,It.mids,ownPc];done)|(intro k hk;simp[mids,It.mids,ownPc] at hk ⊢;grind)) rfl rfl ?_
    refine SX.val rfl (Val.xorW rfl rfl) (by first|(simp[mids,It.mids,ownPc];done)|(intro k hk;simp[mids,It.mids,ownPc] at hk ⊢;grind)) rfl rfl ?_
    refine SX.call rfl (mix_s 2 13 22 rfl rfl rfl (by decide) (by decide) (by decide)) (by simp [mids, It.mids]) Casts.refl (by kernel_rfl) rfl rfl rfl ?_
    refine After.pure (by repeat first|exact .nil|refine .blk (by repeat first|assumption|exact m0|apply m1) ?_|refine .rd (by repeat first|assumption|exact m0|apply m1) ?_|refine .pc (by repeat first|assumption|exact m0|apply m1) ?_|refine .rdpc (by repeat first|assumption|exact m0|apply m1) ?_) (fun _ => rfl) ?_
    intro _
    refine SX.val rfl (Val.sumW rfl rfl) (by first|(simp[mids,It.mids,ownPc];done)|(intro k hk;simp[mids,It.mids,ownPc] at hk ⊢;grind)) rfl rfl ?_
    refine SX.val rfl (Val.to (C := u32 (t2W (rnds r (sched l) z))) (Val.assign rfl) rfl) (by first|(simp[mids,It.mids,ownPc];done)|(intro k hk;simp[mids,It.mids,ownPc] at hk ⊢;grind)) rfl rfl ?_
    refine SX.nil (SE.seq ?_)
    refine SC.seq (SC.region ?_)
    refine SL.val (Val.indexArP (q := 3) tabOk Try.underlying97 rfl rfl rfl (by first | rfl | omega) (by decide) rfl) rfl rfl ?_
    refine SL.val (Val.load1 tabOk rfl rfl (by first|(apply Or.inl;(repeat first|assumption|exact m0|apply m1);done)|(apply Or.inr;(repeat first|assumption|exact m0|apply m1);done)) List.not_mem_nil (rfl)) rfl rfl ?_
    refine SL.val (Val.move rfl) rfl rfl ?_
    refine SL.val (Val.sumW rfl rfl) rfl rfl ?_
    refine SL.val (Val.indexArP (q := 0) tabOk Try.underlying97 rfl rfl rfl (by first | rfl | omega) (by decide) rfl) rfl rfl ?_
    refine SL.val (Val.load1 tabOk rfl rfl (by first|(apply Or.inl;(repeat first|assumption|exact m0|apply m1);done)|(apply Or.inr;(repeat first|assumption|exact m0|apply m1);done)) List.not_mem_nil (rfl)) rfl rfl ?_
    refine SL.val (Val.indexArP (q := 1) tabOk Try.underlying97 rfl rfl rfl (by first | rfl | omega) (by decide) rfl) rfl rfl ?_
    refine SL.val (Val.load1 tabOk rfl rfl (by first|(apply Or.inl;(repeat first|assumption|exact m0|apply m1);done)|(apply Or.inr;(repeat first|assumption|exact m0|apply m1);done)) List.not_mem_nil (rfl)) rfl rfl ?_
    refine SL.val (Val.indexArP (q := 2) tabOk Try.underlying97 rfl rfl rfl (by first | rfl | omega) (by decide) rfl) rfl rfl ?_
    refine SL.val (Val.load1 tabOk rfl rfl (by first|(apply Or.inl;(repeat first|assumption|exact m0|apply m1);done)|(apply Or.inr;(repeat first|assumption|exact m0|apply m1);done)) List.not_mem_nil (rfl)) rfl rfl ?_
    refine SL.val (Val.to (C := .agg (lA (rnd (rnds r (sched l) z) (roundsL.getD z 0) ((sched l).getD z 0)).e)) (Val.buildA tabOk rfl rfl rfl rfl) rfl) rfl rfl ?_
    refine SL.eff (Eff.store (L' := lA (rnd (rnds r (sched l) z) (roundsL.getD z 0) ((sched l).getD z 0)).e) tabOk rfl rfl rfl (by repeat first|assumption|exact Upd.here|apply Upd.there) (rfl) (Nat.le_of_ble_eq_true (by rfl)) (ones_lA _) (putL_whole (by exact (le4 _).trans (le4 _).symm))) rfl rfl ?_
    rintro _ _ ⟨rfl, rfl⟩
    refine SL.nil (SE.seq ?_)
    refine SC.region ?_
    refine SL.val (Val.move rfl) rfl rfl ?_
    refine SL.val (Val.move rfl) rfl rfl ?_
    refine SL.val (Val.sumW rfl rfl) rfl rfl ?_
    refine SL.val (Val.indexArP (q := 0) tabOk Try.underlying97 rfl rfl rfl (by first | rfl | omega) (by decide) rfl) rfl rfl ?_
    refine SL.val (Val.load1 tabOk rfl rfl (by first|(apply Or.inl;(repeat first|assumption|exact m0|apply m1);done)|(apply Or.inr;(repeat first|assumption|exact m0|apply m1);done)) List.not_mem_nil (rfl)) rfl rfl ?_
    refine SL.val (Val.indexArP (q := 1) tabOk Try.underlying97 rfl rfl rfl (by first | rfl | omega) (by decide) rfl) rfl rfl ?_
    refine SL.val (Val.load1 tabOk rfl rfl (by first|(apply Or.inl;(repeat first|assumption|exact m0|apply m1);done)|(apply Or.inr;(repeat first|assumption|exact m0|apply m1);done)) List.not_mem_nil (rfl)) rfl rfl ?_
    refine SL.val (Val.indexArP (q := 2) tabOk Try.underlying97 rfl rfl rfl (by first | rfl | omega) (by decide) rfl) rfl rfl ?_
    refine SL.val (Val.load1 tabOk rfl rfl (by first|(apply Or.inl;(repeat first|assumption|exact m0|apply m1);done)|(apply Or.inr;(repeat first|assumption|exact m0|apply m1);done)) List.not_mem_nil (rfl)) rfl rfl ?_
    refine SL.val (Val.to (C := .agg (lA (rnd (rnds r (sched l) z) (roundsL.getD z 0) ((sched l).getD z 0)).a)) (Val.buildA tabOk rfl rfl rfl rfl) rfl) rfl rfl ?_
    refine SL.eff (Eff.store tabOk rfl rfl rfl (by repeat first|assumption|exact Upd.here|apply Upd.there) (by rfl) (Nat.le_of_ble_eq_true (by rfl)) (by rfl) (by rfl)) rfl rfl ?_
    rintro _ _ ⟨rfl, rfl⟩
    refine SL.nil ?_
    refine SE.inBlock ?_
    refine SE.seq ?_
    refine SC.region ?_
    first
      | refine SL.val (Val.addI rfl rfl (by simp only [InR, lo, hi]; omega)) rfl rfl ?_
      | refine SL.val (Val.addW rfl rfl) rfl rfl ?_
    refine SL.val (Val.move rfl) rfl rfl ?_
    refine SL.nil ?_
    refine SE.round (z + 1) (by first | omega | (dsimp only; omega)) (by first | omega | (dsimp only; omega)) (by exact ⟨rfl, rfl, rfl, rfl, rfl, rfl, rfl, rfl, trivial⟩) (by repeat first|exact s0 _|exact s1 _|apply s2|apply s3)
end
end Go.Proofs.Ytgfndlibbfamfaa.A
/-
  Sums: New, Add, Sum.
-/
set_option maxRecDepth 100000
set_option linter.unusedSimpArgs false
set_option linter.unusedVariables false
namespace Go.Proofs.Ytgfndlibbfamfaa.A
open Go.RowKit

section
variable {l : List UInt8} {s : Sm} {h : Nat} {v : Value}
theorem snew_s  : Spec Try.prog 25 [] [] (fun b : Nat => hashP 78 5 b (.slice none 0 0) Sm.new) (fun b => ptr b) := by
  refine spec_of Try.func25 rfl Try.ntmps25 rfl fun G w => ?_
  refine SC.seq (SC.region ?_)
  refine SL.val (Val.assign rfl) rfl rfl ?_
  refine SL.nil (SE.seq ?_)
  refine SC.seq ?_
  refine SC.own0 5 1 ?_
  refine SC.region ?_
  refine SL.call (first_s) Casts.refl (by kernel_rfl) rfl rfl rfl ?_
  refine After.pure (by repeat first|exact .nil|refine .blk (by repeat first|assumption|exact m0|apply m1) ?_|refine .rd (by repeat first|assumption|exact m0|apply m1) ?_|refine .pc (by repeat first|assumption|exact m0|apply m1) ?_|refine .rdpc (by repeat first|assumption|exact m0|apply m1) ?_) (fun _ => rfl) ?_
  intro _
  refine SL.val (Val.to (C := .agg (lA firstR.l ++ [.v (.slice none 0 0), int 0])) (Val.buildS tabOk rfl rfl rfl rfl) rfl) rfl rfl ?_
  refine SL.eff (Eff.boxA rfl) rfl rfl ?_
  rintro _ _ ⟨b3, rfl, rfl⟩
  refine SL.val (Val.assign rfl) rfl rfl ?_
  refine SL.nil (SE.seq ?_)
  refine SC.ret ?_
  refine SE.swap ?_
  refine SE.fin (rs := [.tmp 0]) rfl (RV.tmp rfl RV.nil) (b3) (by repeat first|exact s0 _|exact s1 _|apply s2|apply s3) (by simp [It.rids, hashP]) ?_
  exact rfl
set_option maxHeartbeats 2000000 in
theorem sadd_s (hs : s.rest.length < 64) (hl : l.length ≤ 1000000000) (hn : s.n ≤ 1000000000000000) : Spec Try.prog 19 [ptr h, byt l] (hashP 78 5 h v s) (fun v' : Value => hashP 78 5 h v' (s.add l)) (fun _ => .tup []) := by
  unfold hashP
  refine spec_of Try.func19 rfl Try.ntmps19 rfl fun G w => ?_
  refine SC.seq ?_
  refine SC.seq (SC.region ?_)
  refine SL.val (Val.move rfl) rfl rfl ?_
  refine SL.val (Val.eqP rfl rfl (by kernel_rfl)) rfl rfl ?_
  refine SL.nil (SE.seq ?_)
  refine SC.condF rfl ?_
  refine SC.skip ?_
  refine SE.seq ?_
  refine SC.seq (SC.region ?_)
  refine SL.val (Val.move rfl) rfl rfl ?_
  refine SL.val (Val.nilCheck rfl) rfl rfl ?_
  refine SL.val (Val.fieldAddr tabOk rfl rfl rfl rfl rfl) rfl rfl ?_
  refine SL.val (Val.load1 tabOk rfl rfl (by first|(apply Or.inl;(repeat first|assumption|exact m0|apply m1);done)|(apply Or.inr;(repeat first|assumption|exact m0|apply m1);done)) List.not_mem_nil rfl) rfl rfl ?_
  refine SL.val (Val.move rfl) rfl rfl ?_
  first
    | refine SL.val (Val.lenSl rfl Try.underlying22 (List.length_map _)) rfl rfl ?_
    | refine SL.val (Val.lenOwn rfl (by repeat first|assumption|exact m0|apply m1) Try.underlying22 (List.length_map _)) rfl rfl ?_
    | refine SL.val (Val.lenNil rfl Try.underlying22) rfl rfl ?_
  refine SL.val (Val.to (C := int ((s.n + l.length : Nat) : Int)) (Val.addI rfl rfl (by simp only [InR, lo, hi]; omega)) (congrArg int (Int.natCast_add _ _).symm)) rfl rfl ?_
  refine SL.val (Val.nilCheck rfl) rfl rfl ?_
  refine SL.val (Val.fieldAddr tabOk rfl rfl rfl rfl rfl) rfl rfl ?_
  refine SL.eff (Eff.store (L' := lA s.r.l ++ [.v v, int ((s.n + l.length : Nat) : Int)]) tabOk rfl rfl rfl (by repeat first|assumption|exact Upd.here|apply Upd.there) (rfl) (by rw [l8x]; exact (Nat.le_of_ble_eq_true (by rfl))) (by first | exact ones_lA _ | rfl) (rfl)) rfl rfl ?_
  rintro _ _ ⟨rfl, rfl⟩
  refine SL.nil (SE.seq ?_)
  refine SC.seq (SC.region ?_)
  refine SL.val (Val.move rfl) rfl rfl ?_
  refine SL.val (Val.nilCheck rfl) rfl rfl ?_
  refine SL.val (Val.fieldAddr tabOk rfl rfl rfl rfl rfl) rfl rfl ?_
  refine SL.val (Val.load1 tabOk rfl rfl (by first|(apply Or.inl;(repeat first|assumption|exact m0|apply m1);done)|(apply Or.inr;(repeat first|assumption|exact m0|apply m1);done)) List.not_mem_nil rfl) rfl rfl ?_
  refine SL.val (Val.move rfl) rfl rfl ?_
  refine SL.eff (Eff.appendE (zs := bs (s.rest ++ l)) tabOk [] (by simp [bs]) Try.underlying22 rfl rfl rfl rfl rfl rfl (bs_ones _) (by unfold maxLen; simp only [bs, List.length_map, List.length_append, List.length_cons, List.length_nil, List.length_replicate, List.length_drop]; omega) (by rw [show Try.prog.bytesOf 5 = 1 by kernel_rfl]; simp only [bs, List.length_map, List.length_append, List.length_cons, List.length_nil, List.length_replicate, List.length_drop]; omega)) rfl rfl ?_
  rintro _ _ ⟨r21, rfl, rfl⟩
  refine SL.val (Val.assign rfl) rfl rfl ?_
  refine SL.nil (SE.seq ?_)
  refine SC.seq ?_
  refine SC.block ?_
  refine SC.freeze [] (t := 4) rfl rfl ?_
  refine SC.loop (ι := Nat) (fun z => [.blk h 78 (lA (blocks s.r (s.rest ++ l) z).l ++ [.v v, int ((s.n + l.length : Nat) : Int)])]) (fun z => [(0, ptr h), (4, byt ((s.rest ++ l).drop (64 * z)))]) (fun z => 64 * z ≤ (s.rest ++ l).length) (fun z => (s.rest ++ l).length - z) (0) (Nat.zero_le _) (by exact ⟨rfl, rfl, trivial⟩) (by repeat first|exact s0 _|exact s1 _|apply s2|apply s3) ?_
  intro z hz
  have hL : (s.rest ++ l).length = s.rest.length + l.length := List.length_append
  refine SC.seq ?_
  refine SC.seq (SC.region ?_)
  refine SL.val (Val.move rfl) rfl rfl ?_
  first
    | refine SL.val (Val.lenSl rfl Try.underlying22 (List.length_map _)) rfl rfl ?_
    | refine SL.val (Val.lenOwn rfl (by repeat first|assumption|exact m0|apply m1) Try.underlying22 (List.length_map _)) rfl rfl ?_
    | refine SL.val (Val.lenNil rfl Try.underlying22) rfl rfl ?_
  refine SL.val (Val.geI rfl rfl) rfl rfl ?_
  refine SL.nil (SE.seq ?_)
  refine SC.condP rfl ?_ ?_
  rotate_left
  · intro hc24
    rw [List.length_drop] at hc24
    refine SC.exit ?_
    refine SE.then_ (by intro h; cases h) ?_
    refine SE.then_ (by intro h; cases h) ?_
    refine SE.exit ?_
    refine SE.seq ?_
    refine SC.region ?_
    refine SL.val (Val.move rfl) rfl rfl ?_
    refine SL.eff (Eff.buildOwn tabOk Try.underlying22 rfl rfl rfl rfl rfl rfl rfl) rfl rfl ?_
    rintro _ _ ⟨r37, rfl, rfl⟩
    refine SL.val (Val.move rfl) rfl rfl ?_
    refine SL.eff (Eff.appendE (zs := bs ((s.rest ++ l).drop (64 * z))) tabOk [] (rfl) Try.underlying22 rfl rfl rfl rfl rfl rfl (bs_ones _) (by unfold maxLen; simp only [bs, List.length_map, List.length_append, List.length_cons, List.length_nil, List.length_replicate, List.length_drop]; omega) (by rw [show Try.prog.bytesOf 5 = 1 by kernel_rfl]; simp only [bs, List.length_map, List.length_append, List.length_cons, List.length_nil, List.length_replicate, List.length_drop]; omega)) rfl rfl ?_
    rintro _ _ ⟨r39, rfl, rfl⟩
    refine SL.val (Val.nilCheck rfl) rfl rfl ?_
    refine SL.val (Val.fieldAddr tabOk rfl rfl rfl rfl rfl) rfl rfl ?_
    refine SL.eff (Eff.storeOwn (L' := lA (blocks s.r (s.rest ++ l) z).l ++ [.v r39, int ((s.n + l.length : Nat) : Int)]) tabOk rfl rfl rfl rfl (by repeat first|assumption|exact m0|apply m1) (by repeat first|assumption|exact Upd.here|apply Upd.there) rfl rfl) rfl rfl ?_
    rintro _ _ ⟨rfl, rfl⟩
    refine SL.nil ?_
    obtain rfl : z = (s.rest ++ l).length / 64 := by omega
    refine SE.finN (rs := []) rfl RV.nil (r39) (by repeat first|exact s0 _|exact s1 _|apply s2|apply s3) (by simp [It.rids, hashP]) ?_
    exact rfl
  intro hc24
  rw [List.length_drop] at hc24
  refine SC.skip ?_
  refine SE.seq ?_
  refine SC.seq ?_
  refine SC.block ?_
  refine SC.region ?_
  refine SL.val (Val.move rfl) rfl rfl ?_
  refine SL.val (Val.move rfl) rfl rfl ?_
  refine SL.val (Val.nilCheck rfl) rfl rfl ?_
  refine SL.val (Val.fieldAddr tabOk rfl rfl rfl rfl rfl) rfl rfl ?_
  refine SL.val (Val.to (C := .agg (lA (blocks s.r (s.rest ++ l) z).l)) (Val.loadP tabOk rfl rfl rfl (by first|(apply Or.inl;(repeat first|assumption|exact m0|apply m1);done)|(apply Or.inr;(repeat first|assumption|exact m0|apply m1);done)) List.not_mem_nil (by rw [l8x]; exact (Nat.le_of_ble_eq_true (by rfl)))) (congrArg Abs.agg (part8 _ _))) rfl rfl ?_
  refine SL.val (Val.move rfl) rfl rfl ?_
  refine SL.call (block_s (r := (blocks s.r (s.rest ++ l) z)) (l := (s.rest ++ l).drop (64 * z)) (by rw [List.length_drop]; omega) (by rw [List.length_drop, List.length_append]; omega)) Casts.refl (by kernel_rfl) rfl rfl rfl ?_
  refine After.pure (by repeat first|exact .nil|refine .blk (by repeat first|assumption|exact m0|apply m1) ?_|refine .rd (by repeat first|assumption|exact m0|apply m1) ?_|refine .pc (by repeat first|assumption|exact m0|apply m1) ?_|refine .rdpc (by repeat first|assumption|exact m0|apply m1) ?_) (fun _ => rfl) ?_
  intro _
  refine SL.val (Val.nilCheck rfl) rfl rfl ?_
  refine SL.val (Val.fieldAddr tabOk rfl rfl rfl rfl rfl) rfl rfl ?_
  refine SL.eff (Eff.store (L' := lA (blocks s.r (s.rest ++ l) (z + 1)).l ++ [.v v, int ((s.n + l.length : Nat) : Int)]) tabOk rfl rfl rfl (by repeat first|assumption|exact Upd.here|apply Upd.there) (l8 _) (by rw [l8x]; exact (Nat.le_of_ble_eq_true (by rfl))) (by first | exact ones_lA _ | rfl) (put8 _ _ _)) rfl rfl ?_
  rintro _ _ ⟨rfl, rfl⟩
  refine SL.nil ?_
  refine SE.inBlock ?_
  refine SE.seq ?_
  refine SC.region ?_
  refine SL.val (Val.move rfl) rfl rfl ?_
  refine SL.val (Val.to (C := byt ((s.rest ++ l).drop (64 * (z + 1)))) (Val.sliceLo (q := 64) tabOk Try.underlying22 rfl rfl rfl rfl rfl (by rw [List.length_map, List.length_drop]; omega)) (drop64 _ _)) rfl rfl ?_
  refine SL.val (Val.assign rfl) rfl rfl ?_
  refine SL.nil ?_
  refine SE.round (z + 1) (by first | omega | (dsimp only; omega)) (by first | omega | (dsimp only; omega)) (by exact ⟨rfl, rfl, trivial⟩) (by repeat first|exact s0 _|exact s1 _|apply s2|apply s3)
set_option maxHeartbeats 4000000 in
theorem ssum_s (hs : s.rest.length < 64) (hn : s.n ≤ 1000000000000000) : Spec Try.prog 20 [ptr h] (hashP 78 5 h v s) (fun _ : Unit => []) (fun _ => .agg (digA s.sum)) := by
  unfold hashP
  have hP : (padded s.rest s.n).length = 64 ∨ (padded s.rest s.n).length = 128 := by rw [padded_length hs]; split <;> omega
  refine spec_of Try.func20 rfl Try.ntmps20 rfl fun G w => ?_
  refine SC.seq (SC.region ?_)
  refine SL.eff (Eff.alloc tabOk rfl) rfl rfl ?_
  rintro _ _ ⟨b2, rfl, rfl⟩
  refine SL.nil (SE.seq ?_)
  refine SC.seq (SC.region ?_)
  refine SL.eff (Eff.alloc tabOk rfl) rfl rfl ?_
  rintro _ _ ⟨b3, rfl, rfl⟩
  refine SL.nil (SE.seq ?_)
  refine SC.seq ?_
  refine SC.seq (SC.region ?_)
  refine SL.val (Val.move rfl) rfl rfl ?_
  refine SL.val (Val.eqP rfl rfl (by kernel_rfl)) rfl rfl ?_
  refine SL.nil (SE.seq ?_)
  refine SC.condF rfl ?_
  refine SC.skip ?_
  refine SE.seq ?_
  refine SC.seq (SC.region ?_)
  refine SL.eff (Eff.buildOwn tabOk Try.underlying22 rfl rfl rfl rfl rfl rfl rfl) rfl rfl ?_
  rintro _ _ ⟨r12, rfl, rfl⟩
  refine SL.val (Val.move rfl) rfl rfl ?_
  refine SL.val (Val.nilCheck rfl) rfl rfl ?_
  refine SL.val (Val.fieldAddr tabOk rfl rfl rfl rfl rfl) rfl rfl ?_
  refine SL.val (Val.load1 tabOk rfl rfl (by first|(apply Or.inl;(repeat first|assumption|exact m0|apply m1);done)|(apply Or.inr;(repeat first|assumption|exact m0|apply m1);done)) List.not_mem_nil rfl) rfl rfl ?_
  refine SL.freeze [own 5 1 r12 [], .blk b3 64 _, .blk b2 64 _] (t := 16) rfl rfl ?_
  refine SL.eff (Eff.appendE (zs := bs s.rest) tabOk [] (rfl) Try.underlying22 rfl rfl rfl rfl rfl rfl (bs_ones _) (by unfold maxLen; simp only [bs, List.length_map, List.length_append, List.length_cons, List.length_nil, List.length_replicate, List.length_drop]; omega) (by rw [show Try.prog.bytesOf 5 = 1 by kernel_rfl]; simp only [bs, List.length_map, List.length_append, List.length_cons, List.length_nil, List.length_replicate, List.length_drop]; omega)) rfl rfl ?_
  rintro _ _ ⟨r17, rfl, rfl⟩
  refine SL.eff (Eff.buildSl tabOk Try.underlying22 rfl rfl rfl rfl rfl rfl rfl) rfl rfl ?_
  rintro _ _ ⟨rfl, rfl⟩
  refine SL.eff (Eff.appendE (zs := bs (s.rest ++ [128])) tabOk [] (by rw [show bs (s.rest ++ [128]) = bs s.rest ++ bs [128] from List.map_append]; rfl) Try.underlying22 rfl rfl rfl rfl rfl rfl (by intro c hc; rw [List.mem_singleton] at hc; subst hc; rfl) (by unfold maxLen; simp only [bs, List.length_map, List.length_append, List.length_cons, List.length_nil, List.length_replicate, List.length_drop]; omega) (by rw [show Try.prog.bytesOf 5 = 1 by kernel_rfl]; simp only [bs, List.length_map, List.length_append, List.length_cons, List.length_nil, List.length_replicate, List.length_drop]; omega)) rfl rfl ?_
  rintro _ _ ⟨r19, rfl, rfl⟩
  refine SL.val (Val.assign rfl) rfl rfl ?_
  refine SL.nil (SE.seq ?_)
  refine SC.seq ?_
  refine SC.block ?_
  refine SC.loop (ι := Nat × Value) (fun z => [own 5 1 z.2 (bs (s.rest ++ ([128] ++ List.replicate z.1 0))), .blk b3 64 (digA (outN [] 0)), .blk b2 64 (digA (outN [] 0)), .blk h 78 (lA s.r.l ++ [.v v, int (s.n : Nat)])]) (fun z => [(0, ptr h), (2, ptr b2), (3, ptr b3), (4, .v z.2)]) (fun z => z.1 ≤ (119 - s.rest.length) % 64) (fun z => 64 - z.1) (0, r19) (Nat.zero_le _) (by exact ⟨rfl, rfl, rfl, rfl, trivial⟩) (by repeat first|exact s0 _|exact s1 _|apply s2|apply s3) ?_
  intro z hz
  refine SC.seq ?_
  refine SC.seq (SC.region ?_)
  refine SL.val (Val.move rfl) rfl rfl ?_
  first
    | refine SL.val (Val.lenSl rfl Try.underlying22 (List.length_map _)) rfl rfl ?_
    | refine SL.val (Val.lenOwn rfl (by repeat first|assumption|exact m0|apply m1) Try.underlying22 (List.length_map _)) rfl rfl ?_
    | refine SL.val (Val.lenNil rfl Try.underlying22) rfl rfl ?_
  first
    | refine SL.val (Val.remI rfl rfl (by omega)) rfl rfl ?_
    | refine SL.val (Val.remT rfl rfl (by omega)) rfl rfl ?_
  refine SL.val (Val.neI rfl rfl) rfl rfl ?_
  refine SL.nil (SE.seq ?_)
  refine SC.condP rfl ?_ ?_
  · intro hc23
    simp only [List.length_append, List.length_replicate, List.length_cons, List.length_nil] at hc23
    refine SC.skip ?_
    refine SE.seq ?_
    refine SC.block ?_
    refine SC.region ?_
    refine SL.val (Val.move rfl) rfl rfl ?_
    refine SL.eff (Eff.buildSl tabOk Try.underlying22 rfl rfl rfl rfl rfl rfl rfl) rfl rfl ?_
    rintro _ _ ⟨rfl, rfl⟩
    refine SL.eff (Eff.appendE (zs := bs (s.rest ++ ([128] ++ List.replicate (z.1 + 1) 0))) tabOk [] (pad_snoc _ _) Try.underlying22 rfl rfl rfl rfl rfl rfl (by intro c hc; rw [List.mem_singleton] at hc; subst hc; rfl) (by unfold maxLen; simp only [bs, List.length_map, List.length_append, List.length_cons, List.length_nil, List.length_replicate, List.length_drop]; omega) (by rw [show Try.prog.bytesOf 5 = 1 by kernel_rfl]; simp only [bs, List.length_map, List.length_append, List.length_cons, List.length_nil, List.length_replicate, List.length_drop]; omega)) rfl rfl ?_
    rintro _ _ ⟨r26, rfl, rfl⟩
    refine SL.val (Val.assign rfl) rfl rfl ?_
    refine SL.nil ?_
    refine SE.inBlock ?_
    refine SE.round (z.1 + 1, r26) (by first | omega | (dsimp only; omega)) (by first | omega | (dsimp only; omega)) (by exact ⟨rfl, rfl, rfl, rfl, trivial⟩) (by repeat first|exact s0 _|exact s1 _|apply s2|apply s3)
  intro hc23
  simp only [List.length_append, List.length_replicate, List.length_cons, List.length_nil] at hc23
  refine SC.exit ?_
  refine SE.then_ (by intro h; cases h) ?_
  refine SE.then_ (by intro h; cases h) ?_
  refine SE.exit ?_
  refine SE.seq ?_
  refine SC.seq ?_
  have hz1 : z.1 = (119 - s.rest.length) % 64 := by omega
  refine SC.freeze [] (t := 4) rfl rfl ?_
  refine SC.region ?_
  refine SL.val (Val.move rfl) rfl rfl ?_
  refine SL.val (Val.move rfl) rfl rfl ?_
  refine SL.val (Val.nilCheck rfl) rfl rfl ?_
  refine SL.val (Val.fieldAddr tabOk rfl rfl rfl rfl rfl) rfl rfl ?_
  refine SL.val (Val.load1 tabOk rfl rfl (by first|(apply Or.inl;(repeat first|assumption|exact m0|apply m1);done)|(apply Or.inr;(repeat first|assumption|exact m0|apply m1);done)) List.not_mem_nil rfl) rfl rfl ?_
  first
    | refine SL.val (Val.convI rfl Try.underlying67 (by kernel_rfl) (by simp only [InR, lo, hi]; omega)) rfl rfl ?_
    | refine SL.val (Val.convU rfl Try.underlying67 (by kernel_rfl)) rfl rfl ?_
  refine SL.val (Val.to (C := wrd (s.n * 8)) (Val.mulI rfl rfl (by simp only [InR, lo, hi]; omega)) (congrArg (fun q => Abs.v (.int .u64 q)) (by omega))) rfl rfl ?_
  refine SL.call (put_s (x := s.n * 8) (by unfold lots; simp only [List.length_append, List.length_replicate, List.length_cons, List.length_nil]; omega) (by omega) (by decide)) Casts.refl (by kernel_rfl) rfl rfl rfl ?_
  refine After.pure (by repeat first|exact .nil|refine .blk (by repeat first|assumption|exact m0|apply m1) ?_|refine .rd (by repeat first|assumption|exact m0|apply m1) ?_|refine .pc (by repeat first|assumption|exact m0|apply m1) ?_|refine .rdpc (by repeat first|assumption|exact m0|apply m1) ?_) (fun _ => rfl) ?_
  intro _
  refine SL.val (Val.to (C := byt (padded s.rest s.n)) (Val.assign rfl) (by rw [hz1]; exact congrArg byt (by simp only [padded, List.append_assoc]; rfl))) rfl rfl ?_
  refine SL.nil (SE.seq ?_)
  refine SC.seq (SC.region ?_)
  refine SL.val (Val.move rfl) rfl rfl ?_
  refine SL.val (Val.nilCheck rfl) rfl rfl ?_
  refine SL.val (Val.fieldAddr tabOk rfl rfl rfl rfl rfl) rfl rfl ?_
  refine SL.val (Val.to (C := .agg (lA s.r.l)) (Val.loadP tabOk rfl rfl rfl (by first|(apply Or.inl;(repeat first|assumption|exact m0|apply m1);done)|(apply Or.inr;(repeat first|assumption|exact m0|apply m1);done)) List.not_mem_nil (by rw [l8x]; exact (Nat.le_of_ble_eq_true (by rfl)))) (congrArg Abs.agg (part8 _ _))) rfl rfl ?_
  refine SL.eff (Eff.alloc tabOk rfl) rfl rfl ?_
  rintro _ _ ⟨b5, rfl, rfl⟩
  refine SL.eff (Eff.store (L' := lA s.r.l) tabOk rfl rfl rfl (by repeat first|assumption|exact Upd.here|apply Upd.there) (l8 _) (Nat.le_of_ble_eq_true (by rfl)) (by exact ones_lA _) (putL_whole (by exact rfl))) rfl rfl ?_
  rintro _ _ ⟨rfl, rfl⟩
  refine SL.nil (SE.seq ?_)
  refine SC.seq ?_
  refine SC.block ?_
  refine SC.loop (ι := Nat) (fun z => [.blk b5 76 (lA (blocks s.r (padded s.rest s.n) z).l), .blk b3 64 (digA (outN [] 0)), .blk b2 64 (digA (outN [] 0))]) (fun z => [(2, ptr b2), (3, ptr b3), (4, byt ((padded s.rest s.n).drop (64 * z))), (5, ptr b5)]) (fun z => 64 * z ≤ (padded s.rest s.n).length) (fun z => (padded s.rest s.n).length - z) (0) (Nat.zero_le _) (by exact ⟨rfl, rfl, rfl, rfl, trivial⟩) (by repeat first|exact s0 _|exact s1 _|apply s2|apply s3) ?_
  intro z hz
  refine SC.seq ?_
  refine SC.seq (SC.region ?_)
  refine SL.val (Val.move rfl) rfl rfl ?_
  first
    | refine SL.val (Val.lenSl rfl Try.underlying22 (List.length_map _)) rfl rfl ?_
    | refine SL.val (Val.lenOwn rfl (by repeat first|assumption|exact m0|apply m1) Try.underlying22 (List.length_map _)) rfl rfl ?_
    | refine SL.val (Val.lenNil rfl Try.underlying22) rfl rfl ?_
  refine SL.val (Val.gtI rfl rfl) rfl rfl ?_
  refine SL.nil (SE.seq ?_)
  refine SC.condP rfl ?_ ?_
  · intro hc41
    rw [List.length_drop] at hc41
    refine SC.skip ?_
    refine SE.seq ?_
    refine SC.seq ?_
    refine SC.block ?_
    refine SC.region ?_
    refine SL.val (Val.loadA tabOk rfl rfl rfl (by first|(apply Or.inl;(repeat first|assumption|exact m0|apply m1);done)|(apply Or.inr;(repeat first|assumption|exact m0|apply m1);done)) List.not_mem_nil (l8 _)) rfl rfl ?_
    refine SL.val (Val.move rfl) rfl rfl ?_
    refine SL.call (block_s (r := (blocks s.r (padded s.rest s.n) z)) (l := (padded s.rest s.n).drop (64 * z)) (by rw [List.length_drop]; omega) (by rw [List.length_drop]; omega)) Casts.refl (by kernel_rfl) rfl rfl rfl ?_
    refine After.pure (by repeat first|exact .nil|refine .blk (by repeat first|assumption|exact m0|apply m1) ?_|refine .rd (by repeat first|assumption|exact m0|apply m1) ?_|refine .pc (by repeat first|assumption|exact m0|apply m1) ?_|refine .rdpc (by repeat first|assumption|exact m0|apply m1) ?_) (fun _ => rfl) ?_
    intro _
    refine SL.eff (Eff.store (L' := lA (blocks s.r (padded s.rest s.n) (z + 1)).l) tabOk rfl rfl rfl (by repeat first|assumption|exact Upd.here|apply Upd.there) (l8 _) (Nat.le_of_ble_eq_true (by rfl)) (by exact ones_lA _) (putL_whole (by exact (l8 _).trans (l8 _).symm))) rfl rfl ?_
    rintro _ _ ⟨rfl, rfl⟩
    refine SL.nil ?_
    refine SE.inBlock ?_
    refine SE.seq ?_
    refine SC.region ?_
    refine SL.val (Val.move rfl) rfl rfl ?_
    refine SL.val (Val.to (C := byt ((padded s.rest s.n).drop (64 * (z + 1)))) (Val.sliceLo (q := 64) tabOk Try.underlying22 rfl rfl rfl rfl rfl (by rw [List.length_map, List.length_drop]; omega)) (drop64 _ _)) rfl rfl ?_
    refine SL.val (Val.assign rfl) rfl rfl ?_
    refine SL.nil ?_
    refine SE.round (z + 1) (by first | omega | (dsimp only; omega)) (by first | omega | (dsimp only; omega)) (by exact ⟨rfl, rfl, rfl, rfl, trivial⟩) (by repeat first|exact s0 _|exact s1 _|apply s2|apply s3)
  intro hc41
  rw [List.length_drop] at hc41
  refine SC.exit ?_
  refine SE.then_ (by intro h; cases h) ?_
  refine SE.then_ (by intro h; cases h) ?_
  refine SE.exit ?_
  refine SE.seq ?_
  refine SC.seq ?_
  refine SC.seq ?_
  obtain rfl : z = (padded s.rest s.n).length / 64 := by omega
  refine SC.region ?_
  refine SL.val (Val.loadA tabOk rfl rfl rfl (by first|(apply Or.inl;(repeat first|assumption|exact m0|apply m1);done)|(apply Or.inr;(repeat first|assumption|exact m0|apply m1);done)) List.not_mem_nil (l8 _)) rfl rfl ?_
  refine SL.val (Val.move rfl) rfl rfl ?_
  refine SL.nil (SE.seq ?_)
  refine SC.block ?_
  refine SC.loop (ι := Nat) (fun y => [.blk b3 64 (digA (outN (blocks s.r (padded s.rest s.n) ((padded s.rest s.n).length / 64)).l (4 * y))), .blk b2 64 (digA (outN [] 0))]) (fun y => [(2, ptr b2), (3, ptr b3), (47, .agg (lA (blocks s.r (padded s.rest s.n) ((padded s.rest s.n).length / 64)).l)), (48, int (y : Nat))]) (fun y => y ≤ 8) (fun y => 8 - y) (0) (by decide) (by exact ⟨rfl, rfl, rfl, rfl, trivial⟩) (by repeat first|exact s0 _|exact s1 _|apply s2|apply s3) ?_
  intro y hy
  refine SC.seq (SC.region ?_)
  refine SL.val (Val.ltI rfl rfl) rfl rfl ?_
  refine SL.nil (SE.seq ?_)
  refine SC.seq ?_
  refine SC.condP rfl ?_ ?_
  rotate_left
  · intro hc49
    refine SC.exit ?_
    refine SE.then_ (by intro h; cases h) ?_
    refine SE.then_ (by intro h; cases h) ?_
    refine SE.exit ?_
    refine SE.seq ?_
    refine SC.seq ?_
    obtain rfl : y = 8 := by omega
    refine SC.region ?_
    refine SL.val (Val.loadA tabOk rfl rfl rfl (by first|(apply Or.inl;(repeat first|assumption|exact m0|apply m1);done)|(apply Or.inr;(repeat first|assumption|exact m0|apply m1);done)) List.not_mem_nil (dig_out _ (by omega))) rfl rfl ?_
    refine SL.eff (Eff.store (L' := digA (outN (blocks s.r (padded s.rest s.n) ((padded s.rest s.n).length / 64)).l (4 * 8))) tabOk rfl rfl rfl (by repeat first|assumption|exact Upd.here|apply Upd.there) (dig_out _ (by omega)) (Nat.le_of_ble_eq_true (by rfl)) (by exact ones_dig _) (putL_whole (by exact (dig_out _ (by omega)).trans (dig_out _ (by omega)).symm))) rfl rfl ?_
    rintro _ _ ⟨rfl, rfl⟩
    refine SL.nil (SE.seq ?_)
    refine SC.ret ?_
    refine SE.fin (rs := [.cell 2 64]) rfl (RV.cell rfl (RV.cellA tabOk rfl rfl (by first|(apply Or.inl;(repeat first|assumption|exact m0|apply m1);done)|(apply Or.inr;(repeat first|assumption|exact m0|apply m1);done)) (dig_out _ (by omega))) RV.nil) (()) (by repeat first|exact s0 _|exact s1 _|apply s2|apply s3) (by simp [It.rids]) ?_
    exact rfl
  intro hc49
  refine SC.skip ?_
  refine SE.seq ?_
  refine SC.seq ?_
  refine SC.block ?_
  refine SC.seq (SC.region ?_)
  refine SL.val (Val.move rfl) rfl rfl ?_
  refine SL.val (Val.indexAr (q := y) tabOk Try.underlying76 rfl rfl rfl rfl rfl (by omega) (lA_get (by show y < 8; omega))) rfl rfl ?_
  refine SL.val (Val.assign rfl) rfl rfl ?_
  refine SL.val (Val.assign rfl) rfl rfl ?_
  refine SL.nil (SE.seq ?_)
  refine SC.seq (SC.region ?_)
  refine SL.val (Val.move rfl) rfl rfl ?_
  refine SL.nil (SE.seq ?_)
  refine SC.block ?_
  refine SC.loop (ι := Nat) (fun x => [.blk b3 64 (digA (outN (blocks s.r (padded s.rest s.n) ((padded s.rest s.n).length / 64)).l (4 * y + x))), .blk b2 64 (digA (outN [] 0))]) (fun x => [(2, ptr b2), (3, ptr b3), (47, .agg (lA (blocks s.r (padded s.rest s.n) ((padded s.rest s.n).length / 64)).l)), (48, int (y : Nat)), (6, int (y : Nat)), (7, u32 ((blocks s.r (padded s.rest s.n) ((padded s.rest s.n).length / 64)).l.getD y 0)), (52, int (x : Nat))]) (fun x => x ≤ 4) (fun x => 4 - x) (0) (by decide) (by exact ⟨rfl, rfl, rfl, rfl, rfl, rfl, rfl, trivial⟩) (by repeat first|exact s0 _|exact s1 _|apply s2|apply s3) ?_
  intro x hx
  refine SC.seq (SC.region ?_)
  refine SL.val (Val.ltI rfl rfl) rfl rfl ?_
  refine SL.nil (SE.seq ?_)
  refine SC.seq ?_
  refine SC.condP rfl ?_ ?_
  rotate_left
  · intro hc53
    refine SC.exit ?_
    refine SE.then_ (by intro h; cases h) ?_
    refine SE.then_ (by intro h; cases h) ?_
    refine SE.exit ?_
    refine SE.inBlock ?_
    refine SE.seq ?_
    refine SC.region ?_
    first
      | refine SL.val (Val.addI rfl rfl (by simp only [InR, lo, hi]; omega)) rfl rfl ?_
      | refine SL.val (Val.addW rfl rfl) rfl rfl ?_
    refine SL.val (Val.move rfl) rfl rfl ?_
    refine SL.nil ?_
    obtain rfl : x = 4 := by omega
    refine SE.round (y + 1) (by first | omega | (dsimp only; omega)) (by first | omega | (dsimp only; omega)) (by exact ⟨rfl, rfl, rfl, rfl, trivial⟩) (by repeat first|exact s0 _|exact s1 _|apply s2|apply s3)
  intro hc53
  refine SC.skip ?_
  refine SE.seq ?_
  refine SC.seq ?_
  refine SC.block ?_
  refine SC.seq (SC.region ?_)
  refine SL.val (Val.move rfl) rfl rfl ?_
  refine SL.val (Val.assign rfl) rfl rfl ?_
  refine SL.nil (SE.seq ?_)
  refine SC.region ?_
  refine SL.val (Val.move rfl) rfl rfl ?_
  first
    | refine SL.val (Val.mulI rfl rfl (by simp only [InR, lo, hi]; omega)) rfl rfl ?_
    | refine SL.val (Val.mulW rfl rfl) rfl rfl ?_
  refine SL.val (Val.move rfl) rfl rfl ?_
  first
    | refine SL.val (Val.addI rfl rfl (by simp only [InR, lo, hi]; omega)) rfl rfl ?_
    | refine SL.val (Val.addW rfl rfl) rfl rfl ?_
  refine SL.val (Val.move rfl) rfl rfl ?_
  refine SL.val (Val.move rfl) rfl rfl ?_
  first
    | refine SL.val (Val.mulI rfl rfl (by simp only [InR, lo, hi]; omega)) rfl rfl ?_
    | refine SL.val (Val.mulW rfl rfl) rfl rfl ?_
  first
    | refine SL.val (Val.subI rfl rfl (by simp only [InR, lo, hi]; omega)) rfl rfl ?_
    | refine SL.val (Val.subW rfl rfl) rfl rfl ?_
  first
    | refine SL.val (Val.convI rfl Try.underlying70 (by kernel_rfl) (by simp only [InR, lo, hi]; omega)) rfl rfl ?_
    | refine SL.val (Val.convU rfl Try.underlying70 (by kernel_rfl)) rfl rfl ?_
  refine SL.val (Val.shrB (m := 24 - 8 * x) rfl rfl (by first | rfl | omega)) rfl rfl ?_
  refine SL.val (Val.to (C := .v (bc (byteAt (blocks s.r (padded s.rest s.n) ((padded s.rest s.n).length / 64)).l (4 * y + x)))) (Val.conv32 rfl Try.underlying5 (by kernel_rfl)) (congrArg (fun q => Abs.v (bc q)) (byteAt_eq _ (by omega)))) rfl rfl ?_
  refine SL.val (Val.indexArP (q := 4 * y + x) tabOk Try.underlying64 rfl rfl rfl (by first | rfl | omega) (by omega) rfl) rfl rfl ?_
  refine SL.eff (Eff.store (L' := digA (outN (blocks s.r (padded s.rest s.n) ((padded s.rest s.n).length / 64)).l (4 * y + (x + 1)))) tabOk rfl rfl rfl (by repeat first|assumption|exact Upd.here|apply Upd.there) (by rfl) (by rw [dig_out _ (by omega)]; show 0 + (4 * y + x) * 1 + 1 ≤ 32; omega) (by rfl) (digA_put (by rw [outN_length _ (by omega)]; omega) (outN_set _ (by omega)))) rfl rfl ?_
  rintro _ _ ⟨rfl, rfl⟩
  refine SL.nil ?_
  refine SE.inBlock ?_
  refine SE.seq ?_
  refine SC.region ?_
  first
    | refine SL.val (Val.addI rfl rfl (by simp only [InR, lo, hi]; omega)) rfl rfl ?_
    | refine SL.val (Val.addW rfl rfl) rfl rfl ?_
  refine SL.val (Val.move rfl) rfl rfl ?_
  refine SL.nil ?_
  refine SE.round (x + 1) (by first | omega | (dsimp only; omega)) (by first | omega | (dsimp only; omega)) (by exact ⟨rfl, rfl, rfl, rfl, rfl, rfl, rfl, trivial⟩) (by repeat first|exact s0 _|exact s1 _|apply s2|apply s3)
end
end Go.Proofs.Ytgfndlibbfamfaa.A
/-
  The second engine: maps of plain keys and values as pieces of memory.
-/
set_option maxRecDepth 100000
set_option linter.unusedSimpArgs false
set_option linter.unusedVariables false
namespace Go.Proofs.Ytgfndlibbfamfaa.A
open Go.RowKit

theorem map_same {α β : Type} {w w' : World} {b : Nat} {K : α → Value} {V : β → Value} {Good : α → Prop} {m : List (α × β)} (h : MapOf w b K V Good m) (hb : w'.heap[b]? = w.heap[b]?) : MapOf w' b K V Good m := by
  obtain ⟨es, clock, h1, h2⟩ := h
  exact ⟨es, clock, hb.trans h1, h2⟩
/-- A map as a piece of memory. -/
def mapPc {α β : Type} (b : Nat) (K : α → Value) (V : β → Value) (Good : α → Prop) (m : List (α × β)) : Pc where
  ids := [b]
  p := fun _ w => MapOf w b K V Good m
  carry := fun _ _ _ _ _ hs h => map_same h (hs b (by simp))
  lt := fun _ _ h k hk => by simp at hk; subst hk; exact h.lt
abbrev mapV (b : Nat) : Abs := .v (.map (some b))
section
variable {P : Program} {n : Nat} {W : Wd} {σ τ : Blks} {l : Slots} {X : List Nat} {x y z : Operand} {d : Option Nat} {ty t k e : TypeId} {pos : String} {aft : Array Edge} {g : Option (Nat × Bool)} {b : Nat} {A B C : Abs}
variable {α β : Type} [DecidableEq α] {K : α → Value} {V : β → Value} {Good : α → Prop} {m : List (α × β)} {a : α} {v : β} {zv : Value}
/-- The tree stands for just this value. -/
def Abs.is (A : Abs) (u : Value) : Prop := (∀ K w x, rep K w A x → x = u) ∧ ∀ K w, rep K w A u
theorem is_v {u : Value} : (Abs.v u).is u := ⟨fun _ _ _ h => h, fun _ _ => rfl⟩
theorem is_agg {us : List Value} : (Abs.agg (us.map .v)).is (.agg us.toArray) := ⟨fun _ _ _ ⟨vs, h1, h2⟩ => by rw [h1, reps_plain.1 h2], fun _ _ => ⟨us, rfl, reps_plain.2 rfl⟩⟩
omit [DecidableEq α] in
theorem mem_map {w0 w : World} {F G : List Nat} {σ : Blks} (h : Mem w0 F G σ w) (hb : It.pc (mapPc b K V Good m) ∈ σ ∨ It.rdpc (mapPc b K V Good m) ∈ σ) : MapOf w b K V Good m := by
  rcases hb with hb | hb
  · exact h.hold _ hb
  · exact h.hold _ hb
omit [DecidableEq α] in
theorem map_later {w w' : World} (h : MapOf w b K V Good m) (hx : Ext X w w') (hb : b ∉ X) : MapOf w' b K V Good m := h.ext hx hb
/-- 'v, ok := m[k]'. -/
theorem Val.mapGetOk (kf : KeyFit P k K Good) (ht : P.underlying t = some (.map k e)) (hz : ∀ w, (zeroValue e).run P w = .ok zv w) (hx : look l x = some (mapV b)) (hb : It.pc (mapPc b K V Good m) ∈ σ ∨ It.rdpc (mapPc b K V Good m) ∈ σ) (hbX : b ∉ X)
    (hy : look l y = some A) (hA : A.is (K a)) (ha : Good a) (hC : C.is (((aget m a).map V).getD zv)) : Val P n W σ l X ⟨d, .lookup t x y true, ty, pos, aft, g⟩ (.tup [C, .v (.bool (aget m a).isSome)]) := fun ac w hs _ => by
  have h1 := mem_map hs.mem hb
  have e1 := hs.plain hx
  have e2 := hA.1 _ _ _ (hs.eval hy)
  refine ⟨.tuple #[((aget m a).map V).getD zv, .bool (aget m a).isSome], ⟨_, rfl, _, _, rfl, hC.2 _ _, _, _, rfl, rfl, rfl⟩, fun w' hw' => ?_⟩
  simp only [execOp, e1, e2, Sem.run_bind, (h1.ext hw' hbX).look_run kf ht (hz w') ha true, if_true, Result.andThen_ok, Sem.run_pure]
/-- 'm[k]'. -/
theorem Val.mapGet (kf : KeyFit P k K Good) (ht : P.underlying t = some (.map k e)) (hz : ∀ w, (zeroValue e).run P w = .ok zv w) (hx : look l x = some (mapV b)) (hb : It.pc (mapPc b K V Good m) ∈ σ ∨ It.rdpc (mapPc b K V Good m) ∈ σ) (hbX : b ∉ X)
    (hy : look l y = some A) (hA : A.is (K a)) (ha : Good a) (hC : C.is (((aget m a).map V).getD zv)) : Val P n W σ l X ⟨d, .lookup t x y false, ty, pos, aft, g⟩ C := fun ac w hs _ => by
  have h1 := mem_map hs.mem hb
  have e1 := hs.plain hx
  have e2 := hA.1 _ _ _ (hs.eval hy)
  refine ⟨((aget m a).map V).getD zv, hC.2 _ _, fun w' hw' => ?_⟩
  simp only [execOp, e1, e2, Sem.run_bind, (h1.ext hw' hbX).look_run kf ht (hz w') ha false, Bool.false_eq_true, if_false, Result.andThen_ok, Sem.run_pure]
omit [DecidableEq α] in
theorem Val.lenMap (ht : P.underlying t = some (.map k e)) (hx : look l x = some (mapV b)) (hb : It.pc (mapPc b K V Good m) ∈ σ ∨ It.rdpc (mapPc b K V Good m) ∈ σ) (hbX : b ∉ X) : Val P n W σ l X ⟨d, .call { callee := .builtin .len, args := #[x], argTypes := #[t] }, ty, pos, aft, g⟩ (.v (.int .i64 m.length)) := fun ac w hs _ => by
  have h1 : MapOf w b K V Good m := by
    rcases hb with hb | hb
    · exact hs.mem.hold _ hb
    · exact hs.mem.hold _ hb
  refine ⟨_, rfl, fun w' hw' => ?_⟩
  simp [execOp, resolve, invoke, builtin, hs.plain hx, (h1.ext hw' hbX).len_run ht ty, Result.andThen]
/-- 'm[k] = v'. -/
theorem Eff.mapPut {m' : List (α × β)} (kf : KeyFit P k K Good) (ht : P.underlying t = some (.map k e)) (hx : look l x = some (mapV b)) (hu : Upd (.pc (mapPc b K V Good m)) (.pc (mapPc b K V Good m')) σ τ) (hy : look l y = some A) (hA : A.is (K a)) (ha : Good a) (hz : look l z = some B) (hB : B.is (V v)) (hm : aput m a v = m') :
    Eff P n W σ l [b] ⟨d, .mapUpdate t x y z, ty, pos, aft, g⟩ fun u τ' => u = .v undef ∧ τ' = τ := fun ac w hs => by
  subst hm
  have h1 : MapOf w b K V Good m := hs.mem.hold _ hu.mem
  obtain ⟨w', hr, h2, h3⟩ := h1.put_run kf ht ha v
  have h4 := hs.mem.upd hu (h3.mono (by simp [It.mids, mapPc])) (by simp [It.mids, mapPc]) (fun k hk => .inl hk) rfl (fun _ => h2)
  refine ⟨_, w', _, _, ⟨rfl, rfl⟩, h3, rfl, h4.1, h4.2, .inr ⟨rfl, ?_⟩⟩
  simp only [execOp, hs.plain hx, hA.1 _ _ _ (hs.eval hy), hB.1 _ _ _ (hs.eval hz), Sem.run_bind, hr, Result.andThen_ok, Sem.run_pure]
omit [DecidableEq α] in
/-- 'map[K]V{}', 'make(map[K]V)'. -/
theorem Eff.makeMap {o : Op} (K : α → Value) (V : β → Value) (Good : α → Prop) (hrun : ∀ (ac : Act) (w : World), (execOp ac.eval ⟨d, o, ty, pos, aft, g⟩).run P w = .ok (.value (.map (some w.heap.size))) (w.alloc (.map #[] 0))) :
    Eff P n W σ l [] ⟨d, o, ty, pos, aft, g⟩ fun u τ' => ∃ b, u = mapV b ∧ τ' = .pc (mapPc b K V Good []) :: σ := fun ac w hs => by
  have hx : Ext [] w (w.alloc (.map #[] 0)) := (Ext.refl w).alloc _
  have h4 := hs.mem.new (y := .pc (mapPc w.heap.size K V Good [])) hx (by simp [It.mids, mapPc]) (by simp [It.mids, mapPc]) rfl (fun _ => MapOf.new w)
  exact ⟨_, _, _, _, ⟨w.heap.size, rfl, rfl⟩, hx, rfl, h4.1, h4.2, .inl (hrun ac w)⟩
end
end Go.Proofs.Ytgfndlibbfamfaa.A
/-
  Digests by keys; a table.
-/
set_option maxRecDepth 100000
set_option linter.unusedSimpArgs false
set_option linter.unusedVariables false
namespace Go.Proofs.Ytgfndlibbfamfaa.A
open Go.RowKit

def pairV (p : Nat × Nat) : Value := .agg #[.int .u16 (p.1 : Nat), .int .u16 (p.2 : Nat)]
def pairOk (p : Nat × Nat) : Prop := p.1 < 65536 ∧ p.2 < 65536
def tagV (d : List UInt8) : Value := .agg (d.map bc).toArray
section
variable {l : List UInt8} {k : Int} {t : Nat}
theorem kwrap (k : Int) : Abs.v (Value.int .u8 (IntKind.u8.wrap k)) = .v (bc (UInt8.ofNat (k8 k))) := by
  refine congrArg Abs.v ?_
  simp [IntKind.wrap, IntKind.bits, IntKind.signed, k8, bc]
  omega
theorem kclone_s (hl : l.length ≤ 1000000) : Spec Try.prog 13 [byt l] [] (fun _ : Unit => []) (fun _ => byt l) := by
  refine spec_of Try.func13 rfl Try.ntmps13 rfl fun G w => ?_
  refine SC.seq (SC.region ?_)
  refine SL.val (Val.assign rfl) rfl rfl ?_
  refine SL.nil (SE.seq ?_)
  refine SC.seq ?_
  refine SC.seq (SC.region ?_)
  refine SL.val (Val.move rfl) rfl rfl ?_
  refine SL.eqNil Try.underlying22 rfl rfl rfl ?_
  intro b hb
  refine SL.nil (SE.seq ?_)
  refine SC.cond rfl ?_ ?_
  · intro hc4
    have hnil : l = [] := List.map_eq_nil_iff.1 (hb hc4)
    refine SC.seq (SC.region ?_)
    refine SL.val (Val.assign rfl) rfl rfl ?_
    refine SL.nil (SE.seq ?_)
    refine SC.ret ?_
    refine SE.then_ (by intro h; cases h) ?_
    subst hnil
    refine SE.finC (rs := [.tmp 2]) rfl (RV.tmp rfl RV.nil) (Casts.nils (s := 1) Casts.refl) () (by repeat first|exact s0 _|exact s1 _|apply s2|apply s3) (by simp [It.rids]) rfl
  intro hc4
  refine SC.skip ?_
  refine SE.seq ?_
  refine SC.seq (SC.region ?_)
  refine SL.eff (Eff.buildOwn tabOk Try.underlying22 rfl rfl rfl rfl rfl rfl rfl) rfl rfl ?_
  rintro _ _ ⟨r5, rfl, rfl⟩
  refine SL.val (Val.move rfl) rfl rfl ?_
  refine SL.eff (Eff.appendE (zs := bs l) tabOk [] (rfl) Try.underlying22 rfl rfl rfl rfl rfl rfl (bs_ones _) (by unfold maxLen; simp only [bs, List.length_map, List.length_cons, List.length_nil]; omega) (by rw [show Try.prog.bytesOf 5 = 1 by kernel_rfl]; simp only [List.length_map, List.length_cons, List.length_nil]; omega)) rfl rfl ?_
  rintro _ _ ⟨r7, rfl, rfl⟩
  refine SL.val (Val.assign rfl) rfl rfl ?_
  refine SL.nil (SE.seq ?_)
  refine SC.ret ?_
  refine SE.freeze [] (t := 2) rfl rfl ?_
  refine SE.fin (rs := [.tmp 2]) rfl (RV.tmp rfl RV.nil) (()) (by repeat first|exact s0 _|exact s1 _|apply s2|apply s3) (by simp [It.rids]) ?_
  exact rfl
theorem knew_s (hl : l.length ≤ 1000000) : Spec Try.prog 5 [byt l] [] (fun z : Nat × Nat => [.blk z.1 44 [byt l, mapV z.2], .pc (mapPc z.2 pairV tagV pairOk [])]) (fun z => ptr z.1) := by
  refine spec_of Try.func5 rfl Try.ntmps5 rfl fun G w => ?_
  refine SC.seq (SC.region ?_)
  refine SL.val (Val.assign rfl) rfl rfl ?_
  refine SL.nil (SE.seq ?_)
  refine SC.seq (SC.region ?_)
  refine SL.val (Val.move rfl) rfl rfl ?_
  refine SL.call (kclone_s hl) Casts.refl (by kernel_rfl) rfl rfl rfl ?_
  refine After.pure (by repeat first|exact .nil|refine .blk (by repeat first|assumption|exact m0|apply m1) ?_|refine .rd (by repeat first|assumption|exact m0|apply m1) ?_|refine .pc (by repeat first|assumption|exact m0|apply m1) ?_|refine .rdpc (by repeat first|assumption|exact m0|apply m1) ?_) (fun _ => rfl) ?_
  intro _
  refine SL.eff (Eff.makeMap pairV tagV pairOk (fun ac w => by simp [execOp, Instr.makeMap, newObj, Sem.run, Sem.run_bind, Result.andThen])) rfl rfl ?_
  rintro _ _ ⟨m5, rfl, rfl⟩
  refine SL.val (Val.buildS tabOk rfl rfl rfl rfl) rfl rfl ?_
  refine SL.eff (Eff.boxA rfl) rfl rfl ?_
  rintro _ _ ⟨b7, rfl, rfl⟩
  refine SL.val (Val.assign rfl) rfl rfl ?_
  refine SL.nil (SE.seq ?_)
  refine SC.ret ?_
  refine SE.fin (rs := [.tmp 2]) rfl (RV.tmp rfl RV.nil) (b7, m5) (by repeat first|exact s0 _|exact s1 _|apply s2|apply s3) (by simp [It.rids]) ?_
  exact rfl
theorem kdig_len (k : Nat) (l : List UInt8) : (digA (kdigest k l)).length = 32 := by
  simp only [digA, List.length_map]
  exact Sm.sum_length _
theorem kdig_len' (k : Nat) (l : List UInt8) : (kdigest k l).length = 32 := Sm.sum_length _
end
end Go.Proofs.Ytgfndlibbfamfaa.A
/-
  The document's keys.
-/
set_option maxRecDepth 100000
set_option linter.unusedSimpArgs false
set_option linter.unusedVariables false
namespace Go.Proofs.Ytgfndlibbfamfaa.A
open Go.RowKit

section
variable {l k : List UInt8} {a b c : Int}
theorem pair_lt (a b : Int) : (pairOf a b).1 < 65536 ∧ (pairOf a b).2 < 65536 := by
  have h1 := w16_lt a
  have h2 := w16_lt b
  unfold pairOf
  split
  · exact ⟨h2, h1⟩
  · exact ⟨h1, h2⟩
end
end Go.Proofs.Ytgfndlibbfamfaa.A
/-
  The program's tags.
-/
set_option maxRecDepth 100000
set_option linter.unusedSimpArgs false
set_option linter.unusedVariables false
namespace Go.Proofs.Ytgfndlibbfamfaa.A
open Go.RowKit

theorem After.at2 {ι : Type} {a b x1 x2 : It} {β : Blks} {τ' : ι → Blks} {y1 y2 : ι → It} {K : Blks → ι → Prop} (hr : x1.rids = [] ∧ x2.rids = []) (hτ : ∀ z, τ' z = [y1 z, y2 z]) (k : ∀ z, K (a :: b :: y1 z :: y2 z :: β) z) : After (a :: b :: x1 :: x2 :: β) [x1, x2] τ' K :=
  After.mid [a, b] (β := β) rfl (by intro x hx; simp only [List.mem_cons, List.not_mem_nil, or_false] at hx; rcases hx with rfl | rfl; exact hr.1; exact hr.2) fun z => by rw [hτ z]; exact k z
theorem After.at20 {ι : Type} {a b x1 x2 : It} {β : Blks} {τ' : ι → Blks} {K : Blks → ι → Prop} (hr : x1.rids = [] ∧ x2.rids = []) (hτ : ∀ z, τ' z = []) (k : ∀ z, K (a :: b :: β) z) : After (a :: b :: x1 :: x2 :: β) [x1, x2] τ' K :=
  After.mid [a, b] (β := β) rfl (by intro x hx; simp only [List.mem_cons, List.not_mem_nil, or_false] at hx; rcases hx with rfl | rfl; exact hr.1; exact hr.2) fun z => by rw [hτ z]; exact k z
/-- The first so many of one list, the rest of another one. -/
def mixL (a b : List UInt8) (z : Nat) : List UInt8 := a.take z ++ b.drop z
theorem mixL_length {a b : List UInt8} (h : a.length = b.length) (z : Nat) : (mixL a b z).length = b.length := by
  unfold mixL
  rw [List.length_append, List.length_take, List.length_drop]
  omega
theorem mixL_get {a b : List UInt8} (h : a.length = b.length) {z : Nat} (hz : z < b.length) : (mixL a b z).getD z 0 = b.getD z 0 := by
  unfold mixL
  rw [List.getD_eq_getElem?_getD, List.getElem?_append_right (by rw [List.length_take]; omega), List.length_take, Nat.min_eq_left (by omega), Nat.sub_self, List.getElem?_drop, List.getD_eq_getElem?_getD]
  rfl
theorem mixL_set {a b : List UInt8} (h : a.length = b.length) {z : Nat} (hz : z < b.length) : (mixL a b z).set z (a.getD z 0) = mixL a b (z + 1) := by
  apply List.ext_getElem?
  intro j
  simp only [mixL, List.getElem?_set, List.length_append, List.length_take, List.length_drop, List.getElem?_append, List.getElem?_drop, List.getElem?_take]
  by_cases hj : z = j
  · subst hj
    have h1 : z < a.length := by omega
    rw [if_pos rfl, if_pos (by omega), if_pos (by omega), if_pos (by omega)]
    simp [List.getD, h1]
  · grind
theorem digA_at {d : List UInt8} {q : Nat} (h : q < d.length) : (digA d)[0 + q * 1]? = some (.v (bc (d.getD q 0))) := by
  rw [Nat.zero_add, Nat.mul_one]
  exact dig_get h
theorem digA_length (d : List UInt8) : (digA d).length = d.length := by simp only [digA, List.length_map]
theorem padN_length {k : List UInt8} (h : k.length ≤ 64) : (padN k).length = 64 := by
  unfold padN
  rw [List.length_append, List.length_replicate]
  omega
theorem bs_flat (l : List UInt8) : (bs l).flatten = digA l := by
  induction l with
  | nil => rfl
  | cons c l ih =>
    show [Abs.v (bc c)] ++ (bs l).flatten = _
    rw [ih]
    rfl
theorem pad_copy {k : List UInt8} (h : k.length ≤ 64) : putL (digA (List.replicate 64 0)) 0 ((bs k).take 64).flatten = digA (padN k) := by
  rw [List.take_of_length_le (by simpa using h), bs_flat]
  have e : List.replicate 64 (0 : UInt8) = List.replicate k.length 0 ++ List.replicate (64 - k.length) 0 := by
    rw [List.replicate_append_replicate]
    congr 1
    omega
  have e2 : ∀ a b : List UInt8, digA (a ++ b) = digA a ++ digA b := fun a b => List.map_append
  unfold putL padN
  rw [e, e2, e2]

  rw [List.drop_left' (by rw [digA_length, digA_length, List.length_replicate])]
theorem dig_cells (d : List UInt8) : (digA d).map (fun a => [a]) = bs d := by
  simp [digA]
theorem mixL_all {a b : List UInt8} (h : a.length = b.length) {z : Nat} (hz : b.length ≤ z) : mixL a b z = a := by
  unfold mixL
  rw [List.take_of_length_le (by omega), List.drop_eq_nil_of_le hz, List.append_nil]
theorem pad_getx (k : List UInt8) (x : UInt8) {z : Nat} (hz : z < 64) : (padK k x).getD z 0 = (padN (keyN k)).getD z 0 ^^^ x := by
  have hl := padN_length (keyN_le k)
  show ((padN (keyN k)).map (· ^^^ x)).getD z 0 = _
  rw [List.getD_eq_getElem?_getD, List.getElem?_map, List.getD_eq_getElem?_getD, List.getElem?_eq_getElem (by omega)]
  rfl
section
variable {l k t a b : List UInt8} {x : UInt8} {h : Nat} {v : Value}
theorem sadd1_s (ht : t.length ≤ 1000000000) (hl : l.length ≤ 1000000000) : Spec Try.prog 19 [ptr h, byt l] (hashP 78 5 h v (Sm.of t)) (fun v' : Value => hashP 78 5 h v' (Sm.of (t ++ l))) (fun _ => .tup []) := by
  have h1 := sadd_s (h := h) (v := v) (s := Sm.of t) (l := l) (by show (t.drop _).length < 64; rw [List.length_drop]; omega) hl (by show t.length ≤ _; omega)
  rw [Sm.of_add] at h1
  exact h1
theorem ssum1_s (ht : t.length ≤ 1000000000) : Spec Try.prog 20 [ptr h] (hashP 78 5 h v (Sm.of t)) (fun _ : Unit => []) (fun _ => .agg (digA (sha t))) := by
  have h1 := ssum_s (h := h) (v := v) (s := Sm.of t) (by show (t.drop _).length < 64; rw [List.length_drop]; omega) (by show t.length ≤ _; omega)
  rw [Sm.of_sum] at h1
  exact h1
set_option maxHeartbeats 1000000 in
theorem sums_s (hl : l.length ≤ 1000000000) : Spec Try.prog 24 [byt l] [] (fun _ : Unit => []) (fun _ => .agg (digA (sha l))) := by
  refine spec_of Try.func24 rfl Try.ntmps24 rfl fun G w => ?_
  refine SC.seq (SC.region ?_)
  refine SL.eff (Eff.alloc tabOk rfl) rfl rfl ?_
  rintro _ _ ⟨b2, rfl, rfl⟩
  refine SL.nil (SE.seq ?_)
  refine SC.seq (SC.region ?_)
  refine SL.call (snew_s) Casts.refl (by kernel_rfl) rfl rfl rfl ?_
  refine After.make2 (by repeat first|exact .nil|refine .blk (by repeat first|assumption|exact m0|apply m1) ?_|refine .rd (by repeat first|assumption|exact m0|apply m1) ?_|refine .pc (by repeat first|assumption|exact m0|apply m1) ?_|refine .rdpc (by repeat first|assumption|exact m0|apply m1) ?_) (fun _ => rfl) ?_
  intro z8
  refine SL.val (Val.assign rfl) rfl rfl ?_
  refine SL.nil (SE.seq ?_)
  refine SC.seq (SC.region ?_)
  refine SL.val (Val.move rfl) rfl rfl ?_
  refine SL.val (Val.move rfl) rfl rfl ?_
  refine SL.call (sadd1_s (h := z8) (v := .slice none 0 0) (t := []) (l := l) (by simp) hl) Casts.refl (by kernel_rfl) rfl rfl rfl ?_
  refine After.two ⟨rfl, rfl⟩ (fun _ => rfl) ?_
  intro v1
  refine SL.nil (SE.seq ?_)
  refine SC.seq (SC.region ?_)
  refine SL.val (Val.move rfl) rfl rfl ?_
  refine SL.call (ssum1_s (h := z8) (v := v1) (t := [] ++ l) hl) Casts.refl (by kernel_rfl) rfl rfl rfl ?_
  refine After.two0 ⟨rfl, rfl⟩ (fun _ => rfl) ?_
  intro _
  refine SL.eff (Eff.store (L' := digA (sha l)) tabOk rfl rfl rfl (by repeat first|assumption|exact Upd.here|apply Upd.there) (dig_out _ (by omega)) (Nat.le_of_ble_eq_true (by rfl)) (by exact ones_dig _) (putL_whole (by exact (dig_out _ (by omega))))) rfl rfl ?_
  rintro _ _ ⟨rfl, rfl⟩
  refine SL.nil (SE.seq ?_)
  refine SC.ret ?_
  refine SE.fin (rs := [.cell 2 64]) rfl (RV.cell rfl (RV.cellA tabOk rfl rfl (by first|(apply Or.inl;(repeat first|assumption|exact m0|apply m1);done)|(apply Or.inr;(repeat first|assumption|exact m0|apply m1);done)) (dig_out _ (by omega))) RV.nil) (()) (by repeat first|exact s0 _|exact s1 _|apply s2|apply s3) (by simp [It.rids]) ?_
  exact rfl
set_option maxHeartbeats 2000000 in
theorem pad_s (hk : k.length ≤ 1000000) : Spec Try.prog 18 [byt k, .v (bc x)] [] (fun z : Nat × Value => hashP 78 5 z.1 z.2 (Sm.of (padK k x))) (fun z => ptr z.1) := by
  have hpn := padN_length (keyN_le k)
  have hpk := padK_length k x
  have hpp : (padK k x).length = (padN (keyN k)).length := by rw [hpn, hpk]
  refine spec_of Try.func18 rfl Try.ntmps18 rfl fun G w => ?_
  refine SC.seq (SC.region ?_)
  refine SL.val (Val.assign rfl) rfl rfl ?_
  refine SL.nil (SE.seq ?_)
  refine SC.seq (SC.region ?_)
  refine SL.eff (Eff.alloc tabOk rfl) rfl rfl ?_
  rintro _ _ ⟨b5, rfl, rfl⟩
  refine SL.nil (SE.seq ?_)
  refine SC.cutS (ι := Unit) (fun z => [.blk b5 71 (digA (List.replicate 64 0))]) (fun z => [(0, byt (keyN k)), (1, .v (bc x)), (5, ptr b5)]) (fun z => True) ?_ ?_
  · skip
    refine SC.seq (SC.region ?_)
    refine SL.val (Val.move rfl) rfl rfl ?_
    first
      | refine SL.val (Val.lenSl rfl Try.underlying22 (List.length_map _)) rfl rfl ?_
      | refine SL.val (Val.lenOwn rfl (by repeat first|assumption|exact m0|apply m1) Try.underlying22 (List.length_map _)) rfl rfl ?_
      | refine SL.val (Val.lenNil rfl Try.underlying22) rfl rfl ?_
    refine SL.val (Val.gtI rfl rfl) rfl rfl ?_
    refine SL.nil (SE.seq ?_)
    refine SC.condP rfl ?_ ?_
    rotate_left
    · intro hc11
      refine SC.skip ?_
      refine SE.meet () trivial ⟨congrArg (fun q => some (byt q)) (if_neg (show ¬ 64 < k.length by omega)).symm, rfl, rfl, trivial⟩ (by repeat first|exact s0 _|exact s1 _|apply s2|apply s3)
    intro hc11
    refine SC.seq (SC.region ?_)
    refine SL.val (Val.move rfl) rfl rfl ?_
    refine SL.call (sums_s (l := k) (by omega)) Casts.refl (by kernel_rfl) rfl rfl rfl ?_
    refine After.pure (by repeat first|exact .nil|refine .blk (by repeat first|assumption|exact m0|apply m1) ?_|refine .rd (by repeat first|assumption|exact m0|apply m1) ?_|refine .pc (by repeat first|assumption|exact m0|apply m1) ?_|refine .rdpc (by repeat first|assumption|exact m0|apply m1) ?_) (fun _ => rfl) ?_
    intro _
    refine SL.eff (Eff.alloc tabOk rfl) rfl rfl ?_
    rintro _ _ ⟨b6, rfl, rfl⟩
    refine SL.eff (Eff.store (L' := digA (sha k)) tabOk rfl rfl rfl (by repeat first|assumption|exact Upd.here|apply Upd.there) (dig_out _ (by omega)) (Nat.le_of_ble_eq_true (by rfl)) (by exact ones_dig _) (putL_whole (by exact (dig_out _ (by omega))))) rfl rfl ?_
    rintro _ _ ⟨rfl, rfl⟩
    refine SL.nil (SE.seq ?_)
    refine SC.freezeB [] 6 rfl rfl ?_
    refine SC.region ?_
    refine SL.val (Val.to (C := byt (sha k)) (Val.sliceArrR tabOk Try.underlying64 rfl rfl rfl rfl rfl (by rw [digA_length, sha_length]; exact Nat.le_refl 32)) (congrArg (Abs.sl 1) (by rw [List.take_of_length_le (by rw [digA_length, sha_length]; exact Nat.le_refl 32)]; exact dig_cells _))) rfl rfl ?_
    refine SL.val (Val.to (C := byt (keyN k)) (Val.assign rfl) (congrArg byt (if_pos (by omega)).symm)) rfl rfl ?_
    refine SL.nil ?_
    refine SE.meet (()) (trivial) (by exact ⟨rfl, rfl, rfl, trivial⟩) (by repeat first|exact s0 _|exact s1 _|apply s2|apply s3)
  · intro z0 hz0
    have hkn := keyN_le k
    refine SC.seq (SC.region ?_)
    refine SL.val (Val.sliceArr tabOk Try.underlying71 rfl rfl) rfl rfl ?_
    refine SL.val (Val.move rfl) rfl rfl ?_
    refine SL.eff (Eff.copy (L' := digA (padN (keyN k))) Try.underlying22 (by kernel_rfl) rfl rfl (by repeat first|assumption|exact Upd.here|apply Upd.there) (by have : min (bs (keyN k)).length 64 ≤ 64 := Nat.min_le_right _ _; show 0 + min (bs (keyN k)).length 64 ≤ 64; omega) (bs_ones _) (pad_copy (keyN_le k))) rfl rfl ?_
    rintro _ _ ⟨rfl, rfl⟩
    refine SL.nil (SE.seq ?_)
    refine SC.seq ?_
    refine SC.seq (SC.region ?_)
    refine SL.val (Val.move rfl) rfl rfl ?_
    refine SL.nil (SE.seq ?_)
    refine SC.block ?_
    refine SC.loop (ι := Nat) (fun z => [.blk b5 71 (digA (mixL (padK k x) (padN (keyN k)) z))]) (fun z => [(1, .v (bc x)), (5, ptr b5), (18, int (z : Nat))]) (fun z => z ≤ 64) (fun z => 64 - z) (0) (by decide) (by exact ⟨rfl, rfl, rfl, trivial⟩) (by repeat first|exact s0 _|exact s1 _|apply s2|apply s3) ?_
    intro z hz
    refine SC.seq (SC.region ?_)
    refine SL.val (Val.ltI rfl rfl) rfl rfl ?_
    refine SL.nil (SE.seq ?_)
    refine SC.seq ?_
    refine SC.condP rfl ?_ ?_
    · intro hc19
      refine SC.skip ?_
      refine SE.seq ?_
      refine SC.seq ?_
      refine SC.block ?_
      refine SC.seq (SC.region ?_)
      refine SL.val (Val.move rfl) rfl rfl ?_
      refine SL.val (Val.assign rfl) rfl rfl ?_
      refine SL.nil (SE.seq ?_)
      refine SC.region ?_
      refine SL.val (Val.move rfl) rfl rfl ?_
      refine SL.val (Val.indexArP (q := z) tabOk Try.underlying71 rfl rfl rfl (by first | rfl | omega) (by omega) rfl) rfl rfl ?_
      refine SL.val (Val.to (C := .v (bc ((padN (keyN k)).getD z 0))) (Val.load1 tabOk rfl rfl (by first|(apply Or.inl;(repeat first|assumption|exact m0|apply m1);done)|(apply Or.inr;(repeat first|assumption|exact m0|apply m1);done)) List.not_mem_nil (digA_at (by rw [mixL_length hpp]; omega))) (congrArg (fun q => Abs.v (bc q)) (mixL_get hpp (by omega)))) rfl rfl ?_
      refine SL.val (Val.move rfl) rfl rfl ?_
      refine SL.val (Val.xor8 rfl rfl) rfl rfl ?_
      refine SL.val (Val.indexArP (q := z) tabOk Try.underlying71 rfl rfl rfl (by first | rfl | omega) (by omega) rfl) rfl rfl ?_
      refine SL.eff (Eff.store (L' := digA (mixL (padK k x) (padN (keyN k)) (z + 1))) tabOk rfl rfl rfl (by repeat first|assumption|exact Upd.here|apply Upd.there) (by rfl) (by rw [digA_length, mixL_length hpp]; show 0 + z * 1 + 1 ≤ _; omega) (by rfl) (digA_put (by rw [mixL_length hpp]; omega) (by rw [show (padN (keyN k)).getD z 0 ^^^ x = (padK k x).getD z 0 from (pad_getx k x (by omega)).symm]; exact mixL_set hpp (by omega)))) rfl rfl ?_
      rintro _ _ ⟨rfl, rfl⟩
      refine SL.nil ?_
      refine SE.inBlock ?_
      refine SE.seq ?_
      refine SC.region ?_
      first
        | refine SL.val (Val.addI rfl rfl (by simp only [InR, lo, hi]; omega)) rfl rfl ?_
        | refine SL.val (Val.addW rfl rfl) rfl rfl ?_
      refine SL.val (Val.move rfl) rfl rfl ?_
      refine SL.nil ?_
      refine SE.round (z + 1) (by first | omega | (dsimp only; omega)) (by first | omega | (dsimp only; omega)) (by exact ⟨rfl, rfl, rfl, trivial⟩) (by repeat first|exact s0 _|exact s1 _|apply s2|apply s3)
    intro hc19
    refine SC.exit ?_
    refine SE.then_ (by intro h; cases h) ?_
    refine SE.then_ (by intro h; cases h) ?_
    refine SE.exit ?_
    refine SE.seq ?_
    refine SC.seq (SC.region ?_)
    refine SL.call (snew_s) Casts.refl (by kernel_rfl) rfl rfl rfl ?_
    refine After.make2 (by repeat first|exact .nil|refine .blk (by repeat first|assumption|exact m0|apply m1) ?_|refine .rd (by repeat first|assumption|exact m0|apply m1) ?_|refine .pc (by repeat first|assumption|exact m0|apply m1) ?_|refine .rdpc (by repeat first|assumption|exact m0|apply m1) ?_) (fun _ => rfl) ?_
    intro z8
    refine SL.val (Val.assign rfl) rfl rfl ?_
    refine SL.nil (SE.seq ?_)
    refine SC.seq ?_
    refine SC.freezeB [_, _] 5 rfl rfl ?_
    refine SC.region ?_
    refine SL.val (Val.move rfl) rfl rfl ?_
    refine SL.val (Val.to (C := byt (padK k x)) (Val.sliceArrR tabOk Try.underlying71 rfl rfl rfl rfl rfl (by rw [digA_length, mixL_length hpp]; omega)) (congrArg (Abs.sl 1) (by rw [List.take_of_length_le (by rw [digA_length, mixL_length hpp]; omega), dig_cells, mixL_all hpp (by omega)]))) rfl rfl ?_
    refine SL.call (sadd1_s (h := z8) (v := .slice none 0 0) (t := []) (l := (padK k x)) (by simp) (by omega)) Casts.refl (by kernel_rfl) rfl rfl rfl ?_
    refine After.two ⟨rfl, rfl⟩ (fun _ => rfl) ?_
    intro v1
    refine SL.nil (SE.seq ?_)
    refine SC.seq (SC.region ?_)
    refine SL.val (Val.move rfl) rfl rfl ?_
    refine SL.val (Val.assign rfl) rfl rfl ?_
    refine SL.nil (SE.seq ?_)
    refine SC.ret ?_
    refine SE.fin (rs := [.tmp 4]) rfl (RV.tmp rfl RV.nil) (z8, v1) (by repeat first|exact s0 _|exact s1 _|apply s2|apply s3) (by simp [It.rids, hashP]) ?_
    exact rfl
end
end Go.Proofs.Ytgfndlibbfamfaa.A
