/-
  Packed out of the texts: T2, Mac, T3, T4, S1.
-/
import Derived.Test.YtpgffckfbgfgcaaE06
/-
  The document's sum: turning, a block.
-/
set_option maxRecDepth 100000
set_option linter.unusedSimpArgs false
set_option linter.unusedVariables false
namespace Go.Proofs.Ytpgffckfbgfgcaa.A
open Go.RowKit

section
variable {l b : List UInt8} {r : R8}
theorem dturn_s {x : Wo} {m : Int} (n : Nat) (hm : m = (n : Nat)) (h : n < 32) : Spec Try.prog 251 [u32 x, int m] [] (fun _ : Unit => []) (fun _ => u32 (rot x n)) := by
  subst hm
  refine spec_of Try.func251 rfl Try.ntmps251 rfl fun G w => ?_
  refine SC.seq (SC.region ?_)
  refine SL.val (Val.assign rfl) rfl rfl ?_
  refine SL.nil (SE.seq ?_)
  refine SC.seq (SC.region ?_)
  refine SL.val (Val.move rfl) rfl rfl ?_
  first
    | refine SL.val (Val.remI rfl rfl (by omega)) rfl rfl ?_
    | refine SL.val (Val.remT rfl rfl (by omega)) rfl rfl ?_
  first
    | refine SL.val (Val.addI rfl rfl (by simp only [InR, lo, hi]; omega)) rfl rfl ?_
    | refine SL.val (Val.addW rfl rfl) rfl rfl ?_
  refine SL.val (Val.to (C := int (n : Nat)) (Val.remI rfl rfl (by omega)) (congrArg int (by omega))) rfl rfl ?_
  refine SL.val (Val.assign rfl) rfl rfl ?_
  refine SL.nil (SE.seq ?_)
  refine SC.seq ?_
  refine SC.seq (SC.region ?_)
  refine SL.val (Val.assign rfl) rfl rfl ?_
  refine SL.nil (SE.seq ?_)
  refine SC.block ?_
  refine SC.loop (ι := Nat) (fun z => []) (fun z => [(0, u32 (rot x z)), (1, int (n : Nat)), (5, int (z : Nat))]) (fun z => z ≤ n) (fun z => n - z) (0) (Nat.zero_le _) ⟨congrArg (fun q => some (u32 q)) (rot_zero x).symm, rfl, rfl, trivial⟩ (by repeat first|exact s0 _|exact s1 _|apply s2|apply s3) ?_
  intro z hz
  refine SC.seq ?_
  refine SC.seq (SC.region ?_)
  refine SL.val (Val.move rfl) rfl rfl ?_
  refine SL.val (Val.move rfl) rfl rfl ?_
  refine SL.val (Val.ltI rfl rfl) rfl rfl ?_
  refine SL.nil (SE.seq ?_)
  refine SC.condP rfl ?_ ?_
  rotate_left
  · intro hc12
    refine SC.exit ?_
    refine SE.then_ (by intro h; cases h) ?_
    refine SE.then_ (by intro h; cases h) ?_
    refine SE.exit ?_
    refine SE.seq ?_
    refine SC.seq ?_
    obtain rfl : z = n := by omega
    refine SC.region ?_
    refine SL.val (Val.move rfl) rfl rfl ?_
    refine SL.val (Val.assign rfl) rfl rfl ?_
    refine SL.nil (SE.seq ?_)
    refine SC.ret ?_
    refine SE.fin (rs := [.tmp 4]) rfl (RV.tmp rfl RV.nil) (()) (by repeat first|exact s0 _|exact s1 _|apply s2|apply s3) (by simp [It.rids]) ?_
    exact rfl
  intro hc12
  refine SC.skip ?_
  refine SE.seq ?_
  refine SC.seq ?_
  refine SC.block ?_
  have hx := (rot x z).isLt
  refine SC.region ?_
  refine SL.val (Val.move rfl) rfl rfl ?_
  refine SL.val (Val.quoI rfl rfl (by omega) (by simp only [InR, lo, hi]; omega)) rfl rfl ?_
  refine SL.val (Val.move rfl) rfl rfl ?_
  first
    | refine SL.val (Val.remI rfl rfl (by omega)) rfl rfl ?_
    | refine SL.val (Val.remT rfl rfl (by omega)) rfl rfl ?_
  first
    | refine SL.val (Val.mulI rfl rfl (by simp only [InR, lo, hi]; omega)) rfl rfl ?_
    | refine SL.val (Val.mulW rfl rfl) rfl rfl ?_
  refine SL.val (Val.to (C := u32 (rot x (z + 1))) (Val.addI rfl rfl (by simp only [InR, lo, hi]; omega)) (congrArg (fun q => Abs.v (.int .u32 q)) (rot_step x (by omega)))) rfl rfl ?_
  refine SL.val (Val.assign rfl) rfl rfl ?_
  refine SL.nil ?_
  refine SE.inBlock ?_
  refine SE.seq ?_
  refine SC.region ?_
  refine SL.val (Val.move rfl) rfl rfl ?_
  first
    | refine SL.val (Val.addI rfl rfl (by simp only [InR, lo, hi]; omega)) rfl rfl ?_
    | refine SL.val (Val.addW rfl rfl) rfl rfl ?_
  refine SL.val (Val.assign rfl) rfl rfl ?_
  refine SL.nil ?_
  refine SE.round (z + 1) (by first | omega | (dsimp only; omega)) (by first | omega | (dsimp only; omega)) (by exact ⟨rfl, rfl, rfl, trivial⟩) (by repeat first|exact s0 _|exact s1 _|apply s2|apply s3)
theorem three_s {x : Wo} {a' b' c' : Int} (a b c : Nat) (ha : a' = (a : Nat)) (hb : b' = (b : Nat)) (hc : c' = (c : Nat)) (h1 : a < 32) (h2 : b < 32) (h3 : c < 32) : Spec Try.prog 252 [u32 x, int a', int b', int c'] [] (fun _ : Unit => []) (fun _ => u32 (mixW x a b c)) := by
  refine spec_of Try.func252 rfl Try.ntmps252 rfl fun G w => ?_
  refine SC.seq (SC.region ?_)
  refine SL.val (Val.assign rfl) rfl rfl ?_
  refine SL.nil (SE.seq ?_)
  refine SC.seq (SC.region ?_)
  refine SL.val (Val.move rfl) rfl rfl ?_
  refine SL.val (Val.move rfl) rfl rfl ?_
  refine SL.call (dturn_s a ha h1) Casts.refl (by kernel_rfl) rfl rfl rfl ?_
  refine After.pure (by repeat first|exact .nil|refine .blk (by repeat first|assumption|exact m0|apply m1) ?_|refine .rd (by repeat first|assumption|exact m0|apply m1) ?_|refine .pc (by repeat first|assumption|exact m0|apply m1) ?_|refine .rdpc (by repeat first|assumption|exact m0|apply m1) ?_) (fun _ => rfl) ?_
  intro _
  refine SL.val (Val.move rfl) rfl rfl ?_
  refine SL.val (Val.move rfl) rfl rfl ?_
  refine SL.call (dturn_s b hb h2) Casts.refl (by kernel_rfl) rfl rfl rfl ?_
  refine After.pure (by repeat first|exact .nil|refine .blk (by repeat first|assumption|exact m0|apply m1) ?_|refine .rd (by repeat first|assumption|exact m0|apply m1) ?_|refine .pc (by repeat first|assumption|exact m0|apply m1) ?_|refine .rdpc (by repeat first|assumption|exact m0|apply m1) ?_) (fun _ => rfl) ?_
  intro _
  refine SL.val (Val.xorW rfl rfl) rfl rfl ?_
  refine SL.val (Val.move rfl) rfl rfl ?_
  refine SL.val (Val.move rfl) rfl rfl ?_
  refine SL.call (dturn_s c hc h3) Casts.refl (by kernel_rfl) rfl rfl rfl ?_
  refine After.pure (by repeat first|exact .nil|refine .blk (by repeat first|assumption|exact m0|apply m1) ?_|refine .rd (by repeat first|assumption|exact m0|apply m1) ?_|refine .pc (by repeat first|assumption|exact m0|apply m1) ?_|refine .rdpc (by repeat first|assumption|exact m0|apply m1) ?_) (fun _ => rfl) ?_
  intro _
  refine SL.val (Val.xorW rfl rfl) rfl rfl ?_
  refine SL.val (Val.assign rfl) rfl rfl ?_
  refine SL.nil (SE.seq ?_)
  refine SC.ret ?_
  refine SE.fin (rs := [.tmp 8]) rfl (RV.tmp rfl RV.nil) (()) (by repeat first|exact s0 _|exact s1 _|apply s2|apply s3) (by simp [It.rids]) ?_
  exact rfl
theorem four_num {b : List UInt8} (hb : b.length = 64) {z : Nat} (h : z < 16) : BitVec.ofNat 32 ((Rd.of ((b.drop (4 * z)).take 4)).num 4) = wordAt b z := by
  have hl : ((b.drop (4 * z)).take 4).length = 4 := by rw [List.length_take, List.length_drop]; omega
  rw [← word_four (by omega)]
  have e : (Rd.of ((b.drop (4 * z)).take 4)).out 4 = (b.drop (4 * z)).take 4 := by
    unfold Rd.out
    rw [if_neg (by intro h; exact h rfl), if_neg (by unfold Rd.bad; show ¬ ((4 : Int) < 0 ∨ (((b.drop (4 * z)).take 4).length : Int) < 4); omega)]
    exact List.take_of_length_le (Nat.le_of_eq hl)
  unfold Rd.num
  rw [e]
set_option maxHeartbeats 4000000 in
theorem dblock_s (hb : b.length = 64) : Spec Try.prog 212 [.sl 1 (ws r.l), .sl 1 (ws roundsL), byt b] [] (fun _ : Unit => []) (fun _ => .sl 1 (ws (blockW r b).l)) := by
  refine spec_of Try.func212 rfl Try.ntmps212 rfl fun G w => ?_
  refine SC.seq (SC.region ?_)
  refine SL.val (Val.assign rfl) rfl rfl ?_
  refine SL.nil (SE.seq ?_)
  refine SC.seq (SC.region ?_)
  refine SL.val (Val.assign rfl) rfl rfl ?_
  refine SL.nil (SE.seq ?_)
  refine SC.seq ?_
  refine SC.seq (SC.region ?_)
  refine SL.val (Val.assign rfl) rfl rfl ?_
  refine SL.nil (SE.seq ?_)
  refine SC.block ?_
  refine SC.own0 148 1 ?_
  refine SC.loop (ι := Nat × Value) (fun z => [own 148 1 z.2 (ws ((sched b).take z.1))]) (fun z => [(0, .sl 1 (ws r.l)), (1, .sl 1 (ws roundsL)), (2, byt b), (7, .v z.2), (8, int (z.1 : Nat))]) (fun z => z.1 ≤ 64) (fun z => 64 - z.1) (0, .slice none 0 0) (by decide) (by exact ⟨rfl, rfl, rfl, rfl, rfl, trivial⟩) (by repeat first|exact s0 _|exact s1 _|apply s2|apply s3) ?_
  intro z hz
  refine SC.seq ?_
  refine SC.seq (SC.region ?_)
  refine SL.val (Val.move rfl) rfl rfl ?_
  refine SL.val (Val.ltI rfl rfl) rfl rfl ?_
  refine SL.nil (SE.seq ?_)
  refine SC.condP rfl ?_ ?_
  · intro hc19
    refine SC.skip ?_
    refine SE.seq ?_
    refine SC.seq ?_
    refine SC.block ?_
    refine SC.seq ?_
    refine SC.seq (SC.region ?_)
    refine SL.val (Val.move rfl) rfl rfl ?_
    refine SL.val (Val.ltI rfl rfl) rfl rfl ?_
    refine SL.nil (SE.seq ?_)
    refine SC.condP rfl ?_ ?_
    · intro hc23
      have hlt : z.1 < 16 := by omega
      refine SC.seq (SC.region ?_)
      refine SL.val (Val.move rfl) rfl rfl ?_
      refine SL.val (Val.move rfl) rfl rfl ?_
      first
        | refine SL.val (Val.mulI rfl rfl (by simp only [InR, lo, hi]; omega)) rfl rfl ?_
        | refine SL.val (Val.mulW rfl rfl) rfl rfl ?_
      refine SL.val (Val.move rfl) rfl rfl ?_
      first
        | refine SL.val (Val.mulI rfl rfl (by simp only [InR, lo, hi]; omega)) rfl rfl ?_
        | refine SL.val (Val.mulW rfl rfl) rfl rfl ?_
      first
        | refine SL.val (Val.addI rfl rfl (by simp only [InR, lo, hi]; omega)) rfl rfl ?_
        | refine SL.val (Val.addW rfl rfl) rfl rfl ?_
      refine SL.val (Val.to (C := byt ((b.drop (4 * z.1)).take 4)) (Val.sliceMid (p := 4 * z.1) (q := 4 * z.1 + 4) tabOk Try.underlying34 rfl rfl rfl rfl rfl (by omega) (by omega) (by omega) (by rw [List.length_map]; omega)) (by rw [show 4 * z.1 + 4 - 4 * z.1 = 4 by omega]; exact congrArg (Abs.sl 1) (by rw [List.map_take, List.map_drop]))) rfl rfl ?_
      refine SL.val (Val.buildS tabOk rfl rfl rfl rfl) rfl rfl ?_
      refine SL.eff (Eff.boxA rfl) rfl rfl ?_
      rintro _ _ ⟨b32, rfl, rfl⟩
      refine SL.val (Val.assign rfl) rfl rfl ?_
      refine SL.nil (SE.seq ?_)
      refine SC.seq (SC.region ?_)
      refine SL.val (Val.move rfl) rfl rfl ?_
      refine SL.val (Val.move rfl) rfl rfl ?_
      refine SL.call (rnumber_s (p := b32) (s := Rd.of ((b.drop (4 * z.1)).take 4)) (n := 4) (by unfold lots; show ((b.drop (4 * z.1)).take 4).length ≤ _; rw [List.length_take]; omega) rfl) Casts.refl (by kernel_rfl) rfl rfl rfl ?_
      refine After.one rfl (by repeat first|assumption|exact m0|apply m1) (fun _ => rfl) ?_
      intro _
      refine ⟨_, (by repeat first|assumption|exact Upd.here|apply Upd.there), ?_⟩
      refine SL.val (Val.to (C := u32 (wordAt b z.1)) (Val.conv6432 rfl Try.underlying148 (by kernel_rfl) _ rfl) (congrArg u32 (four_num hb hlt))) rfl rfl ?_
      refine SL.eff (Eff.buildSl (xs := [[u32 (wordAt b z.1)]]) tabOk Try.underlying297 rfl rfl rfl rfl rfl rfl rfl) rfl rfl ?_
      rintro _ _ ⟨rfl, rfl⟩
      refine SL.eff (Eff.appendE (zs := ws ((sched b).take (z.1 + 1))) tabOk [_] (ws_take_snoc (by rw [sched_length]; omega) (sched_low b hlt)) Try.underlying297 rfl rfl rfl rfl rfl rfl (by intro c hc; rw [List.mem_singleton] at hc; subst hc; rfl) (by unfold maxLen; simp only [ws, List.length_map, List.length_cons, List.length_nil, List.length_take, sched_length, R8.l]; omega) (by rw [show Try.prog.bytesOf 148 = 4 by kernel_rfl]; simp only [ws, List.length_map, List.length_cons, List.length_nil, List.length_take, sched_length, R8.l]; omega)) rfl rfl ?_
      rintro _ _ ⟨r38, rfl, rfl⟩
      refine SL.val (Val.assign rfl) rfl rfl ?_
      refine SL.nil (SE.seq ?_)
      refine SC.exit ?_
      refine SE.then_ (by intro h; cases h) ?_
      refine SE.exit ?_
      refine SE.seq ?_
      refine SC.region ?_
      refine SL.val (Val.move rfl) rfl rfl ?_
      first
        | refine SL.val (Val.addI rfl rfl (by simp only [InR, lo, hi]; omega)) rfl rfl ?_
        | refine SL.val (Val.addW rfl rfl) rfl rfl ?_
      refine SL.val (Val.assign rfl) rfl rfl ?_
      refine SL.nil ?_
      refine SE.round (z.1 + 1, r38) (by first | omega | (dsimp only; omega)) (by first | omega | (dsimp only; omega)) (by exact ⟨rfl, rfl, rfl, rfl, rfl, trivial⟩) (by repeat first|exact s0 _|exact s1 _|apply s2|apply s3)
    intro hc23
    refine SC.skip ?_
    refine SE.seq ?_
    refine SC.seq ?_
    refine SC.draw [] (.q 0 (.q 1 (.q 2 (.q 3 (.q 4 (.q 5 (.q 6 (.q 7 (.q 8 (.q 9 (.q 10 (.q 11 .nil)))))))))))) (by kernel_rfl) (by kernel_rfl) ?_
    refine SX.val rfl (Val.move rfl) (by simp) rfl rfl ?_
    refine SX.val rfl (Val.move rfl) (by simp) rfl rfl ?_
    first
      | refine SX.val rfl (Val.subI rfl rfl (by simp only [InR, lo, hi]; omega)) (by simp) rfl rfl ?_
      | refine SX.val rfl (Val.subW rfl rfl) (by simp) rfl rfl ?_
    refine SX.val rfl (Val.indexOwn (q := z.1 - 16 + 1) tabOk Try.underlying297 rfl rfl (.inl (by repeat first|assumption|exact m0|apply m1)) rfl (by omega) (by rw [ws_length, List.length_take, sched_length]; omega) rfl rfl) (by first|(simp[mids,It.mids,ownPc];done)|(intro k hk;simp[mids,It.mids,ownPc] at hk ⊢;grind)) rfl rfl ?_
    refine SX.val rfl (Val.loadOwn1 (q := z.1 - 16 + 1) (s := 1) tabOk rfl rfl (.inl (by repeat first|assumption|exact m0|apply m1)) rfl (ws_take_at (by omega) (by rw [sched_length]; omega)) rfl) (by first|(simp[mids,It.mids,ownPc];done)|(intro k hk;simp[mids,It.mids,ownPc] at hk ⊢;grind)) rfl rfl ?_
    refine SX.val rfl (Val.move rfl) (by simp) rfl rfl ?_
    refine SX.val rfl (Val.move rfl) (by simp) rfl rfl ?_
    first
      | refine SX.val rfl (Val.subI rfl rfl (by simp only [InR, lo, hi]; omega)) (by simp) rfl rfl ?_
      | refine SX.val rfl (Val.subW rfl rfl) (by simp) rfl rfl ?_
    refine SX.val rfl (Val.indexOwn (q := z.1 - 16 + 14) tabOk Try.underlying297 rfl rfl (.inl (by repeat first|assumption|exact m0|apply m1)) rfl (by omega) (by rw [ws_length, List.length_take, sched_length]; omega) rfl rfl) (by first|(simp[mids,It.mids,ownPc];done)|(intro k hk;simp[mids,It.mids,ownPc] at hk ⊢;grind)) rfl rfl ?_
    refine SX.val rfl (Val.loadOwn1 (q := z.1 - 16 + 14) (s := 1) tabOk rfl rfl (.inl (by repeat first|assumption|exact m0|apply m1)) rfl (ws_take_at (by omega) (by rw [sched_length]; omega)) rfl) (by first|(simp[mids,It.mids,ownPc];done)|(intro k hk;simp[mids,It.mids,ownPc] at hk ⊢;grind)) rfl rfl ?_
    refine SX.val rfl (Val.assign rfl) (by simp) rfl rfl ?_
    refine SX.val rfl (Val.assign rfl) (by simp) rfl rfl ?_
    refine SX.nil (SE.seq ?_)
    refine SC.drawS 31 [] (.q 0 (.q 1 (.q 2 (.q 3 (.q 4 (.q 5 (.q 6 (.q 8 (.q 11 (.q 12 (.q 15 (.q 16 (.q 17 (.q 18 (.q 19 (.q 21 (.q 23 (.q 26 (.q 27 (.e 7 (.e 9 (.q 10 (.q 13 (.q 14 (.q 20 (.e 22 (.e 24 (.q 25 (.q 28 (.q 29 (.e 30 .nil))))))))))))))))))))))))))))))) (.e 31 (.q 32 .nil)) (by kernel_rfl) (by kernel_rfl) ?_
    refine SX.val rfl (Val.move rfl) (by simp) rfl rfl ?_
    refine SX.val rfl (Val.move rfl) (by simp) rfl rfl ?_
    refine SX.val rfl (Val.move rfl) (by simp) rfl rfl ?_
    first
      | refine SX.val rfl (Val.subI rfl rfl (by simp only [InR, lo, hi]; omega)) (by simp) rfl rfl ?_
      | refine SX.val rfl (Val.subW rfl rfl) (by simp) rfl rfl ?_
    refine SX.val rfl (Val.indexOwn (q := z.1 - 16 + 0) tabOk Try.underlying297 rfl rfl (.inl (by repeat first|assumption|exact m0|apply m1)) rfl (by omega) (by rw [ws_length, List.length_take, sched_length]; omega) rfl rfl) (by first|(simp[mids,It.mids,ownPc];done)|(intro k hk;simp[mids,It.mids,ownPc] at hk ⊢;grind)) rfl rfl ?_
    refine SX.val rfl (Val.loadOwn1 (q := z.1 - 16 + 0) (s := 1) tabOk rfl rfl (.inl (by repeat first|assumption|exact m0|apply m1)) rfl (ws_take_at (by omega) (by rw [sched_length]; omega)) rfl) (by first|(simp[mids,It.mids,ownPc];done)|(intro k hk;simp[mids,It.mids,ownPc] at hk ⊢;grind)) rfl rfl ?_
    refine SX.val rfl (Val.move rfl) (by simp) rfl rfl ?_
    refine SX.val rfl (Val.move rfl) (by simp) rfl rfl ?_
    refine SX.val rfl (Val.move rfl) (by simp) rfl rfl ?_
    refine SX.val rfl (Val.shrB (m := 3) rfl rfl (by first | rfl | omega)) (by first|(simp[mids,It.mids,ownPc];done)|(intro k hk;simp[mids,It.mids,ownPc] at hk ⊢;grind)) rfl rfl ?_
    refine SX.val rfl (Val.move rfl) (by simp) rfl rfl ?_
    refine SX.val rfl (Val.move rfl) (by simp) rfl rfl ?_
    first
      | refine SX.val rfl (Val.subI rfl rfl (by simp only [InR, lo, hi]; omega)) (by simp) rfl rfl ?_
      | refine SX.val rfl (Val.subW rfl rfl) (by simp) rfl rfl ?_
    refine SX.val rfl (Val.indexOwn (q := z.1 - 16 + 9) tabOk Try.underlying297 rfl rfl (.inl (by repeat first|assumption|exact m0|apply m1)) rfl (by omega) (by rw [ws_length, List.length_take, sched_length]; omega) rfl rfl) (by first|(simp[mids,It.mids,ownPc];done)|(intro k hk;simp[mids,It.mids,ownPc] at hk ⊢;grind)) rfl rfl ?_
    refine SX.val rfl (Val.loadOwn1 (q := z.1 - 16 + 9) (s := 1) tabOk rfl rfl (.inl (by repeat first|assumption|exact m0|apply m1)) rfl (ws_take_at (by omega) (by rw [sched_length]; omega)) rfl) (by first|(simp[mids,It.mids,ownPc];done)|(intro k hk;simp[mids,It.mids,ownPc] at hk ⊢;grind)) rfl rfl ?_
    refine SX.val rfl (Val.move rfl) (by simp) rfl rfl ?_
    refine SX.val rfl (Val.move rfl) (by simp) rfl rfl ?_
    refine SX.val rfl (Val.move rfl) (by simp) rfl rfl ?_
    refine SX.val rfl (Val.shrB (m := 10) rfl rfl (by first | rfl | omega)) (by first|(simp[mids,It.mids,ownPc];done)|(intro k hk;simp[mids,It.mids,ownPc] at hk ⊢;grind)) rfl rfl ?_
    refine SX.call rfl (dturn_s 7 rfl (by decide)) (by simp [mids, It.mids]) Casts.refl (by kernel_rfl) rfl rfl rfl ?_
    refine After.pure (by repeat first|exact .nil|refine .blk (by repeat first|assumption|exact m0|apply m1) ?_|refine .rd (by repeat first|assumption|exact m0|apply m1) ?_|refine .pc (by repeat first|assumption|exact m0|apply m1) ?_|refine .rdpc (by repeat first|assumption|exact m0|apply m1) ?_) (fun _ => rfl) ?_
    intro _
    refine SX.call rfl (dturn_s 18 rfl (by decide)) (by simp [mids, It.mids]) Casts.refl (by kernel_rfl) rfl rfl rfl ?_
    refine After.pure (by repeat first|exact .nil|refine .blk (by repeat first|assumption|exact m0|apply m1) ?_|refine .rd (by repeat first|assumption|exact m0|apply m1) ?_|refine .pc (by repeat first|assumption|exact m0|apply m1) ?_|refine .rdpc (by repeat first|assumption|exact m0|apply m1) ?_) (fun _ => rfl) ?_
    intro _
    refine SX.val rfl (Val.xorW rfl rfl) (by first|(simp[mids,It.mids,ownPc];done)|(intro k hk;simp[mids,It.mids,ownPc] at hk ⊢;grind)) rfl rfl ?_
    refine SX.val rfl (Val.xorW rfl rfl) (by first|(simp[mids,It.mids,ownPc];done)|(intro k hk;simp[mids,It.mids,ownPc] at hk ⊢;grind)) rfl rfl ?_
    refine SX.val rfl (Val.sumW rfl rfl) (by first|(simp[mids,It.mids,ownPc];done)|(intro k hk;simp[mids,It.mids,ownPc] at hk ⊢;grind)) rfl rfl ?_
    refine SX.val rfl (Val.sumW rfl rfl) (by first|(simp[mids,It.mids,ownPc];done)|(intro k hk;simp[mids,It.mids,ownPc] at hk ⊢;grind)) rfl rfl ?_
    refine SX.call rfl (dturn_s 17 rfl (by decide)) (by simp [mids, It.mids]) Casts.refl (by kernel_rfl) rfl rfl rfl ?_
    refine After.pure (by repeat first|exact .nil|refine .blk (by repeat first|assumption|exact m0|apply m1) ?_|refine .rd (by repeat first|assumption|exact m0|apply m1) ?_|refine .pc (by repeat first|assumption|exact m0|apply m1) ?_|refine .rdpc (by repeat first|assumption|exact m0|apply m1) ?_) (fun _ => rfl) ?_
    intro _
    refine SX.call rfl (dturn_s 19 rfl (by decide)) (by simp [mids, It.mids]) Casts.refl (by kernel_rfl) rfl rfl rfl ?_
    refine After.pure (by repeat first|exact .nil|refine .blk (by repeat first|assumption|exact m0|apply m1) ?_|refine .rd (by repeat first|assumption|exact m0|apply m1) ?_|refine .pc (by repeat first|assumption|exact m0|apply m1) ?_|refine .rdpc (by repeat first|assumption|exact m0|apply m1) ?_) (fun _ => rfl) ?_
    intro _
    refine SX.val rfl (Val.xorW rfl rfl) (by first|(simp[mids,It.mids,ownPc];done)|(intro k hk;simp[mids,It.mids,ownPc] at hk ⊢;grind)) rfl rfl ?_
    refine SX.val rfl (Val.xorW rfl rfl) (by first|(simp[mids,It.mids,ownPc];done)|(intro k hk;simp[mids,It.mids,ownPc] at hk ⊢;grind)) rfl rfl ?_
    refine SX.val rfl (Val.sumW rfl rfl) (by first|(simp[mids,It.mids,ownPc];done)|(intro k hk;simp[mids,It.mids,ownPc] at hk ⊢;grind)) rfl rfl ?_
    refine SX.eff rfl (Eff.buildSl (xs := [[u32 (nextW (sched b) (z.1 - 16))]]) tabOk Try.underlying297 rfl rfl rfl rfl rfl rfl rfl) (by simp) rfl rfl ?_
    rintro _ _ ⟨rfl, rfl⟩
    refine SX.nil ?_
    refine SE.rest z.2.ownBlock.toList ?_
    refine SX.effX [] rfl (Eff.appendE (zs := ws ((sched b).take (z.1 + 1))) tabOk [] (ws_take_snoc (by rw [sched_length]; omega) (by have := sched_high b (z := z.1 - 16) (by omega); rwa [show 16 + (z.1 - 16) = z.1 by omega] at this)) Try.underlying297 rfl rfl rfl rfl rfl rfl (by intro c hc; rw [List.mem_singleton] at hc; subst hc; rfl) (by unfold maxLen; simp only [ws, List.length_map, List.length_cons, List.length_nil, List.length_take, sched_length, R8.l]; omega) (by rw [show Try.prog.bytesOf 148 = 4 by kernel_rfl]; simp only [ws, List.length_map, List.length_cons, List.length_nil, List.length_take, sched_length, R8.l]; omega)) (fun k hk => hk) (by simp) rfl rfl ?_
    rintro _ _ ⟨r80, rfl, rfl⟩
    refine SX.val rfl (Val.assign rfl) (by first|(simp[mids,It.mids,ownPc];done)|(intro k hk;simp[mids,It.mids,ownPc] at hk ⊢;grind)) rfl rfl ?_
    refine SX.nil ?_
    refine SE.inBlock ?_
    refine SE.seq ?_
    refine SC.region ?_
    refine SL.val (Val.move rfl) rfl rfl ?_
    first
      | refine SL.val (Val.addI rfl rfl (by simp only [InR, lo, hi]; omega)) rfl rfl ?_
      | refine SL.val (Val.addW rfl rfl) rfl rfl ?_
    refine SL.val (Val.assign rfl) rfl rfl ?_
    refine SL.nil ?_
    refine SE.round (z.1 + 1, r80) (by first | omega | (dsimp only; omega)) (by first | omega | (dsimp only; omega)) (by exact ⟨rfl, rfl, rfl, rfl, rfl, trivial⟩) (by repeat first|exact s0 _|exact s1 _|apply s2|apply s3)
  intro hc19
  refine SC.exit ?_
  refine SE.then_ (by intro h; cases h) ?_
  refine SE.then_ (by intro h; cases h) ?_
  refine SE.exit ?_
  refine SE.seq ?_
  refine SC.seq ?_
  have hz1 : z.1 = 64 := by omega
  refine SC.freeze [] (t := 7) rfl rfl ?_
  rw [hz1, List.take_of_length_le (by rw [sched_length]; exact Nat.le_refl 64)]
  refine SC.region ?_
  refine SL.eff (Eff.buildOwn tabOk Try.underlying297 rfl rfl rfl rfl rfl rfl rfl) rfl rfl ?_
  rintro _ _ ⟨r81, rfl, rfl⟩
  refine SL.val (Val.move rfl) rfl rfl ?_
  refine SL.eff (Eff.appendE (zs := ws r.l) tabOk [] (rfl) Try.underlying297 rfl rfl rfl rfl rfl rfl (ws_ones _) (by unfold maxLen; simp only [ws, List.length_map, List.length_cons, List.length_nil, List.length_take, sched_length, R8.l]; omega) (by rw [show Try.prog.bytesOf 148 = 4 by kernel_rfl]; simp only [ws, List.length_map, List.length_cons, List.length_nil, List.length_take, sched_length, R8.l]; omega)) rfl rfl ?_
  rintro _ _ ⟨r83, rfl, rfl⟩
  refine SL.val (Val.assign rfl) rfl rfl ?_
  refine SL.nil (SE.seq ?_)
  refine SC.seq ?_
  refine SC.seq (SC.region ?_)
  refine SL.val (Val.assign rfl) rfl rfl ?_
  refine SL.nil (SE.seq ?_)
  refine SC.block ?_
  refine SC.loop (ι := Nat × Value) (fun z => [own 148 1 z.2 (ws (rnds r (sched b) z.1).l)]) (fun z => [(0, .sl 1 (ws r.l)), (1, .sl 1 (ws roundsL)), (7, .sl 1 (ws (sched b))), (12, .v z.2), (13, int (z.1 : Nat))]) (fun z => z.1 ≤ 64) (fun z => 64 - z.1) (0, r83) (Nat.zero_le _) (by exact ⟨rfl, rfl, rfl, rfl, rfl, trivial⟩) (by repeat first|exact s0 _|exact s1 _|apply s2|apply s3) ?_
  intro z hz
  refine SC.seq ?_
  refine SC.seq (SC.region ?_)
  refine SL.val (Val.move rfl) rfl rfl ?_
  refine SL.val (Val.ltI rfl rfl) rfl rfl ?_
  refine SL.nil (SE.seq ?_)
  refine SC.condP rfl ?_ ?_
  rotate_left
  · intro hc85
    refine SC.exit ?_
    refine SE.then_ (by intro h; cases h) ?_
    refine SE.then_ (by intro h; cases h) ?_
    refine SE.exit ?_
    refine SE.seq ?_
    refine SC.seq ?_
    have hz1 : z.1 = 64 := by omega
    rw [hz1]
    refine SC.region ?_
    refine SL.val (Val.assign rfl) rfl rfl ?_
    refine SL.nil (SE.seq ?_)
    refine SC.seq ?_
    refine SC.seq (SC.region ?_)
    refine SL.val (Val.move rfl) rfl rfl ?_
    first
      | refine SL.val (Val.lenSl rfl Try.underlying297 (List.length_map _)) rfl rfl ?_
      | refine SL.val (Val.lenOwn rfl (by repeat first|assumption|exact m0|apply m1) Try.underlying297 (List.length_map _)) rfl rfl ?_
      | refine SL.val (Val.lenNil rfl Try.underlying297) rfl rfl ?_
    refine SL.val (Val.move rfl) rfl rfl ?_
    refine SL.nil (SE.seq ?_)
    refine SC.block ?_
    refine SC.freeze [] (t := 12) rfl rfl ?_
    refine SC.own0 148 1 ?_
    refine SC.loop (ι := Nat × Value) (fun y => [own 148 1 y.2 (ws ((r.add (rnds r (sched b) 64)).l.take y.1))]) (fun y => [(0, .sl 1 (ws r.l)), (12, .sl 1 (ws (rnds r (sched b) 64).l)), (16, .v y.2), (166, int ((8 : Nat) : Int)), (167, int (y.1 : Nat))]) (fun y => y.1 ≤ 8) (fun y => 8 - y.1) (0, .slice none 0 0) (by decide) (by exact ⟨rfl, rfl, rfl, rfl, rfl, trivial⟩) (by repeat first|exact s0 _|exact s1 _|apply s2|apply s3) ?_
    intro y hy
    refine SC.seq (SC.region ?_)
    refine SL.val (Val.ltI rfl rfl) rfl rfl ?_
    refine SL.nil (SE.seq ?_)
    refine SC.seq ?_
    refine SC.condP rfl ?_ ?_
    rotate_left
    · intro hc168
      refine SC.exit ?_
      refine SE.then_ (by intro h; cases h) ?_
      refine SE.then_ (by intro h; cases h) ?_
      refine SE.exit ?_
      refine SE.seq ?_
      refine SC.seq (SC.region ?_)
      refine SL.val (Val.move rfl) rfl rfl ?_
      refine SL.val (Val.assign rfl) rfl rfl ?_
      refine SL.nil (SE.seq ?_)
      refine SC.ret ?_
      have hy1 : y.1 = 8 := by omega
      refine SE.freeze [] (t := 6) rfl rfl ?_
      refine SE.fin (rs := [.tmp 6]) rfl (RV.tmp rfl RV.nil) (()) (by repeat first|exact s0 _|exact s1 _|apply s2|apply s3) (by simp [It.rids]) ?_
      show Abs.sl 1 (ws ((r.add (rnds r (sched b) 64)).l.take y.1)) = _
      rw [hy1]
      rfl
    intro hc168
    refine SC.skip ?_
    refine SE.seq ?_
    refine SC.seq ?_
    refine SC.block ?_
    refine SC.seq (SC.region ?_)
    refine SL.val (Val.move rfl) rfl rfl ?_
    refine SL.val (Val.assign rfl) rfl rfl ?_
    refine SL.nil (SE.seq ?_)
    refine SC.drawS 11 [] (.q 0 (.q 1 (.q 2 (.q 3 (.q 4 (.q 5 (.q 6 (.q 7 (.q 8 (.q 9 (.e 10 .nil))))))))))) (.e 11 (.q 12 .nil)) (by kernel_rfl) (by kernel_rfl) ?_
    refine SX.val rfl (Val.move rfl) (by simp) rfl rfl ?_
    refine SX.val rfl (Val.move rfl) (by simp) rfl rfl ?_
    refine SX.val rfl (Val.move rfl) (by simp) rfl rfl ?_
    refine SX.val rfl (Val.indexSl (q := y.1) tabOk Try.underlying297 rfl rfl rfl (by omega) (ws_at (by show y.1 < 8; omega)) rfl rfl) (by first|(simp[mids,It.mids,ownPc];done)|(intro k hk;simp[mids,It.mids,ownPc] at hk ⊢;grind)) rfl rfl ?_
    refine SX.val rfl (Val.load1R tabOk rfl rfl rfl) (by first|(simp[mids,It.mids,ownPc];done)|(intro k hk;simp[mids,It.mids,ownPc] at hk ⊢;grind)) rfl rfl ?_
    refine SX.val rfl (Val.move rfl) (by simp) rfl rfl ?_
    refine SX.val rfl (Val.move rfl) (by simp) rfl rfl ?_
    refine SX.val rfl (Val.indexSl (q := y.1) tabOk Try.underlying297 rfl rfl rfl (by omega) (ws_at (by show y.1 < 8; omega)) rfl rfl) (by first|(simp[mids,It.mids,ownPc];done)|(intro k hk;simp[mids,It.mids,ownPc] at hk ⊢;grind)) rfl rfl ?_
    refine SX.val rfl (Val.load1R tabOk rfl rfl rfl) (by first|(simp[mids,It.mids,ownPc];done)|(intro k hk;simp[mids,It.mids,ownPc] at hk ⊢;grind)) rfl rfl ?_
    refine SX.val rfl (Val.to (C := u32 ((r.add (rnds r (sched b) 64)).l.getD y.1 0)) (Val.sumW rfl rfl) (congrArg u32 (add_getD r _ (by omega)))) (by first|(simp[mids,It.mids,ownPc];done)|(intro k hk;simp[mids,It.mids,ownPc] at hk ⊢;grind)) rfl rfl ?_
    refine SX.eff rfl (Eff.buildSl (xs := [[u32 ((r.add (rnds r (sched b) 64)).l.getD y.1 0)]]) tabOk Try.underlying297 rfl rfl rfl rfl rfl rfl rfl) (by simp) rfl rfl ?_
    rintro _ _ ⟨rfl, rfl⟩
    refine SX.nil ?_
    refine SE.rest y.2.ownBlock.toList ?_
    refine SX.effX [] rfl (Eff.appendE (zs := ws ((r.add (rnds r (sched b) 64)).l.take (y.1 + 1))) tabOk [] (ws_take_snoc (by show y.1 < 8; omega) rfl) Try.underlying297 rfl rfl rfl rfl rfl rfl (by intro c hc; rw [List.mem_singleton] at hc; subst hc; rfl) (by unfold maxLen; simp only [ws, List.length_map, List.length_cons, List.length_nil, List.length_take, sched_length, R8.l]; omega) (by rw [show Try.prog.bytesOf 148 = 4 by kernel_rfl]; simp only [ws, List.length_map, List.length_cons, List.length_nil, List.length_take, sched_length, R8.l]; omega)) (fun k hk => hk) (by simp) rfl rfl ?_
    rintro _ _ ⟨r181, rfl, rfl⟩
    refine SX.val rfl (Val.assign rfl) (by first|(simp[mids,It.mids,ownPc];done)|(intro k hk;simp[mids,It.mids,ownPc] at hk ⊢;grind)) rfl rfl ?_
    refine SX.nil ?_
    refine SE.inBlock ?_
    refine SE.seq ?_
    refine SC.region ?_
    first
      | refine SL.val (Val.addI rfl rfl (by simp only [InR, lo, hi]; omega)) rfl rfl ?_
      | refine SL.val (Val.addW rfl rfl) rfl rfl ?_
    refine SL.val (Val.move rfl) rfl rfl ?_
    refine SL.nil ?_
    refine SE.round (y.1 + 1, r181) (by first | omega | (dsimp only; omega)) (by first | omega | (dsimp only; omega)) (by exact ⟨rfl, rfl, rfl, rfl, rfl, trivial⟩) (by repeat first|exact s0 _|exact s1 _|apply s2|apply s3)
  intro hc85
  refine SC.skip ?_
  refine SE.seq ?_
  refine SC.seq ?_
  refine SC.block ?_
  refine SC.seq ?_
  refine SC.draw [] (.q 0 (.q 1 (.q 2 (.q 3 (.q 4 (.q 5 (.q 8 (.q 9 (.q 10 (.q 11 (.q 12 (.q 13 (.q 14 (.q 15 (.q 16 (.q 17 (.q 18 (.q 19 (.q 20 (.q 21 (.q 22 (.q 23 (.q 25 (.q 26 (.q 27 (.q 28 (.q 30 (.q 31 (.q 32 (.q 33 (.e 6 (.q 7 (.q 24 (.q 29 (.q 34 (.q 35 .nil)))))))))))))))))))))))))))))))))))) (by kernel_rfl) (by kernel_rfl) ?_
  refine SX.val rfl (Val.move rfl) (by simp) rfl rfl ?_
  refine SX.val rfl (Val.indexOwn (q := 7) tabOk Try.underlying297 rfl rfl (.inl (by repeat first|assumption|exact m0|apply m1)) rfl (by omega) ((by show _ < 8; decide)) rfl rfl) (by first|(simp[mids,It.mids,ownPc];done)|(intro k hk;simp[mids,It.mids,ownPc] at hk ⊢;grind)) rfl rfl ?_
  refine SX.val rfl (Val.loadOwn1 (q := 7) (s := 1) tabOk rfl rfl (.inl (by repeat first|assumption|exact m0|apply m1)) rfl (rfl) rfl) (by first|(simp[mids,It.mids,ownPc];done)|(intro k hk;simp[mids,It.mids,ownPc] at hk ⊢;grind)) rfl rfl ?_
  refine SX.val rfl (Val.move rfl) (by simp) rfl rfl ?_
  refine SX.val rfl (Val.indexOwn (q := 4) tabOk Try.underlying297 rfl rfl (.inl (by repeat first|assumption|exact m0|apply m1)) rfl (by omega) ((by show _ < 8; decide)) rfl rfl) (by first|(simp[mids,It.mids,ownPc];done)|(intro k hk;simp[mids,It.mids,ownPc] at hk ⊢;grind)) rfl rfl ?_
  refine SX.val rfl (Val.loadOwn1 (q := 4) (s := 1) tabOk rfl rfl (.inl (by repeat first|assumption|exact m0|apply m1)) rfl (rfl) rfl) (by first|(simp[mids,It.mids,ownPc];done)|(intro k hk;simp[mids,It.mids,ownPc] at hk ⊢;grind)) rfl rfl ?_
  refine SX.val rfl (Val.move rfl) (by simp) rfl rfl ?_
  refine SX.val rfl (Val.indexOwn (q := 4) tabOk Try.underlying297 rfl rfl (.inl (by repeat first|assumption|exact m0|apply m1)) rfl (by omega) ((by show _ < 8; decide)) rfl rfl) (by first|(simp[mids,It.mids,ownPc];done)|(intro k hk;simp[mids,It.mids,ownPc] at hk ⊢;grind)) rfl rfl ?_
  refine SX.val rfl (Val.loadOwn1 (q := 4) (s := 1) tabOk rfl rfl (.inl (by repeat first|assumption|exact m0|apply m1)) rfl (rfl) rfl) (by first|(simp[mids,It.mids,ownPc];done)|(intro k hk;simp[mids,It.mids,ownPc] at hk ⊢;grind)) rfl rfl ?_
  refine SX.val rfl (Val.move rfl) (by simp) rfl rfl ?_
  refine SX.val rfl (Val.indexOwn (q := 5) tabOk Try.underlying297 rfl rfl (.inl (by repeat first|assumption|exact m0|apply m1)) rfl (by omega) ((by show _ < 8; decide)) rfl rfl) (by first|(simp[mids,It.mids,ownPc];done)|(intro k hk;simp[mids,It.mids,ownPc] at hk ⊢;grind)) rfl rfl ?_
  refine SX.val rfl (Val.loadOwn1 (q := 5) (s := 1) tabOk rfl rfl (.inl (by repeat first|assumption|exact m0|apply m1)) rfl (rfl) rfl) (by first|(simp[mids,It.mids,ownPc];done)|(intro k hk;simp[mids,It.mids,ownPc] at hk ⊢;grind)) rfl rfl ?_
  refine SX.val rfl (Val.andW rfl rfl) (by first|(simp[mids,It.mids,ownPc];done)|(intro k hk;simp[mids,It.mids,ownPc] at hk ⊢;grind)) rfl rfl ?_
  refine SX.val rfl (Val.move rfl) (by simp) rfl rfl ?_
  refine SX.val rfl (Val.indexOwn (q := 4) tabOk Try.underlying297 rfl rfl (.inl (by repeat first|assumption|exact m0|apply m1)) rfl (by omega) ((by show _ < 8; decide)) rfl rfl) (by first|(simp[mids,It.mids,ownPc];done)|(intro k hk;simp[mids,It.mids,ownPc] at hk ⊢;grind)) rfl rfl ?_
  refine SX.val rfl (Val.loadOwn1 (q := 4) (s := 1) tabOk rfl rfl (.inl (by repeat first|assumption|exact m0|apply m1)) rfl (rfl) rfl) (by first|(simp[mids,It.mids,ownPc];done)|(intro k hk;simp[mids,It.mids,ownPc] at hk ⊢;grind)) rfl rfl ?_
  refine SX.val rfl (Val.notW rfl) (by first|(simp[mids,It.mids,ownPc];done)|(intro k hk;simp[mids,It.mids,ownPc] at hk ⊢;grind)) rfl rfl ?_
  refine SX.val rfl (Val.move rfl) (by simp) rfl rfl ?_
  refine SX.val rfl (Val.indexOwn (q := 6) tabOk Try.underlying297 rfl rfl (.inl (by repeat first|assumption|exact m0|apply m1)) rfl (by omega) ((by show _ < 8; decide)) rfl rfl) (by first|(simp[mids,It.mids,ownPc];done)|(intro k hk;simp[mids,It.mids,ownPc] at hk ⊢;grind)) rfl rfl ?_
  refine SX.val rfl (Val.loadOwn1 (q := 6) (s := 1) tabOk rfl rfl (.inl (by repeat first|assumption|exact m0|apply m1)) rfl (rfl) rfl) (by first|(simp[mids,It.mids,ownPc];done)|(intro k hk;simp[mids,It.mids,ownPc] at hk ⊢;grind)) rfl rfl ?_
  refine SX.val rfl (Val.andW rfl rfl) (by first|(simp[mids,It.mids,ownPc];done)|(intro k hk;simp[mids,It.mids,ownPc] at hk ⊢;grind)) rfl rfl ?_
  refine SX.val rfl (Val.to (C := u32 ((rnds r (sched b) z.1).e2 ^^^ ((rnds r (sched b) z.1).e0 &&& ((rnds r (sched b) z.1).e1 ^^^ (rnds r (sched b) z.1).e2)))) (Val.orW rfl rfl) (congrArg u32 (choose_eq _ _ _))) (by first|(simp[mids,It.mids,ownPc];done)|(intro k hk;simp[mids,It.mids,ownPc] at hk ⊢;grind)) rfl rfl ?_
  refine SX.val rfl (Val.move rfl) (by simp) rfl rfl ?_
  refine SX.val rfl (Val.move rfl) (by simp) rfl rfl ?_
  refine SX.val rfl (Val.indexSl (q := z.1) tabOk Try.underlying297 rfl rfl rfl (by omega) (ws_at (by show z.1 < 64; omega)) rfl rfl) (by first|(simp[mids,It.mids,ownPc];done)|(intro k hk;simp[mids,It.mids,ownPc] at hk ⊢;grind)) rfl rfl ?_
  refine SX.val rfl (Val.load1R tabOk rfl rfl rfl) (by first|(simp[mids,It.mids,ownPc];done)|(intro k hk;simp[mids,It.mids,ownPc] at hk ⊢;grind)) rfl rfl ?_
  refine SX.val rfl (Val.move rfl) (by simp) rfl rfl ?_
  refine SX.val rfl (Val.move rfl) (by simp) rfl rfl ?_
  refine SX.val rfl (Val.indexSl (q := z.1) tabOk Try.underlying297 rfl rfl rfl (by omega) (ws_at (by rw [sched_length]; omega)) rfl rfl) (by first|(simp[mids,It.mids,ownPc];done)|(intro k hk;simp[mids,It.mids,ownPc] at hk ⊢;grind)) rfl rfl ?_
  refine SX.val rfl (Val.load1R tabOk rfl rfl rfl) (by first|(simp[mids,It.mids,ownPc];done)|(intro k hk;simp[mids,It.mids,ownPc] at hk ⊢;grind)) rfl rfl ?_
  refine SX.call rfl (three_s 6 11 25 rfl rfl rfl (by decide) (by decide) (by decide)) (by simp [mids, It.mids]) Casts.refl (by kernel_rfl) rfl rfl rfl ?_
  refine After.pure (by repeat first|exact .nil|refine .blk (by repeat first|assumption|exact m0|apply m1) ?_|refine .rd (by repeat first|assumption|exact m0|apply m1) ?_|refine .pc (by repeat first|assumption|exact m0|apply m1) ?_|refine .rdpc (by repeat first|assumption|exact m0|apply m1) ?_) (fun _ => rfl) ?_
  intro _
  refine SX.val rfl (Val.sumW rfl rfl) (by first|(simp[mids,It.mids,ownPc];done)|(intro k hk;simp[mids,It.mids,ownPc] at hk ⊢;grind)) rfl rfl ?_
  refine SX.val rfl (Val.sumW rfl rfl) (by first|(simp[mids,It.mids,ownPc];done)|(intro k hk;simp[mids,It.mids,ownPc] at hk ⊢;grind)) rfl rfl ?_
  refine SX.val rfl (Val.sumW rfl rfl) (by first|(simp[mids,It.mids,ownPc];done)|(intro k hk;simp[mids,It.mids,ownPc] at hk ⊢;grind)) rfl rfl ?_
  refine SX.val rfl (Val.sumW rfl rfl) (by first|(simp[mids,It.mids,ownPc];done)|(intro k hk;simp[mids,It.mids,ownPc] at hk ⊢;grind)) rfl rfl ?_
  refine SX.val rfl (Val.to (C := u32 (t1W (rnds r (sched b) z.1) (roundsL.getD z.1 0) ((sched b).getD z.1 0))) (Val.assign rfl) rfl) (by first|(simp[mids,It.mids,ownPc];done)|(intro k hk;simp[mids,It.mids,ownPc] at hk ⊢;grind)) rfl rfl ?_
  refine SX.nil (SE.seq ?_)
  refine SC.seq ?_
  refine SC.draw [] (.q 0 (.q 1 (.q 2 (.q 4 (.q 5 (.q 6 (.q 7 (.q 8 (.q 9 (.q 10 (.q 11 (.q 12 (.q 13 (.q 14 (.q 15 (.q 16 (.q 17 (.q 18 (.q 19 (.q 20 (.q 21 (.q 22 (.q 23 (.q 24 (.q 25 (.q 26 (.e 3 (.q 27 (.q 28 .nil))))))))))))))))))))))))))))) (by kernel_rfl) (by kernel_rfl) ?_
  refine SX.val rfl (Val.move rfl) (by simp) rfl rfl ?_
  refine SX.val rfl (Val.indexOwn (q := 0) tabOk Try.underlying297 rfl rfl (.inl (by repeat first|assumption|exact m0|apply m1)) rfl (by omega) ((by show _ < 8; decide)) rfl rfl) (by first|(simp[mids,It.mids,ownPc];done)|(intro k hk;simp[mids,It.mids,ownPc] at hk ⊢;grind)) rfl rfl ?_
  refine SX.val rfl (Val.loadOwn1 (q := 0) (s := 1) tabOk rfl rfl (.inl (by repeat first|assumption|exact m0|apply m1)) rfl (rfl) rfl) (by first|(simp[mids,It.mids,ownPc];done)|(intro k hk;simp[mids,It.mids,ownPc] at hk ⊢;grind)) rfl rfl ?_
  refine SX.val rfl (Val.move rfl) (by simp) rfl rfl ?_
  refine SX.val rfl (Val.indexOwn (q := 0) tabOk Try.underlying297 rfl rfl (.inl (by repeat first|assumption|exact m0|apply m1)) rfl (by omega) ((by show _ < 8; decide)) rfl rfl) (by first|(simp[mids,It.mids,ownPc];done)|(intro k hk;simp[mids,It.mids,ownPc] at hk ⊢;grind)) rfl rfl ?_
  refine SX.val rfl (Val.loadOwn1 (q := 0) (s := 1) tabOk rfl rfl (.inl (by repeat first|assumption|exact m0|apply m1)) rfl (rfl) rfl) (by first|(simp[mids,It.mids,ownPc];done)|(intro k hk;simp[mids,It.mids,ownPc] at hk ⊢;grind)) rfl rfl ?_
  refine SX.val rfl (Val.move rfl) (by simp) rfl rfl ?_
  refine SX.val rfl (Val.indexOwn (q := 1) tabOk Try.underlying297 rfl rfl (.inl (by repeat first|assumption|exact m0|apply m1)) rfl (by omega) ((by show _ < 8; decide)) rfl rfl) (by first|(simp[mids,It.mids,ownPc];done)|(intro k hk;simp[mids,It.mids,ownPc] at hk ⊢;grind)) rfl rfl ?_
  refine SX.val rfl (Val.loadOwn1 (q := 1) (s := 1) tabOk rfl rfl (.inl (by repeat first|assumption|exact m0|apply m1)) rfl (rfl) rfl) (by first|(simp[mids,It.mids,ownPc];done)|(intro k hk;simp[mids,It.mids,ownPc] at hk ⊢;grind)) rfl rfl ?_
  refine SX.val rfl (Val.andW rfl rfl) (by first|(simp[mids,It.mids,ownPc];done)|(intro k hk;simp[mids,It.mids,ownPc] at hk ⊢;grind)) rfl rfl ?_
  refine SX.val rfl (Val.move rfl) (by simp) rfl rfl ?_
  refine SX.val rfl (Val.indexOwn (q := 0) tabOk Try.underlying297 rfl rfl (.inl (by repeat first|assumption|exact m0|apply m1)) rfl (by omega) ((by show _ < 8; decide)) rfl rfl) (by first|(simp[mids,It.mids,ownPc];done)|(intro k hk;simp[mids,It.mids,ownPc] at hk ⊢;grind)) rfl rfl ?_
  refine SX.val rfl (Val.loadOwn1 (q := 0) (s := 1) tabOk rfl rfl (.inl (by repeat first|assumption|exact m0|apply m1)) rfl (rfl) rfl) (by first|(simp[mids,It.mids,ownPc];done)|(intro k hk;simp[mids,It.mids,ownPc] at hk ⊢;grind)) rfl rfl ?_
  refine SX.val rfl (Val.move rfl) (by simp) rfl rfl ?_
  refine SX.val rfl (Val.indexOwn (q := 2) tabOk Try.underlying297 rfl rfl (.inl (by repeat first|assumption|exact m0|apply m1)) rfl (by omega) ((by show _ < 8; decide)) rfl rfl) (by first|(simp[mids,It.mids,ownPc];done)|(intro k hk;simp[mids,It.mids,ownPc] at hk ⊢;grind)) rfl rfl ?_
  refine SX.val rfl (Val.loadOwn1 (q := 2) (s := 1) tabOk rfl rfl (.inl (by repeat first|assumption|exact m0|apply m1)) rfl (rfl) rfl) (by first|(simp[mids,It.mids,ownPc];done)|(intro k hk;simp[mids,It.mids,ownPc] at hk ⊢;grind)) rfl rfl ?_
  refine SX.val rfl (Val.andW rfl rfl) (by first|(simp[mids,It.mids,ownPc];done)|(intro k hk;simp[mids,It.mids,ownPc] at hk ⊢;grind)) rfl rfl ?_
  refine SX.val rfl (Val.orW rfl rfl) (by first|(simp[mids,It.mids,ownPc];done)|(intro k hk;simp[mids,It.mids,ownPc] at hk ⊢;grind)) rfl rfl ?_
  refine SX.val rfl (Val.move rfl) (by simp) rfl rfl ?_
  refine SX.val rfl (Val.indexOwn (q := 1) tabOk Try.underlying297 rfl rfl (.inl (by repeat first|assumption|exact m0|apply m1)) rfl (by omega) ((by show _ < 8; decide)) rfl rfl) (by first|(simp[mids,It.mids,ownPc];done)|(intro k hk;simp[mids,It.mids,ownPc] at hk ⊢;grind)) rfl rfl ?_
  refine SX.val rfl (Val.loadOwn1 (q := 1) (s := 1) tabOk rfl rfl (.inl (by repeat first|assumption|exact m0|apply m1)) rfl (rfl) rfl) (by first|(simp[mids,It.mids,ownPc];done)|(intro k hk;simp[mids,It.mids,ownPc] at hk ⊢;grind)) rfl rfl ?_
  refine SX.val rfl (Val.move rfl) (by simp) rfl rfl ?_
  refine SX.val rfl (Val.indexOwn (q := 2) tabOk Try.underlying297 rfl rfl (.inl (by repeat first|assumption|exact m0|apply m1)) rfl (by omega) ((by show _ < 8; decide)) rfl rfl) (by first|(simp[mids,It.mids,ownPc];done)|(intro k hk;simp[mids,It.mids,ownPc] at hk ⊢;grind)) rfl rfl ?_
  refine SX.val rfl (Val.loadOwn1 (q := 2) (s := 1) tabOk rfl rfl (.inl (by repeat first|assumption|exact m0|apply m1)) rfl (rfl) rfl) (by first|(simp[mids,It.mids,ownPc];done)|(intro k hk;simp[mids,It.mids,ownPc] at hk ⊢;grind)) rfl rfl ?_
  refine SX.val rfl (Val.andW rfl rfl) (by first|(simp[mids,It.mids,ownPc];done)|(intro k hk;simp[mids,It.mids,ownPc] at hk ⊢;grind)) rfl rfl ?_
  refine SX.val rfl (Val.to (C := u32 (((rnds r (sched b) z.1).a0 &&& (rnds r (sched b) z.1).a1) ^^^ ((rnds r (sched b) z.1).a0 &&& (rnds r (sched b) z.1).a2) ^^^ ((rnds r (sched b) z.1).a1 &&& (rnds r (sched b) z.1).a2))) (Val.orW rfl rfl) (congrArg u32 (most_eq _ _ _))) (by first|(simp[mids,It.mids,ownPc];done)|(intro k hk;simp[mids,It.mids,ownPc] at hk ⊢;grind)) rfl rfl ?_
  refine SX.call rfl (three_s 2 13 22 rfl rfl rfl (by decide) (by decide) (by decide)) (by simp [mids, It.mids]) Casts.refl (by kernel_rfl) rfl rfl rfl ?_
  refine After.pure (by repeat first|exact .nil|refine .blk (by repeat first|assumption|exact m0|apply m1) ?_|refine .rd (by repeat first|assumption|exact m0|apply m1) ?_|refine .pc (by repeat first|assumption|exact m0|apply m1) ?_|refine .rdpc (by repeat first|assumption|exact m0|apply m1) ?_) (fun _ => rfl) ?_
  intro _
  refine SX.val rfl (Val.sumW rfl rfl) (by first|(simp[mids,It.mids,ownPc];done)|(intro k hk;simp[mids,It.mids,ownPc] at hk ⊢;grind)) rfl rfl ?_
  refine SX.val rfl (Val.to (C := u32 (t2W (rnds r (sched b) z.1))) (Val.assign rfl) rfl) (by first|(simp[mids,It.mids,ownPc];done)|(intro k hk;simp[mids,It.mids,ownPc] at hk ⊢;grind)) rfl rfl ?_
  refine SX.nil (SE.seq ?_)
  refine SC.seq (SC.region ?_)
  refine SL.val (Val.move rfl) rfl rfl ?_
  refine SL.val (Val.move rfl) rfl rfl ?_
  refine SL.val (Val.sumW rfl rfl) rfl rfl ?_
  refine SL.eff (Eff.buildOwn tabOk Try.underlying297 rfl rfl rfl rfl rfl rfl rfl) rfl rfl ?_
  rintro _ _ ⟨r154, rfl, rfl⟩
  refine SL.val (Val.move rfl) rfl rfl ?_
  refine SL.freeze [own 148 1 r154 _] (t := 155) rfl rfl ?_
  refine SL.val (Val.to (C := .sl 1 (ws [(rnds r (sched b) z.1).a0, (rnds r (sched b) z.1).a1, (rnds r (sched b) z.1).a2, (rnds r (sched b) z.1).a3, (rnds r (sched b) z.1).e0, (rnds r (sched b) z.1).e1, (rnds r (sched b) z.1).e2])) (Val.sliceHi (q := 7) tabOk Try.underlying297 rfl rfl rfl rfl rfl (by show 7 ≤ 8; decide)) rfl) rfl rfl ?_
  refine SL.eff (Eff.appendE (zs := ws [t1W (rnds r (sched b) z.1) (roundsL.getD z.1 0) ((sched b).getD z.1 0) + t2W (rnds r (sched b) z.1), (rnds r (sched b) z.1).a0, (rnds r (sched b) z.1).a1, (rnds r (sched b) z.1).a2, (rnds r (sched b) z.1).a3, (rnds r (sched b) z.1).e0, (rnds r (sched b) z.1).e1, (rnds r (sched b) z.1).e2]) tabOk [] (rfl) Try.underlying297 rfl rfl rfl rfl rfl rfl (ws_ones _) (by unfold maxLen; simp only [ws, List.length_map, List.length_cons, List.length_nil, List.length_take, sched_length, R8.l]; omega) (by rw [show Try.prog.bytesOf 148 = 4 by kernel_rfl]; simp only [ws, List.length_map, List.length_cons, List.length_nil, List.length_take, sched_length, R8.l]; omega)) rfl rfl ?_
  rintro _ _ ⟨r157, rfl, rfl⟩
  refine SL.val (Val.assign rfl) rfl rfl ?_
  refine SL.nil (SE.seq ?_)
  refine SC.region ?_
  refine SL.val (Val.move rfl) rfl rfl ?_
  refine SL.val (Val.move rfl) rfl rfl ?_
  refine SL.val (Val.indexOwn (q := 4) tabOk Try.underlying297 rfl rfl (.inl (by repeat first|assumption|exact m0|apply m1)) rfl (by omega) ((by show 4 < 8; decide)) rfl rfl) rfl rfl ?_
  refine SL.val (Val.loadOwn1 (q := 4) (s := 1) tabOk rfl rfl (.inl (by repeat first|assumption|exact m0|apply m1)) rfl (rfl) rfl) rfl rfl ?_
  refine SL.val (Val.move rfl) rfl rfl ?_
  refine SL.val (Val.sumW rfl rfl) rfl rfl ?_
  refine SL.val (Val.indexOwn (q := 4) tabOk Try.underlying297 rfl rfl (.inl (by repeat first|assumption|exact m0|apply m1)) rfl (by omega) ((by show 4 < 8; decide)) rfl rfl) rfl rfl ?_
  refine SL.eff (Eff.setOwn (q := 4) (s := 1) tabOk rfl rfl rfl (by repeat first|assumption|exact Upd.here|apply Upd.there) rfl rfl rfl (by show 4 < 8; decide) rfl) rfl rfl ?_
  rintro _ _ ⟨rfl, rfl⟩
  refine SL.nil ?_
  refine SE.inBlock ?_
  refine SE.seq ?_
  refine SC.region ?_
  refine SL.val (Val.move rfl) rfl rfl ?_
  first
    | refine SL.val (Val.addI rfl rfl (by simp only [InR, lo, hi]; omega)) rfl rfl ?_
    | refine SL.val (Val.addW rfl rfl) rfl rfl ?_
  refine SL.val (Val.assign rfl) rfl rfl ?_
  refine SL.nil ?_
  refine SE.round (z.1 + 1, r157) (by first | omega | (dsimp only; omega)) (by first | omega | (dsimp only; omega)) (by exact ⟨rfl, rfl, rfl, rfl, rfl, trivial⟩) (by repeat first|exact s0 _|exact s1 _|apply s2|apply s3)
end
end Go.Proofs.Ytpgffckfbgfgcaa.A
/-
  Sums of whole texts, tags, keys: what the document's answer comes to, as plain functions; the same as the program's, which takes a text in by parts.
-/
set_option maxRecDepth 100000
set_option linter.unusedSimpArgs false
set_option linter.unusedVariables false
namespace Go.Proofs.Ytpgffckfbgfgcaa.A
open Go.RowKit

/-- A text, made whole blocks long. -/
def shaP (l : List UInt8) : List UInt8 := l ++ [128] ++ List.replicate ((119 - l.length % 64) % 64) 0 ++ beBytes (l.length * 8) 8
def shaR (l : List UInt8) : R8 := blocks firstR (shaP l) ((shaP l).length / 64)
/-- The sum of a text. -/
def sha (l : List UInt8) : List UInt8 := outN (shaR l).l 32
theorem sha_length (l : List UInt8) : (sha l).length = 32 := outN_length _ (by omega)
theorem shaP_length (l : List UInt8) : (shaP l).length % 64 = 0 := by
  simp only [shaP, List.length_append, List.length_cons, List.length_nil, List.length_replicate, beBytes_length]
  omega
theorem byW_take {l : List UInt8} {k n : Nat} (h : k < n) : byW (l.take n) k = byW l k := by
  unfold byW
  rw [List.getD_eq_getElem?_getD, List.getElem?_take_of_lt h, List.getD_eq_getElem?_getD]
theorem byW_append {a b : List UInt8} {k : Nat} (h : k < a.length) : byW (a ++ b) k = byW a k := by
  unfold byW
  rw [List.getD_eq_getElem?_getD, List.getElem?_append_left h, List.getD_eq_getElem?_getD]
theorem sched_congr {a b : List UInt8} (h : ∀ k, k < 64 → byW a k = byW b k) : sched a = sched b := by
  have : sched0 a 16 = sched0 b 16 := by
    unfold sched0
    refine List.map_congr_left fun i hi => ?_
    have hi := List.mem_range.1 hi
    unfold wordAt
    rw [h _ (by omega), h _ (by omega), h _ (by omega), h _ (by omega)]
  unfold sched
  rw [this]
theorem blockW_take (r : R8) (l : List UInt8) : blockW r (l.take 64) = blockW r l := by
  unfold blockW
  rw [sched_congr fun k hk => byW_take hk]
theorem blockW_append (r : R8) {a : List UInt8} (b : List UInt8) (h : 64 ≤ a.length) : blockW r (a ++ b) = blockW r a := by
  unfold blockW
  rw [sched_congr fun k hk => byW_append (by omega)]
theorem blocks_add (r : R8) (l : List UInt8) (m : Nat) : ∀ k, blocks r l (m + k) = blocks (blocks r l m) (l.drop (64 * m)) k
  | 0 => rfl
  | k + 1 => by
    show blockW (blocks r l (m + k)) (l.drop (64 * (m + k))) = blockW (blocks (blocks r l m) (l.drop (64 * m)) k) ((l.drop (64 * m)).drop (64 * k))
    rw [blocks_add r l m k, List.drop_drop, Nat.mul_add]
theorem blocks_head (r : R8) {a : List UInt8} (b : List UInt8) : ∀ k, 64 * k ≤ a.length → blocks r (a ++ b) k = blocks r a k
  | 0, _ => rfl
  | k + 1, h => by
    show blockW (blocks r (a ++ b) k) ((a ++ b).drop (64 * k)) = blockW (blocks r a k) (a.drop (64 * k))
    rw [blocks_head r b k (by omega), List.drop_append_of_le_length (by omega), blockW_append _ _ (by rw [List.length_drop]; omega)]
/-- A sum that has taken in a text. -/
def Sm.of (t : List UInt8) : Sm := ⟨blocks firstR t (t.length / 64), t.drop (64 * (t.length / 64)), t.length⟩
theorem Sm.new_of : Sm.new = Sm.of [] := rfl
theorem Sm.of_add (t l : List UInt8) : (Sm.of t).add l = Sm.of (t ++ l) := by
  have e : t.drop (64 * (t.length / 64)) ++ l = (t ++ l).drop (64 * (t.length / 64)) := (List.drop_append_of_le_length (by omega)).symm
  have e2 : (t ++ l).length / 64 = t.length / 64 + ((t ++ l).drop (64 * (t.length / 64))).length / 64 := by
    rw [List.length_drop, List.length_append]
    omega
  unfold Sm.add Sm.of
  dsimp only
  rw [e, Sm.mk.injEq]
  refine ⟨?_, ?_, by rw [List.length_append]⟩
  · rw [e2, blocks_add, blocks_head firstR l (t.length / 64) (by omega)]
  · rw [List.drop_drop, ← Nat.mul_add, ← e2]
theorem Sm.of_sum (t : List UInt8) : (Sm.of t).sum = sha t := by
  have e : t.take (64 * (t.length / 64)) ++ t.drop (64 * (t.length / 64)) = t := List.take_append_drop _ _
  have hd : (t.drop (64 * (t.length / 64))).length = t.length % 64 := by rw [List.length_drop]; omega
  have e1 : shaP t = t.take (64 * (t.length / 64)) ++ padded (t.drop (64 * (t.length / 64))) t.length := by
    unfold shaP padded
    rw [hd, ← List.append_assoc, ← List.append_assoc, ← List.append_assoc, e]
  have hl : (t.take (64 * (t.length / 64))).length = 64 * (t.length / 64) := by rw [List.length_take]; omega
  have e2 : (shaP t).length / 64 = t.length / 64 + (padded (t.drop (64 * (t.length / 64))) t.length).length / 64 := by
    rw [e1, List.length_append, hl]
    omega
  have e5 : ∀ b, blocks firstR (t.take (64 * (t.length / 64)) ++ b) (t.length / 64) = blocks firstR (t.take (64 * (t.length / 64))) (t.length / 64) := fun b => blocks_head _ _ _ (by omega)
  have e3 : blocks firstR (shaP t) (t.length / 64) = blocks firstR t (t.length / 64) :=
    (congrArg (fun q => blocks firstR q (t.length / 64)) e1).trans ((e5 _).trans ((e5 _).symm.trans (congrArg (fun q => blocks firstR q (t.length / 64)) e)))
  have e4 : (shaP t).drop (64 * (t.length / 64)) = padded (t.drop (64 * (t.length / 64))) t.length := by
    rw [e1]
    exact List.drop_left' hl
  unfold sha Sm.sum finish shaR
  rw [e2, blocks_add, e3, e4]
  rfl
theorem kdigest_sha (k : Nat) (l : List UInt8) : kdigest k l = sha (UInt8.ofNat k :: l) := by
  unfold kdigest
  rw [Sm.new_of, Sm.of_add, Sm.of_add, Sm.of_sum]
  rfl
/-! ### Tags -/
def padN (k : List UInt8) : List UInt8 := k ++ List.replicate (64 - k.length) 0
/-- A key as a whole block, each byte with a number. -/
def padK (k : List UInt8) (x : UInt8) : List UInt8 := (padN (if 64 < k.length then sha k else k)).map (· ^^^ x)
def hmac (k l : List UInt8) : List UInt8 := sha (padK k 92 ++ sha (padK k 54 ++ l))
theorem hmac_length (k l : List UInt8) : (hmac k l).length = 32 := sha_length _
theorem padK_length (k : List UInt8) (x : UInt8) : (padK k x).length = 64 := by
  unfold padK padN
  rw [List.length_map, List.length_append, List.length_replicate]
  split
  · rw [sha_length]
  · omega
/-! ### Keys -/
def w16 (a : Int) : Nat := (a % 65536).toNat
theorem w16_lt (a : Int) : w16 a < 65536 := by unfold w16; omega
/-- Two numbers, the lower one first. -/
def pairOf (a b : Int) : Nat × Nat := if w16 b < w16 a then (w16 b, w16 a) else (w16 a, w16 b)
def twoB (p : Nat × Nat) : List UInt8 := beBytes p.1 2 ++ beBytes p.2 2
def keyB (seed : List UInt8) (a b : Int) : List UInt8 := hmac seed (twoB (pairOf a b))
def ktagB (seed : List UInt8) (a b : Int) (l : List UInt8) : List UInt8 := hmac (keyB seed a b) (twoB (w16 a, w16 b) ++ l)
theorem pairOf_swap (a b : Int) : pairOf a b = pairOf b a := by
  unfold pairOf
  split <;> split <;> first | rfl | omega | (congr 1 <;> omega)
theorem keyB_swap (seed : List UInt8) (a b : Int) : keyB seed a b = keyB seed b a := by unfold keyB; rw [pairOf_swap]
theorem keyB_length (seed : List UInt8) (a b : Int) : (keyB seed a b).length = 32 := hmac_length _ _
theorem ktagB_length (seed : List UInt8) (a b : Int) (l : List UInt8) : (ktagB seed a b l).length = 32 := hmac_length _ _
theorem twoB_length (p : Nat × Nat) : (twoB p).length = 4 := by simp [twoB, beBytes_length]
end Go.Proofs.Ytpgffckfbgfgcaa.A
/-
  The document's sum.
-/
set_option maxRecDepth 100000
set_option linter.unusedSimpArgs false
set_option linter.unusedVariables false
namespace Go.Proofs.Ytpgffckfbgfgcaa.A
open Go.RowKit

theorem b32_at {r : R8} {x : Nat} (h : x < 32) : ((be32 (r.l.take 8)).map fun b => [Abs.v (bc b)])[x]? = some [.v (bc (byteAt r.l x))] := by
  rw [show r.l.take 8 = r.l from rfl, List.getElem?_map, be32_at (by show x < 4 * 8; omega)]
  rfl
section
variable {l : List UInt8}
set_option maxHeartbeats 4000000 in
theorem dsum_s (hl : l.length ≤ 1000000000) : Spec Try.prog 159 [byt l] [] (fun _ : Unit => []) (fun _ => .agg (digA (sha l))) := by
  have hP := shaP_length l
  have hP2 : (shaP l).length ≤ l.length + 128 := by simp only [shaP, List.length_append, List.length_cons, List.length_nil, List.length_replicate, beBytes_length]; omega
  have hx : (l ++ ([128] ++ List.replicate ((119 - l.length % 64) % 64) 0)) ++ beBytes (l.length * 8) 8 = shaP l := by simp only [shaP, List.append_assoc]
  refine spec_of Try.func159 rfl Try.ntmps159 rfl fun G w => ?_
  refine SC.seq (SC.region ?_)
  refine SL.eff (Eff.alloc tabOk rfl) rfl rfl ?_
  rintro _ _ ⟨b2, rfl, rfl⟩
  refine SL.nil (SE.seq ?_)
  refine SC.seq (SC.region ?_)
  refine SL.call (constants_s) Casts.refl (by kernel_rfl) rfl rfl rfl ?_
  refine After.pure (by repeat first|exact .nil|refine .blk (by repeat first|assumption|exact m0|apply m1) ?_|refine .rd (by repeat first|assumption|exact m0|apply m1) ?_|refine .pc (by repeat first|assumption|exact m0|apply m1) ?_|refine .rdpc (by repeat first|assumption|exact m0|apply m1) ?_) (fun _ => rfl) ?_
  intro _
  refine SL.val (Val.move rfl) rfl rfl ?_
  refine SL.val (Val.extract rfl rfl) rfl rfl ?_
  refine SL.val (Val.extract rfl rfl) rfl rfl ?_
  refine SL.val (Val.assign rfl) rfl rfl ?_
  refine SL.val (Val.assign rfl) rfl rfl ?_
  refine SL.nil (SE.seq ?_)
  refine SC.seq (SC.region ?_)
  refine SL.eff (Eff.buildOwn tabOk Try.underlying34 rfl rfl rfl rfl rfl rfl rfl) rfl rfl ?_
  rintro _ _ ⟨r16, rfl, rfl⟩
  refine SL.val (Val.move rfl) rfl rfl ?_
  refine SL.eff (Eff.appendE (zs := bs l) tabOk [] (rfl) Try.underlying34 rfl rfl rfl rfl rfl rfl (bs_ones _) (by unfold maxLen; simp only [bs, List.length_map, List.length_append, List.length_cons, List.length_nil, List.length_replicate, List.length_drop]; omega) (by rw [show Try.prog.bytesOf 5 = 1 by kernel_rfl]; simp only [bs, List.length_map, List.length_append, List.length_cons, List.length_nil, List.length_replicate, List.length_drop]; omega)) rfl rfl ?_
  rintro _ _ ⟨r18, rfl, rfl⟩
  refine SL.eff (Eff.buildSl tabOk Try.underlying34 rfl rfl rfl rfl rfl rfl rfl) rfl rfl ?_
  rintro _ _ ⟨rfl, rfl⟩
  refine SL.eff (Eff.appendE (zs := bs (l ++ [128])) tabOk [] (by rw [show bs (l ++ [128]) = bs l ++ bs [128] from List.map_append]; rfl) Try.underlying34 rfl rfl rfl rfl rfl rfl (by intro c hc; rw [List.mem_singleton] at hc; subst hc; rfl) (by unfold maxLen; simp only [bs, List.length_map, List.length_append, List.length_cons, List.length_nil, List.length_replicate, List.length_drop]; omega) (by rw [show Try.prog.bytesOf 5 = 1 by kernel_rfl]; simp only [bs, List.length_map, List.length_append, List.length_cons, List.length_nil, List.length_replicate, List.length_drop]; omega)) rfl rfl ?_
  rintro _ _ ⟨r20, rfl, rfl⟩
  refine SL.val (Val.assign rfl) rfl rfl ?_
  refine SL.nil (SE.seq ?_)
  refine SC.seq ?_
  refine SC.block ?_
  refine SC.loop (ι := Nat × Value) (fun z => [own 5 1 z.2 (bs (l ++ ([128] ++ List.replicate z.1 0))), .blk b2 30 (digA (outN [] 0))]) (fun z => [(0, byt l), (2, ptr b2), (3, .sl 1 (ws roundsL)), (4, .sl 1 (ws firstR.l)), (5, .v z.2)]) (fun z => z.1 ≤ (119 - l.length % 64) % 64) (fun z => 64 - z.1) (0, r20) (Nat.zero_le _) (by exact ⟨rfl, rfl, rfl, rfl, rfl, trivial⟩) (by repeat first|exact s0 _|exact s1 _|apply s2|apply s3) ?_
  intro z hz
  refine SC.seq ?_
  refine SC.seq (SC.region ?_)
  refine SL.val (Val.move rfl) rfl rfl ?_
  first
    | refine SL.val (Val.lenSl rfl Try.underlying34 (List.length_map _)) rfl rfl ?_
    | refine SL.val (Val.lenOwn rfl (by repeat first|assumption|exact m0|apply m1) Try.underlying34 (List.length_map _)) rfl rfl ?_
    | refine SL.val (Val.lenNil rfl Try.underlying34) rfl rfl ?_
  first
    | refine SL.val (Val.remI rfl rfl (by omega)) rfl rfl ?_
    | refine SL.val (Val.remT rfl rfl (by omega)) rfl rfl ?_
  refine SL.val (Val.neI rfl rfl) rfl rfl ?_
  refine SL.nil (SE.seq ?_)
  refine SC.condP rfl ?_ ?_
  · intro hc24
    simp only [List.length_append, List.length_replicate, List.length_cons, List.length_nil] at hc24
    refine SC.skip ?_
    refine SE.seq ?_
    refine SC.block ?_
    refine SC.region ?_
    refine SL.val (Val.move rfl) rfl rfl ?_
    refine SL.eff (Eff.buildSl tabOk Try.underlying34 rfl rfl rfl rfl rfl rfl rfl) rfl rfl ?_
    rintro _ _ ⟨rfl, rfl⟩
    refine SL.eff (Eff.appendE (zs := bs (l ++ ([128] ++ List.replicate (z.1 + 1) 0))) tabOk [] (pad_snoc _ _) Try.underlying34 rfl rfl rfl rfl rfl rfl (by intro c hc; rw [List.mem_singleton] at hc; subst hc; rfl) (by unfold maxLen; simp only [bs, List.length_map, List.length_append, List.length_cons, List.length_nil, List.length_replicate, List.length_drop]; omega) (by rw [show Try.prog.bytesOf 5 = 1 by kernel_rfl]; simp only [bs, List.length_map, List.length_append, List.length_cons, List.length_nil, List.length_replicate, List.length_drop]; omega)) rfl rfl ?_
    rintro _ _ ⟨r27, rfl, rfl⟩
    refine SL.val (Val.assign rfl) rfl rfl ?_
    refine SL.nil ?_
    refine SE.inBlock ?_
    refine SE.round (z.1 + 1, r27) (by first | omega | (dsimp only; omega)) (by first | omega | (dsimp only; omega)) (by exact ⟨rfl, rfl, rfl, rfl, rfl, trivial⟩) (by repeat first|exact s0 _|exact s1 _|apply s2|apply s3)
  intro hc24
  simp only [List.length_append, List.length_replicate, List.length_cons, List.length_nil] at hc24
  refine SC.exit ?_
  refine SE.then_ (by intro h; cases h) ?_
  refine SE.then_ (by intro h; cases h) ?_
  refine SE.exit ?_
  refine SE.seq ?_
  refine SC.seq ?_
  have hz1 : z.1 = (119 - l.length % 64) % 64 := by omega
  refine SC.freeze [] (t := 5) rfl rfl ?_
  refine SC.region ?_
  refine SL.val (Val.move rfl) rfl rfl ?_
  refine SL.val (Val.move rfl) rfl rfl ?_
  first
    | refine SL.val (Val.lenSl rfl Try.underlying34 (List.length_map _)) rfl rfl ?_
    | refine SL.val (Val.lenOwn rfl (by repeat first|assumption|exact m0|apply m1) Try.underlying34 (List.length_map _)) rfl rfl ?_
    | refine SL.val (Val.lenNil rfl Try.underlying34) rfl rfl ?_
  first
    | refine SL.val (Val.convI rfl Try.underlying166 (by kernel_rfl) (by simp only [InR, lo, hi]; omega)) rfl rfl ?_
    | refine SL.val (Val.convU rfl Try.underlying166 (by kernel_rfl)) rfl rfl ?_
  refine SL.val (Val.to (C := wrd (l.length * 8)) (Val.mulI rfl rfl (by simp only [InR, lo, hi]; omega)) (congrArg (fun q => Abs.v (.int .u64 q)) (by omega))) rfl rfl ?_
  refine SL.call (rput_s (x := l.length * 8) (n := 8) (by unfold lots; simp only [List.length_append, List.length_replicate, List.length_cons, List.length_nil]; omega) rfl) Casts.refl (by kernel_rfl) rfl rfl rfl ?_
  refine After.pure (by repeat first|exact .nil|refine .blk (by repeat first|assumption|exact m0|apply m1) ?_|refine .rd (by repeat first|assumption|exact m0|apply m1) ?_|refine .pc (by repeat first|assumption|exact m0|apply m1) ?_|refine .rdpc (by repeat first|assumption|exact m0|apply m1) ?_) (fun _ => rfl) ?_
  intro _
  refine SL.val (Val.to (C := byt (shaP l)) (Val.assign rfl) (by rw [hz1, hx])) rfl rfl ?_
  refine SL.nil (SE.seq ?_)
  refine SC.seq ?_
  refine SC.seq (SC.region ?_)
  refine SL.val (Val.assign rfl) rfl rfl ?_
  refine SL.nil (SE.seq ?_)
  refine SC.block ?_
  refine SC.loop (ι := Nat) (fun z => [.blk b2 30 (digA (outN [] 0))]) (fun z => [(2, ptr b2), (3, .sl 1 (ws roundsL)), (4, .sl 1 (ws (blocks firstR (shaP l) z).l)), (5, byt (shaP l)), (6, int (64 * (z : Nat)))]) (fun z => 64 * z ≤ (shaP l).length) (fun z => (shaP l).length - z) (0) (Nat.zero_le _) (by exact ⟨rfl, rfl, rfl, rfl, rfl, trivial⟩) (by repeat first|exact s0 _|exact s1 _|apply s2|apply s3) ?_
  intro z hz
  refine SC.seq ?_
  refine SC.seq (SC.region ?_)
  refine SL.val (Val.move rfl) rfl rfl ?_
  refine SL.val (Val.move rfl) rfl rfl ?_
  first
    | refine SL.val (Val.lenSl rfl Try.underlying34 (List.length_map _)) rfl rfl ?_
    | refine SL.val (Val.lenOwn rfl (by repeat first|assumption|exact m0|apply m1) Try.underlying34 (List.length_map _)) rfl rfl ?_
    | refine SL.val (Val.lenNil rfl Try.underlying34) rfl rfl ?_
  refine SL.val (Val.ltI rfl rfl) rfl rfl ?_
  refine SL.nil (SE.seq ?_)
  refine SC.condP rfl ?_ ?_
  · intro hc37
    refine SC.skip ?_
    refine SE.seq ?_
    refine SC.seq ?_
    refine SC.block ?_
    refine SC.region ?_
    refine SL.val (Val.move rfl) rfl rfl ?_
    refine SL.val (Val.move rfl) rfl rfl ?_
    refine SL.val (Val.move rfl) rfl rfl ?_
    refine SL.val (Val.move rfl) rfl rfl ?_
    refine SL.val (Val.move rfl) rfl rfl ?_
    first
      | refine SL.val (Val.addI rfl rfl (by simp only [InR, lo, hi]; omega)) rfl rfl ?_
      | refine SL.val (Val.addW rfl rfl) rfl rfl ?_
    refine SL.val (Val.to (C := byt (((shaP l).drop (64 * z)).take 64)) (Val.sliceMid (p := 64 * z) (q := 64 * z + 64) tabOk Try.underlying34 rfl rfl rfl rfl rfl (by omega) (by omega) (by omega) (by rw [List.length_map]; omega)) (by rw [show 64 * z + 64 - 64 * z = 64 by omega]; exact congrArg (Abs.sl 1) (by rw [List.map_take, List.map_drop]))) rfl rfl ?_
    refine SL.call (dblock_s (r := (blocks firstR (shaP l) z)) (b := ((shaP l).drop (64 * z)).take 64) (by rw [List.length_take, List.length_drop]; omega)) Casts.refl (by kernel_rfl) rfl rfl rfl ?_
    refine After.pure (by repeat first|exact .nil|refine .blk (by repeat first|assumption|exact m0|apply m1) ?_|refine .rd (by repeat first|assumption|exact m0|apply m1) ?_|refine .pc (by repeat first|assumption|exact m0|apply m1) ?_|refine .rdpc (by repeat first|assumption|exact m0|apply m1) ?_) (fun _ => rfl) ?_
    intro _
    refine SL.val (Val.to (C := .sl 1 (ws (blocks firstR (shaP l) (z + 1)).l)) (Val.assign rfl) (congrArg (fun q => Abs.sl 1 (ws q)) (by rw [blockW_take]; rfl))) rfl rfl ?_
    refine SL.nil ?_
    refine SE.inBlock ?_
    refine SE.seq ?_
    refine SC.region ?_
    refine SL.val (Val.move rfl) rfl rfl ?_
    first
      | refine SL.val (Val.addI rfl rfl (by simp only [InR, lo, hi]; omega)) rfl rfl ?_
      | refine SL.val (Val.addW rfl rfl) rfl rfl ?_
    refine SL.val (Val.assign rfl) rfl rfl ?_
    refine SL.nil ?_
    refine SE.round (z + 1) (by first | omega | (dsimp only; omega)) (by first | omega | (dsimp only; omega)) ⟨rfl, rfl, rfl, rfl, congrArg (fun q : Int => some (int q)) (by omega), trivial⟩ (by repeat first|exact s0 _|exact s1 _|apply s2|apply s3)
  intro hc37
  refine SC.exit ?_
  refine SE.then_ (by intro h; cases h) ?_
  refine SE.then_ (by intro h; cases h) ?_
  refine SE.exit ?_
  refine SE.seq ?_
  refine SC.seq ?_
  obtain rfl : z = (shaP l).length / 64 := by omega
  refine SC.region ?_
  refine SL.val (Val.assign rfl) rfl rfl ?_
  refine SL.nil (SE.seq ?_)
  refine SC.seq ?_
  refine SC.seq (SC.region ?_)
  refine SL.val (Val.move rfl) rfl rfl ?_
  first
    | refine SL.val (Val.lenSl rfl Try.underlying297 (List.length_map _)) rfl rfl ?_
    | refine SL.val (Val.lenOwn rfl (by repeat first|assumption|exact m0|apply m1) Try.underlying297 (List.length_map _)) rfl rfl ?_
    | refine SL.val (Val.lenNil rfl Try.underlying297) rfl rfl ?_
  refine SL.val (Val.move rfl) rfl rfl ?_
  refine SL.nil (SE.seq ?_)
  refine SC.block ?_
  refine SC.own0 5 1 ?_
  refine SC.freeze [] (t := 7) rfl rfl ?_
  refine SC.loop (ι := Nat) (fun y => [.blk b2 30 (digA (outN [] 0))]) (fun y => [(2, ptr b2), (7, byt (be32 ((shaR l).l.take y))), (48, .sl 1 (ws (shaR l).l)), (49, int ((8 : Nat) : Int)), (50, int (y : Nat))]) (fun y => y ≤ 8) (fun y => 8 - y) (0) (by decide) (by exact ⟨rfl, rfl, rfl, rfl, rfl, trivial⟩) (by repeat first|exact s0 _|exact s1 _|apply s2|apply s3) ?_
  intro y hy
  refine SC.seq (SC.region ?_)
  refine SL.val (Val.ltI rfl rfl) rfl rfl ?_
  refine SL.nil (SE.seq ?_)
  refine SC.seq ?_
  refine SC.condP rfl ?_ ?_
  · intro hc51
    refine SC.skip ?_
    refine SE.seq ?_
    refine SC.seq ?_
    refine SC.block ?_
    refine SC.seq (SC.region ?_)
    refine SL.val (Val.indexSl (q := y) tabOk Try.underlying297 rfl rfl rfl (by omega) (ws_at (by show y < 8; omega)) rfl rfl) rfl rfl ?_
    refine SL.val (Val.load1R tabOk rfl rfl rfl) rfl rfl ?_
    refine SL.val (Val.assign rfl) rfl rfl ?_
    refine SL.nil (SE.seq ?_)
    refine SC.region ?_
    refine SL.val (Val.move rfl) rfl rfl ?_
    refine SL.val (Val.move rfl) rfl rfl ?_
    refine SL.val (Val.to (C := wrd ((shaR l).l.getD y 0).toNat) (Val.convI (k := .u32) rfl Try.underlying166 (by kernel_rfl) (by have := ((shaR l).l.getD y 0).isLt; simp only [InR, lo, hi]; omega)) rfl) rfl rfl ?_
    refine SL.call (rput_s (x := ((shaR l).l.getD y 0).toNat) (n := 4) (by unfold lots; rw [be32_length, List.length_take]; show 4 * min y 8 + 8 ≤ _; omega) rfl) Casts.refl (by kernel_rfl) rfl rfl rfl ?_
    refine After.pure (by repeat first|exact .nil|refine .blk (by repeat first|assumption|exact m0|apply m1) ?_|refine .rd (by repeat first|assumption|exact m0|apply m1) ?_|refine .pc (by repeat first|assumption|exact m0|apply m1) ?_|refine .rdpc (by repeat first|assumption|exact m0|apply m1) ?_) (fun _ => rfl) ?_
    intro _
    refine SL.val (Val.to (C := byt (be32 ((shaR l).l.take (y + 1)))) (Val.assign rfl) (congrArg byt (be32_take (by show y < 8; omega)))) rfl rfl ?_
    refine SL.nil ?_
    refine SE.inBlock ?_
    refine SE.seq ?_
    refine SC.region ?_
    first
      | refine SL.val (Val.addI rfl rfl (by simp only [InR, lo, hi]; omega)) rfl rfl ?_
      | refine SL.val (Val.addW rfl rfl) rfl rfl ?_
    refine SL.val (Val.move rfl) rfl rfl ?_
    refine SL.nil ?_
    refine SE.round (y + 1) (by first | omega | (dsimp only; omega)) (by first | omega | (dsimp only; omega)) (by exact ⟨rfl, rfl, rfl, rfl, rfl, trivial⟩) (by repeat first|exact s0 _|exact s1 _|apply s2|apply s3)
  intro hc51
  refine SC.exit ?_
  refine SE.then_ (by intro h; cases h) ?_
  refine SE.then_ (by intro h; cases h) ?_
  refine SE.exit ?_
  refine SE.seq ?_
  refine SC.seq ?_
  obtain rfl : y = 8 := by omega
  refine SC.region ?_
  refine SL.eff (Eff.alloc tabOk rfl) rfl rfl ?_
  rintro _ _ ⟨b10, rfl, rfl⟩
  refine SL.nil (SE.seq ?_)
  refine SC.seq ?_
  refine SC.seq (SC.region ?_)
  refine SL.val (Val.move rfl) rfl rfl ?_
  refine SL.nil (SE.seq ?_)
  refine SC.block ?_
  refine SC.loop (ι := Nat) (fun x => [.blk b10 30 (digA (outN (shaR l).l x)), .blk b2 30 (digA (outN [] 0))]) (fun x => [(2, ptr b2), (7, byt (be32 ((shaR l).l.take 8))), (10, ptr b10), (59, int (x : Nat))]) (fun x => x ≤ 32) (fun x => 32 - x) (0) (by decide) (by exact ⟨rfl, rfl, rfl, rfl, trivial⟩) (by repeat first|exact s0 _|exact s1 _|apply s2|apply s3) ?_
  intro x hx
  refine SC.seq (SC.region ?_)
  refine SL.val (Val.ltI rfl rfl) rfl rfl ?_
  refine SL.nil (SE.seq ?_)
  refine SC.seq ?_
  refine SC.condP rfl ?_ ?_
  rotate_left
  · intro hc60
    refine SC.exit ?_
    refine SE.then_ (by intro h; cases h) ?_
    refine SE.then_ (by intro h; cases h) ?_
    refine SE.exit ?_
    refine SE.seq ?_
    refine SC.seq ?_
    obtain rfl : x = 32 := by omega
    refine SC.region ?_
    refine SL.val (Val.loadA tabOk rfl rfl rfl (by first|(apply Or.inl;(repeat first|assumption|exact m0|apply m1);done)|(apply Or.inr;(repeat first|assumption|exact m0|apply m1);done)) List.not_mem_nil (dig_out _ (by omega))) rfl rfl ?_
    refine SL.eff (Eff.store (L' := digA (sha l)) tabOk rfl rfl rfl (by repeat first|assumption|exact Upd.here|apply Upd.there) (dig_out _ (by omega)) (Nat.le_of_ble_eq_true (by rfl)) (by exact ones_dig _) (putL_whole (by exact (dig_out _ (by omega)).trans (dig_out _ (by omega)).symm))) rfl rfl ?_
    rintro _ _ ⟨rfl, rfl⟩
    refine SL.nil (SE.seq ?_)
    refine SC.ret ?_
    refine SE.fin (rs := [.cell 2 30]) rfl (RV.cell rfl (RV.cellA tabOk rfl rfl (by first|(apply Or.inl;(repeat first|assumption|exact m0|apply m1);done)|(apply Or.inr;(repeat first|assumption|exact m0|apply m1);done)) (dig_out _ (by omega))) RV.nil) (()) (by repeat first|exact s0 _|exact s1 _|apply s2|apply s3) (by simp [It.rids]) ?_
    exact rfl
  intro hc60
  refine SC.skip ?_
  refine SE.seq ?_
  refine SC.seq ?_
  refine SC.block ?_
  refine SC.seq (SC.region ?_)
  refine SL.val (Val.move rfl) rfl rfl ?_
  refine SL.val (Val.assign rfl) rfl rfl ?_
  refine SL.nil (SE.seq ?_)
  refine SC.region ?_
  refine SL.val (Val.move rfl) rfl rfl ?_
  refine SL.val (Val.move rfl) rfl rfl ?_
  refine SL.val (Val.move rfl) rfl rfl ?_
  refine SL.val (Val.indexSl (q := x) tabOk Try.underlying34 rfl rfl rfl (by omega) (b32_at (by omega)) rfl rfl) rfl rfl ?_
  refine SL.val (Val.load1R tabOk rfl rfl rfl) rfl rfl ?_
  refine SL.val (Val.indexArP (q := x) tabOk Try.underlying30 rfl rfl rfl (by first | rfl | omega) (by omega) rfl) rfl rfl ?_
  refine SL.eff (Eff.store (L' := digA (outN (shaR l).l (x + 1))) tabOk rfl rfl rfl (by repeat first|assumption|exact Upd.here|apply Upd.there) (by rfl) (by rw [dig_out _ (by omega)]; show 0 + x * 1 + 1 ≤ 32; omega) (by rfl) (digA_put (by rw [outN_length _ (by omega)]; omega) (outN_set _ (by omega)))) rfl rfl ?_
  rintro _ _ ⟨rfl, rfl⟩
  refine SL.nil ?_
  refine SE.inBlock ?_
  refine SE.seq ?_
  refine SC.region ?_
  first
    | refine SL.val (Val.addI rfl rfl (by simp only [InR, lo, hi]; omega)) rfl rfl ?_
    | refine SL.val (Val.addW rfl rfl) rfl rfl ?_
  refine SL.val (Val.move rfl) rfl rfl ?_
  refine SL.nil ?_
  refine SE.round (x + 1) (by first | omega | (dsimp only; omega)) (by first | omega | (dsimp only; omega)) (by exact ⟨rfl, rfl, rfl, rfl, trivial⟩) (by repeat first|exact s0 _|exact s1 _|apply s2|apply s3)
end
end Go.Proofs.Ytpgffckfbgfgcaa.A
/-
  The document's tags and keys.
-/
set_option maxRecDepth 100000
set_option linter.unusedSimpArgs false
set_option linter.unusedVariables false
namespace Go.Proofs.Ytpgffckfbgfgcaa.A
open Go.RowKit

theorem byt_get {l : List UInt8} {z : Nat} (h : z < l.length) : (l.map fun b => [Abs.v (bc b)])[z]? = some [.v (bc (l.getD z 0))] := by
  simp [List.getD, h]
theorem bs_take_snoc {l : List UInt8} {z : Nat} {c : UInt8} (h : z < l.length) (hc : l.getD z 0 = c) : bs (l.take z) ++ [[.v (bc c)]] = bs (l.take (z + 1)) := by
  subst hc
  rw [show [[Abs.v (bc (l.getD z 0))]] = bs [l.getD z 0] from rfl, ← List.map_append, List.take_add_one, List.getElem?_eq_getElem h]
  simp [List.getD, h]
abbrev keyN (k : List UInt8) : List UInt8 := if 64 < k.length then sha k else k
theorem keyN_le (k : List UInt8) : (keyN k).length ≤ 64 := by
  unfold keyN
  split
  · rw [sha_length]; omega
  · omega
theorem padK_get (k : List UInt8) (x : UInt8) {z : Nat} (hz : z < 64) : (padK k x).getD z 0 = (if z < (keyN k).length then (keyN k).getD z 0 else 0) ^^^ x := by
  have hl := keyN_le k
  unfold padK padN
  rw [List.getD_eq_getElem?_getD, List.getElem?_map]
  show (((keyN k ++ List.replicate (64 - (keyN k).length) 0)[z]?).map (· ^^^ x)).getD 0 = _
  by_cases h : z < (keyN k).length
  · rw [if_pos h, List.getElem?_append_left h, List.getElem?_eq_getElem h]
    simp [List.getD, h]
  · rw [if_neg h, List.getElem?_append_right (by omega), List.getElem?_replicate_of_lt (by omega)]
    rfl
theorem padT {k : List UInt8} {x : UInt8} {z : Nat} (hz : z < 64) (h : z < (keyN k).length) : bs ((padK k x).take z) ++ [[.v (bc ((keyN k).getD z 0 ^^^ x))]] = bs ((padK k x).take (z + 1)) :=
  bs_take_snoc (by rw [padK_length]; exact hz) (by rw [padK_get k x hz, if_pos h])
theorem padF {k : List UInt8} {x : UInt8} {z : Nat} (hz : z < 64) (h : ¬ z < (keyN k).length) : bs ((padK k x).take z) ++ [[.v (bc (0 ^^^ x))]] = bs ((padK k x).take (z + 1)) :=
  bs_take_snoc (by rw [padK_length]; exact hz) (by rw [padK_get k x hz, if_neg h])
theorem w16_wrap (a : Int) : IntKind.u16.wrap a = (w16 a : Nat) := by
  simp [IntKind.wrap, IntKind.bits, IntKind.signed, w16]
  omega
theorem w16_id {a : Nat} (h : a < 65536) : w16 (a : Nat) = a := by unfold w16; omega
theorem be2_u64 (a : Int) : beBytes (u64 a) 2 = beBytes (w16 a) 2 := by
  have h : u64 a % 65536 = w16 a := by unfold u64 w16; omega
  have e1 : UInt8.ofNat (u64 a) = UInt8.ofNat (w16 a) := by
    apply UInt8.toNat.inj
    simp
    omega
  have e2 : UInt8.ofNat (u64 a / 256) = UInt8.ofNat (w16 a / 256) := by
    apply UInt8.toNat.inj
    simp
    omega
  simp only [beBytes, e1, e2]
abbrev h16 (x : Nat) : Abs := .v (.int .u16 (x : Nat))
theorem dig_get {d : List UInt8} {q : Nat} (h : q < d.length) : (digA d)[q]? = some (.v (bc (d.getD q 0))) := by
  simp [digA, List.getD, h]
section
variable {l k d : List UInt8} {x : UInt8} {a b : Int}
theorem rputO_s {x n : Nat} (hl : l.length + 8 ≤ lots) (hn : sizeB n = true) : Spec Try.prog 112 [byt l, wrd x, int n] [] (fun r : Value => [own 5 1 r (bs (l ++ beBytes x n))]) (fun r => .v r) := Spec.ofOwnB fun K w vals hK hv => by
  obtain ⟨v, us', rfl, h1, h2⟩ := hv
  have := (reps_plain (us := [.int .u64 x, .int .i64 n])).1 h2
  subst this
  exact (rput_own ((enter2 w K).add (z := bytesD v l) (row2 (rep_byt.1 h1))) (by simp) hl hn).mono fun e w' ⟨r, he, hm⟩ => ⟨r, _, he, hm⟩
theorem putO_s {x : Nat} {n : Int} (hl : l.length ≤ lots) (hx : x < 18446744073709551616) (hn : sizeB n = true) : Spec Try.prog 116 [byt l, wrd x, int n] [] (fun r : Value => [own 5 1 r (bs (l ++ beBytes x n.toNat))]) (fun r => .v r) := Spec.ofOwnB fun K w vals hK hv => by
  obtain ⟨v, us', rfl, h1, h2⟩ := hv
  have := (reps_plain (us := [.int .u64 x, .int .i64 n])).1 h2
  subst this
  have hw := (enter2 w K).add (z := bytesD v l) (row2 (rep_byt.1 h1))
  exact (put_own hw (hw.bytes (by simp)) hl hx hn).mono fun e w' ⟨r, he, hm⟩ => ⟨r, _, he, hm⟩
theorem bytes_s (hd : d.length = 32) : Spec Try.prog 210 [.agg (digA d)] [] (fun _ : Unit => []) (fun _ => byt d) := by
  refine spec_of Try.func210 rfl Try.ntmps210 rfl fun G w => ?_
  refine SC.seq (SC.region ?_)
  refine SL.eff (Eff.boxA rfl) rfl rfl ?_
  rintro _ _ ⟨b1, rfl, rfl⟩
  refine SL.val (Val.assign rfl) rfl rfl ?_
  refine SL.nil (SE.seq ?_)
  refine SC.seq (SC.region ?_)
  refine SL.val (Val.assign rfl) rfl rfl ?_
  refine SL.nil (SE.seq ?_)
  refine SC.seq ?_
  refine SC.seq (SC.region ?_)
  refine SL.val (Val.loadA tabOk rfl rfl rfl (by first|(apply Or.inl;(repeat first|assumption|exact m0|apply m1);done)|(apply Or.inr;(repeat first|assumption|exact m0|apply m1);done)) List.not_mem_nil (by simp only [digA, List.length_map]; exact hd)) rfl rfl ?_
  refine SL.val (Val.move rfl) rfl rfl ?_
  refine SL.nil (SE.seq ?_)
  refine SC.block ?_
  refine SC.own0 5 1 ?_
  refine SC.loop (ι := Nat × Value) (fun z => [own 5 1 z.2 (bs (d.take z.1))]) (fun z => [(3, .v z.2), (6, .agg (digA d)), (7, int (z.1 : Nat))]) (fun z => z.1 ≤ 32) (fun z => 32 - z.1) (0, .slice none 0 0) (by decide) (by exact ⟨rfl, rfl, rfl, trivial⟩) (by repeat first|exact s0 _|exact s1 _|apply s2|apply s3) ?_
  intro z hz
  refine SC.seq (SC.region ?_)
  refine SL.val (Val.ltI rfl rfl) rfl rfl ?_
  refine SL.nil (SE.seq ?_)
  refine SC.seq ?_
  refine SC.condP rfl ?_ ?_
  rotate_left
  · intro hc8
    refine SC.exit ?_
    refine SE.then_ (by intro h; cases h) ?_
    refine SE.then_ (by intro h; cases h) ?_
    refine SE.exit ?_
    refine SE.seq ?_
    refine SC.seq (SC.region ?_)
    refine SL.val (Val.move rfl) rfl rfl ?_
    refine SL.val (Val.assign rfl) rfl rfl ?_
    refine SL.nil (SE.seq ?_)
    refine SC.ret ?_
    have hz1 : z.1 = 32 := by omega
    refine SE.freeze [] (t := 2) rfl rfl ?_
    refine SE.fin (rs := [.tmp 2]) rfl (RV.tmp rfl RV.nil) (()) (by repeat first|exact s0 _|exact s1 _|apply s2|apply s3) (by simp [It.rids]) ?_
    show Abs.sl 1 (bs (d.take z.1)) = _
    rw [hz1, List.take_of_length_le (Nat.le_of_eq hd)]
  intro hc8
  refine SC.skip ?_
  refine SE.seq ?_
  refine SC.seq ?_
  refine SC.block ?_
  refine SC.seq (SC.region ?_)
  refine SL.val (Val.indexAr (q := z.1) tabOk Try.underlying30 rfl rfl rfl rfl rfl (by omega) (dig_get (by omega))) rfl rfl ?_
  refine SL.val (Val.assign rfl) rfl rfl ?_
  refine SL.nil (SE.seq ?_)
  refine SC.region ?_
  refine SL.val (Val.move rfl) rfl rfl ?_
  refine SL.val (Val.move rfl) rfl rfl ?_
  refine SL.eff (Eff.buildSl tabOk Try.underlying34 rfl rfl rfl rfl rfl rfl rfl) rfl rfl ?_
  rintro _ _ ⟨rfl, rfl⟩
  refine SL.eff (Eff.appendE (zs := bs (d.take (z.1 + 1))) tabOk [] (bs_take_snoc (by omega) rfl) Try.underlying34 rfl rfl rfl rfl rfl rfl (by intro c hc; rw [List.mem_singleton] at hc; subst hc; rfl) (by unfold maxLen; simp only [bs, List.length_map, List.length_append, List.length_cons, List.length_nil, List.length_replicate, List.length_drop, List.length_take, padK_length, sha_length, twoB_length]; omega) (by rw [show Try.prog.bytesOf 5 = 1 by kernel_rfl]; simp only [bs, List.length_map, List.length_append, List.length_cons, List.length_nil, List.length_replicate, List.length_drop, List.length_take, padK_length, sha_length, twoB_length]; omega)) rfl rfl ?_
  rintro _ _ ⟨r13, rfl, rfl⟩
  refine SL.val (Val.assign rfl) rfl rfl ?_
  refine SL.nil ?_
  refine SE.inBlock ?_
  refine SE.seq ?_
  refine SC.region ?_
  first
    | refine SL.val (Val.addI rfl rfl (by simp only [InR, lo, hi]; omega)) rfl rfl ?_
    | refine SL.val (Val.addW rfl rfl) rfl rfl ?_
  refine SL.val (Val.move rfl) rfl rfl ?_
  refine SL.nil ?_
  refine SE.round (z.1 + 1, r13) (by first | omega | (dsimp only; omega)) (by first | omega | (dsimp only; omega)) (by exact ⟨rfl, rfl, rfl, trivial⟩) (by repeat first|exact s0 _|exact s1 _|apply s2|apply s3)
set_option maxHeartbeats 1000000 in
theorem with_s (hk : k.length ≤ 1000000) : Spec Try.prog 209 [byt k, .v (bc x)] [] (fun v : Value => [own 5 1 v (bs (padK k x))]) (fun v => .v v) := by
  refine spec_of Try.func209 rfl Try.ntmps209 rfl fun G w => ?_
  refine SC.seq (SC.region ?_)
  refine SL.val (Val.assign rfl) rfl rfl ?_
  refine SL.nil (SE.seq ?_)
  refine SC.cutS (ι := Unit) (fun z => []) (fun z => [(0, byt (keyN k)), (1, .v (bc x))]) (fun z => True) ?_ ?_
  · skip
    refine SC.seq (SC.region ?_)
    refine SL.val (Val.move rfl) rfl rfl ?_
    first
      | refine SL.val (Val.lenSl rfl Try.underlying34 (List.length_map _)) rfl rfl ?_
      | refine SL.val (Val.lenOwn rfl (by repeat first|assumption|exact m0|apply m1) Try.underlying34 (List.length_map _)) rfl rfl ?_
      | refine SL.val (Val.lenNil rfl Try.underlying34) rfl rfl ?_
    refine SL.val (Val.gtI rfl rfl) rfl rfl ?_
    refine SL.nil (SE.seq ?_)
    refine SC.condP rfl ?_ ?_
    rotate_left
    · intro hc10
      refine SC.skip ?_
      refine SE.meet () trivial ⟨congrArg (fun q => some (byt q)) (if_neg (show ¬ 64 < k.length by omega)).symm, rfl, trivial⟩ (by repeat first|exact s0 _|exact s1 _|apply s2|apply s3)
    intro hc10
    refine SC.region ?_
    refine SL.val (Val.move rfl) rfl rfl ?_
    refine SL.call (dsum_s (l := k) (by omega)) Casts.refl (by kernel_rfl) rfl rfl rfl ?_
    refine After.pure (by repeat first|exact .nil|refine .blk (by repeat first|assumption|exact m0|apply m1) ?_|refine .rd (by repeat first|assumption|exact m0|apply m1) ?_|refine .pc (by repeat first|assumption|exact m0|apply m1) ?_|refine .rdpc (by repeat first|assumption|exact m0|apply m1) ?_) (fun _ => rfl) ?_
    intro _
    refine SL.call (bytes_s (d := sha k) (sha_length _)) Casts.refl (by kernel_rfl) rfl rfl rfl ?_
    refine After.pure (by repeat first|exact .nil|refine .blk (by repeat first|assumption|exact m0|apply m1) ?_|refine .rd (by repeat first|assumption|exact m0|apply m1) ?_|refine .pc (by repeat first|assumption|exact m0|apply m1) ?_|refine .rdpc (by repeat first|assumption|exact m0|apply m1) ?_) (fun _ => rfl) ?_
    intro _
    refine SL.val (Val.to (C := byt (keyN k)) (Val.assign rfl) (congrArg byt (if_pos (by omega)).symm)) rfl rfl ?_
    refine SL.nil ?_
    refine SE.meet (()) (trivial) (by exact ⟨rfl, rfl, trivial⟩) (by repeat first|exact s0 _|exact s1 _|apply s2|apply s3)
  · intro z0 hz0
    have hkn := keyN_le k
    refine SC.seq (SC.region ?_)
    refine SL.val (Val.assign rfl) rfl rfl ?_
    refine SL.nil (SE.seq ?_)
    refine SC.seq ?_
    refine SC.seq (SC.region ?_)
    refine SL.val (Val.assign rfl) rfl rfl ?_
    refine SL.nil (SE.seq ?_)
    refine SC.block ?_
    refine SC.own0 5 1 ?_
    refine SC.loop (ι := Nat × Value) (fun z => [own 5 1 z.2 (bs ((padK k x).take z.1))]) (fun z => [(0, byt (keyN k)), (1, .v (bc x)), (5, .v z.2), (6, int (z.1 : Nat))]) (fun z => z.1 ≤ 64) (fun z => 64 - z.1) (0, .slice none 0 0) (by decide) (by exact ⟨rfl, rfl, rfl, rfl, trivial⟩) (by repeat first|exact s0 _|exact s1 _|apply s2|apply s3) ?_
    intro z hz
    refine SC.seq ?_
    refine SC.seq (SC.region ?_)
    refine SL.val (Val.move rfl) rfl rfl ?_
    refine SL.val (Val.ltI rfl rfl) rfl rfl ?_
    refine SL.nil (SE.seq ?_)
    refine SC.condP rfl ?_ ?_
    rotate_left
    · intro hc15
      refine SC.exit ?_
      refine SE.then_ (by intro h; cases h) ?_
      refine SE.then_ (by intro h; cases h) ?_
      refine SE.exit ?_
      refine SE.seq ?_
      refine SC.seq (SC.region ?_)
      refine SL.val (Val.move rfl) rfl rfl ?_
      refine SL.val (Val.assign rfl) rfl rfl ?_
      refine SL.nil (SE.seq ?_)
      refine SC.ret ?_
      have hz1 : z.1 = 64 := by omega
      rw [hz1, List.take_of_length_le (by rw [padK_length]; exact Nat.le_refl 64)]
      refine SE.fin (rs := [.tmp 4]) rfl (RV.tmp rfl RV.nil) (z.2) (by repeat first|exact s0 _|exact s1 _|apply s2|apply s3) (by simp [It.rids]) ?_
      exact rfl
    intro hc15
    refine SC.skip ?_
    refine SE.seq ?_
    refine SC.seq ?_
    refine SC.block ?_
    refine SC.seq (SC.region ?_)
    refine SL.val (Val.assign rfl) rfl rfl ?_
    refine SL.nil (SE.seq ?_)
    refine SC.seq ?_
    refine SC.seq (SC.region ?_)
    refine SL.val (Val.move rfl) rfl rfl ?_
    refine SL.val (Val.move rfl) rfl rfl ?_
    first
      | refine SL.val (Val.lenSl rfl Try.underlying34 (List.length_map _)) rfl rfl ?_
      | refine SL.val (Val.lenOwn rfl (by repeat first|assumption|exact m0|apply m1) Try.underlying34 (List.length_map _)) rfl rfl ?_
      | refine SL.val (Val.lenNil rfl Try.underlying34) rfl rfl ?_
    refine SL.val (Val.ltI rfl rfl) rfl rfl ?_
    refine SL.nil (SE.seq ?_)
    refine SC.condP rfl ?_ ?_
    rotate_left
    · intro hc21
      refine SC.skip ?_
      refine SE.seq ?_
      refine SC.region ?_
      refine SL.val (Val.move rfl) rfl rfl ?_
      refine SL.val (Val.move rfl) rfl rfl ?_
      refine SL.val (Val.move rfl) rfl rfl ?_
      first
        | refine SL.val (Val.xor8 (c := (keyN k).getD z.1 0) (f := x) rfl rfl) rfl rfl ?_
        | refine SL.val (Val.xor8 (c := 0) (f := x) rfl rfl) rfl rfl ?_
      refine SL.eff (Eff.buildSl tabOk Try.underlying34 rfl rfl rfl rfl rfl rfl rfl) rfl rfl ?_
      rintro _ _ ⟨rfl, rfl⟩
      refine SL.eff (Eff.appendE (zs := bs ((padK k x).take (z.1 + 1))) tabOk [] (by first | exact padT (by omega) (by omega) | exact padF (by omega) (by omega)) Try.underlying34 rfl rfl rfl rfl rfl rfl (by intro c hc; rw [List.mem_singleton] at hc; subst hc; rfl) (by unfold maxLen; simp only [bs, List.length_map, List.length_append, List.length_cons, List.length_nil, List.length_replicate, List.length_drop, List.length_take, padK_length, sha_length, twoB_length]; omega) (by rw [show Try.prog.bytesOf 5 = 1 by kernel_rfl]; simp only [bs, List.length_map, List.length_append, List.length_cons, List.length_nil, List.length_replicate, List.length_drop, List.length_take, padK_length, sha_length, twoB_length]; omega)) rfl rfl ?_
      rintro _ _ ⟨r31, rfl, rfl⟩
      refine SL.val (Val.assign rfl) rfl rfl ?_
      refine SL.nil ?_
      refine SE.inBlock ?_
      refine SE.seq ?_
      refine SC.region ?_
      refine SL.val (Val.move rfl) rfl rfl ?_
      first
        | refine SL.val (Val.addI rfl rfl (by simp only [InR, lo, hi]; omega)) rfl rfl ?_
        | refine SL.val (Val.addW rfl rfl) rfl rfl ?_
      refine SL.val (Val.assign rfl) rfl rfl ?_
      refine SL.nil ?_
      refine SE.round (z.1 + 1, r31) (by first | omega | (dsimp only; omega)) (by first | omega | (dsimp only; omega)) (by exact ⟨rfl, rfl, rfl, rfl, trivial⟩) (by repeat first|exact s0 _|exact s1 _|apply s2|apply s3)
    intro hc21
    refine SC.region ?_
    refine SL.val (Val.move rfl) rfl rfl ?_
    refine SL.val (Val.move rfl) rfl rfl ?_
    refine SL.val (Val.indexSl (q := z.1) tabOk Try.underlying34 rfl rfl rfl (by omega) (byt_get (by omega)) rfl rfl) rfl rfl ?_
    refine SL.val (Val.load1R tabOk rfl rfl rfl) rfl rfl ?_
    refine SL.val (Val.assign rfl) rfl rfl ?_
    refine SL.nil (SE.seq ?_)
    refine SC.region ?_
    refine SL.val (Val.move rfl) rfl rfl ?_
    refine SL.val (Val.move rfl) rfl rfl ?_
    refine SL.val (Val.move rfl) rfl rfl ?_
    first
      | refine SL.val (Val.xor8 (c := (keyN k).getD z.1 0) (f := x) rfl rfl) rfl rfl ?_
      | refine SL.val (Val.xor8 (c := 0) (f := x) rfl rfl) rfl rfl ?_
    refine SL.eff (Eff.buildSl tabOk Try.underlying34 rfl rfl rfl rfl rfl rfl rfl) rfl rfl ?_
    rintro _ _ ⟨rfl, rfl⟩
    refine SL.eff (Eff.appendE (zs := bs ((padK k x).take (z.1 + 1))) tabOk [] (by first | exact padT (by omega) (by omega) | exact padF (by omega) (by omega)) Try.underlying34 rfl rfl rfl rfl rfl rfl (by intro c hc; rw [List.mem_singleton] at hc; subst hc; rfl) (by unfold maxLen; simp only [bs, List.length_map, List.length_append, List.length_cons, List.length_nil, List.length_replicate, List.length_drop, List.length_take, padK_length, sha_length, twoB_length]; omega) (by rw [show Try.prog.bytesOf 5 = 1 by kernel_rfl]; simp only [bs, List.length_map, List.length_append, List.length_cons, List.length_nil, List.length_replicate, List.length_drop, List.length_take, padK_length, sha_length, twoB_length]; omega)) rfl rfl ?_
    rintro _ _ ⟨r31, rfl, rfl⟩
    refine SL.val (Val.assign rfl) rfl rfl ?_
    refine SL.nil ?_
    refine SE.inBlock ?_
    refine SE.seq ?_
    refine SC.region ?_
    refine SL.val (Val.move rfl) rfl rfl ?_
    first
      | refine SL.val (Val.addI rfl rfl (by simp only [InR, lo, hi]; omega)) rfl rfl ?_
      | refine SL.val (Val.addW rfl rfl) rfl rfl ?_
    refine SL.val (Val.assign rfl) rfl rfl ?_
    refine SL.nil ?_
    refine SE.round (z.1 + 1, r31) (by first | omega | (dsimp only; omega)) (by first | omega | (dsimp only; omega)) (by exact ⟨rfl, rfl, rfl, rfl, trivial⟩) (by repeat first|exact s0 _|exact s1 _|apply s2|apply s3)
set_option maxHeartbeats 1000000 in
theorem dmac_s (hk : k.length ≤ 1000000) (hl : l.length ≤ 1000000) : Spec Try.prog 157 [byt k, byt l] [] (fun _ : Unit => []) (fun _ => .agg (digA (hmac k l))) := by
  refine spec_of Try.func157 rfl Try.ntmps157 rfl fun G w => ?_
  refine SC.seq (SC.region ?_)
  refine SL.eff (Eff.alloc tabOk rfl) rfl rfl ?_
  rintro _ _ ⟨b4, rfl, rfl⟩
  refine SL.nil (SE.seq ?_)
  refine SC.seq (SC.region ?_)
  refine SL.val (Val.move rfl) rfl rfl ?_
  refine SL.call (with_s (k := k) (x := 54) hk) Casts.refl (by kernel_rfl) rfl rfl rfl ?_
  refine After.make (by repeat first|exact .nil|refine .blk (by repeat first|assumption|exact m0|apply m1) ?_|refine .rd (by repeat first|assumption|exact m0|apply m1) ?_|refine .pc (by repeat first|assumption|exact m0|apply m1) ?_|refine .rdpc (by repeat first|assumption|exact m0|apply m1) ?_) (fun _ => rfl) ?_
  intro r7
  refine SL.val (Val.move rfl) rfl rfl ?_
  refine SL.eff (Eff.appendE (zs := bs (padK k 54 ++ l)) tabOk [] (List.map_append.symm) Try.underlying34 rfl rfl rfl rfl rfl rfl (bs_ones _) (by unfold maxLen; simp only [bs, List.length_map, List.length_append, List.length_cons, List.length_nil, List.length_replicate, List.length_drop, List.length_take, padK_length, sha_length, twoB_length]; omega) (by rw [show Try.prog.bytesOf 5 = 1 by kernel_rfl]; simp only [bs, List.length_map, List.length_append, List.length_cons, List.length_nil, List.length_replicate, List.length_drop, List.length_take, padK_length, sha_length, twoB_length]; omega)) rfl rfl ?_
  rintro _ _ ⟨r9, rfl, rfl⟩
  refine SL.freeze [] (t := 9) rfl rfl ?_
  refine SL.call (dsum_s (l := padK k 54 ++ l) (by rw [List.length_append, padK_length]; omega)) Casts.refl (by kernel_rfl) rfl rfl rfl ?_
  refine After.pure (by repeat first|exact .nil|refine .blk (by repeat first|assumption|exact m0|apply m1) ?_|refine .rd (by repeat first|assumption|exact m0|apply m1) ?_|refine .pc (by repeat first|assumption|exact m0|apply m1) ?_|refine .rdpc (by repeat first|assumption|exact m0|apply m1) ?_) (fun _ => rfl) ?_
  intro _
  refine SL.eff (Eff.alloc tabOk rfl) rfl rfl ?_
  rintro _ _ ⟨b5, rfl, rfl⟩
  refine SL.eff (Eff.store (L' := digA (sha (padK k 54 ++ l))) tabOk rfl rfl rfl (by repeat first|assumption|exact Upd.here|apply Upd.there) (dig_out _ (by omega)) (Nat.le_of_ble_eq_true (by rfl)) (by exact ones_dig _) (putL_whole (by exact (dig_out _ (by omega))))) rfl rfl ?_
  rintro _ _ ⟨rfl, rfl⟩
  refine SL.nil (SE.seq ?_)
  refine SC.seq ?_
  refine SC.drawZ [] (.q 0 (.q 2 (.e 1 (.e 3 (.e 4 (.e 5 .nil)))))) (by kernel_rfl) (by kernel_rfl) ?_
  refine SX.val rfl (Val.move rfl) (by simp) rfl rfl ?_
  refine SX.val rfl (Val.loadA tabOk rfl rfl rfl (by first|(apply Or.inl;(repeat first|assumption|exact m0|apply m1);done)|(apply Or.inr;(repeat first|assumption|exact m0|apply m1);done)) List.not_mem_nil (dig_out _ (by omega))) (by first|(simp[mids,It.mids,ownPc];done)|(intro k hk;simp[mids,It.mids,ownPc] at hk ⊢;grind)) rfl rfl ?_
  refine SX.callM rfl (with_s (k := k) (x := 92) hk) (by simp [mids, It.mids]) Casts.refl (by kernel_rfl) rfl rfl rfl ?_
  refine After.make (by repeat first|exact .nil|refine .blk (by repeat first|assumption|exact m0|apply m1) ?_|refine .rd (by repeat first|assumption|exact m0|apply m1) ?_|refine .pc (by repeat first|assumption|exact m0|apply m1) ?_|refine .rdpc (by repeat first|assumption|exact m0|apply m1) ?_) (fun _ => rfl) ?_
  intro r12
  refine SX.call rfl (bytes_s (d := sha (padK k 54 ++ l)) (sha_length _)) (by simp [mids, It.mids]) Casts.refl (by kernel_rfl) rfl rfl rfl ?_
  refine After.pure (by repeat first|exact .nil|refine .blk (by repeat first|assumption|exact m0|apply m1) ?_|refine .rd (by repeat first|assumption|exact m0|apply m1) ?_|refine .pc (by repeat first|assumption|exact m0|apply m1) ?_|refine .rdpc (by repeat first|assumption|exact m0|apply m1) ?_) (fun _ => rfl) ?_
  intro _
  refine SX.effX [] rfl (Eff.appendE (zs := bs (padK k 92 ++ sha (padK k 54 ++ l))) tabOk [] (List.map_append.symm) Try.underlying34 rfl rfl rfl rfl rfl rfl (bs_ones _) (by unfold maxLen; simp only [bs, List.length_map, List.length_append, List.length_cons, List.length_nil, List.length_replicate, List.length_drop, List.length_take, padK_length, sha_length, twoB_length]; omega) (by rw [show Try.prog.bytesOf 5 = 1 by kernel_rfl]; simp only [bs, List.length_map, List.length_append, List.length_cons, List.length_nil, List.length_replicate, List.length_drop, List.length_take, padK_length, sha_length, twoB_length]; omega)) (fun k hk => by simpa [mids, It.mids, ownPc] using hk) (by simp) rfl rfl ?_
  rintro _ _ ⟨r15, rfl, rfl⟩
  refine SX.freeze [] (t := 15) rfl rfl ?_
  refine SX.call rfl (dsum_s (l := padK k 92 ++ sha (padK k 54 ++ l)) (by rw [List.length_append, padK_length, sha_length]; omega)) (by simp [mids, It.mids]) Casts.refl (by kernel_rfl) rfl rfl rfl ?_
  refine After.pure (by repeat first|exact .nil|refine .blk (by repeat first|assumption|exact m0|apply m1) ?_|refine .rd (by repeat first|assumption|exact m0|apply m1) ?_|refine .pc (by repeat first|assumption|exact m0|apply m1) ?_|refine .rdpc (by repeat first|assumption|exact m0|apply m1) ?_) (fun _ => rfl) ?_
  intro _
  refine SX.nil ?_
  refine SE.effZ rfl (Eff.store (L' := digA (hmac k l)) tabOk rfl rfl rfl (by repeat first|assumption|exact Upd.here|apply Upd.there) (dig_out _ (by omega)) (Nat.le_of_ble_eq_true (by rfl)) (by exact ones_dig _) (putL_whole (by exact (dig_out _ (by omega))))) rfl rfl ?_
  rintro _ _ ⟨rfl, rfl⟩
  refine SE.seq ?_
  refine SC.ret ?_
  refine SE.fin (rs := [.cell 4 120]) rfl (RV.cell rfl (RV.cellA tabOk rfl rfl (by first|(apply Or.inl;(repeat first|assumption|exact m0|apply m1);done)|(apply Or.inr;(repeat first|assumption|exact m0|apply m1);done)) (dig_out _ (by omega))) RV.nil) (()) (by repeat first|exact s0 _|exact s1 _|apply s2|apply s3) (by simp [It.rids]) ?_
  exact rfl
end
end Go.Proofs.Ytpgffckfbgfgcaa.A
/-
  Sums: words, the schedule.
-/
set_option maxRecDepth 100000
set_option linter.unusedSimpArgs false
set_option linter.unusedVariables false
namespace Go.Proofs.Ytpgffckfbgfgcaa.A
open Go.RowKit

theorem lsched (l : List UInt8) : (lA (sched l)).length = 64 := by rw [lA_length, sched_length]
section
variable {l : List UInt8} {r : R8}
theorem turn_s {x : Wo} {m : Int} (n : Nat) (hm : m = (n : Nat)) (h : n < 32) : Spec Try.prog 255 [u32 x, int m] [] (fun _ : Unit => []) (fun _ => u32 (rot x n)) := by
  refine spec_of Try.func255 rfl Try.ntmps255 rfl fun G w => ?_
  refine SC.seq (SC.region ?_)
  refine SL.val (Val.assign rfl) rfl rfl ?_
  refine SL.nil (SE.seq ?_)
  refine SC.seq (SC.region ?_)
  refine SL.val (Val.move rfl) rfl rfl ?_
  first
    | refine SL.val (Val.convI rfl Try.underlying256 (by kernel_rfl) (by simp only [InR, lo, hi]; omega)) rfl rfl ?_
    | refine SL.val (Val.convU rfl Try.underlying256 (by kernel_rfl)) rfl rfl ?_
  first
    | refine SL.val (Val.remI rfl rfl (by omega)) rfl rfl ?_
    | refine SL.val (Val.remT rfl rfl (by omega)) rfl rfl ?_
  refine SL.val (Val.assign rfl) rfl rfl ?_
  refine SL.nil (SE.seq ?_)
  refine SC.seq (SC.region ?_)
  refine SL.val (Val.move rfl) rfl rfl ?_
  refine SL.val (Val.move rfl) rfl rfl ?_
  refine SL.val (Val.shrB (m := n) rfl rfl (by first | rfl | omega)) rfl rfl ?_
  refine SL.val (Val.move rfl) rfl rfl ?_
  refine SL.val (Val.move rfl) rfl rfl ?_
  first
    | refine SL.val (Val.subI rfl rfl (by simp only [InR, lo, hi]; omega)) rfl rfl ?_
    | refine SL.val (Val.subW rfl rfl) rfl rfl ?_
  refine SL.val (Val.shlB (m := 32 - n) rfl rfl (by first | rfl | omega)) rfl rfl ?_
  refine SL.val (Val.orW rfl rfl) rfl rfl ?_
  refine SL.val (Val.assign rfl) rfl rfl ?_
  refine SL.nil (SE.seq ?_)
  refine SC.ret ?_
  refine SE.fin (rs := [.tmp 4]) rfl (RV.tmp rfl RV.nil) (()) (by repeat first|exact s0 _|exact s1 _|apply s2|apply s3) (by simp [It.rids]) ?_
  exact rfl
theorem mix_s {x : Wo} {a' b' c' : Int} (a b c : Nat) (ha : a' = (a : Nat)) (hb : b' = (b : Nat)) (hc : c' = (c : Nat)) (h1 : a < 32) (h2 : b < 32) (h3 : c < 32) : Spec Try.prog 219 [u32 x, int a', int b', int c'] [] (fun _ : Unit => []) (fun _ => u32 (mixW x a b c)) := by
  refine spec_of Try.func219 rfl Try.ntmps219 rfl fun G w => ?_
  refine SC.seq (SC.region ?_)
  refine SL.val (Val.assign rfl) rfl rfl ?_
  refine SL.nil (SE.seq ?_)
  refine SC.seq (SC.region ?_)
  refine SL.val (Val.move rfl) rfl rfl ?_
  refine SL.val (Val.move rfl) rfl rfl ?_
  refine SL.call (turn_s a ha h1) Casts.refl (by kernel_rfl) rfl rfl rfl ?_
  refine After.pure (by repeat first|exact .nil|refine .blk (by repeat first|assumption|exact m0|apply m1) ?_|refine .rd (by repeat first|assumption|exact m0|apply m1) ?_|refine .pc (by repeat first|assumption|exact m0|apply m1) ?_|refine .rdpc (by repeat first|assumption|exact m0|apply m1) ?_) (fun _ => rfl) ?_
  intro _
  refine SL.val (Val.move rfl) rfl rfl ?_
  refine SL.val (Val.move rfl) rfl rfl ?_
  refine SL.call (turn_s b hb h2) Casts.refl (by kernel_rfl) rfl rfl rfl ?_
  refine After.pure (by repeat first|exact .nil|refine .blk (by repeat first|assumption|exact m0|apply m1) ?_|refine .rd (by repeat first|assumption|exact m0|apply m1) ?_|refine .pc (by repeat first|assumption|exact m0|apply m1) ?_|refine .rdpc (by repeat first|assumption|exact m0|apply m1) ?_) (fun _ => rfl) ?_
  intro _
  refine SL.val (Val.xorW rfl rfl) rfl rfl ?_
  refine SL.val (Val.move rfl) rfl rfl ?_
  refine SL.val (Val.move rfl) rfl rfl ?_
  refine SL.call (turn_s c hc h3) Casts.refl (by kernel_rfl) rfl rfl rfl ?_
  refine After.pure (by repeat first|exact .nil|refine .blk (by repeat first|assumption|exact m0|apply m1) ?_|refine .rd (by repeat first|assumption|exact m0|apply m1) ?_|refine .pc (by repeat first|assumption|exact m0|apply m1) ?_|refine .rdpc (by repeat first|assumption|exact m0|apply m1) ?_) (fun _ => rfl) ?_
  intro _
  refine SL.val (Val.xorW rfl rfl) rfl rfl ?_
  refine SL.val (Val.assign rfl) rfl rfl ?_
  refine SL.nil (SE.seq ?_)
  refine SC.ret ?_
  refine SE.fin (rs := [.tmp 8]) rfl (RV.tmp rfl RV.nil) (()) (by repeat first|exact s0 _|exact s1 _|apply s2|apply s3) (by simp [It.rids]) ?_
  exact rfl
theorem first_s  : Spec Try.prog 171 [] [] (fun _ : Unit => []) (fun _ => .agg (lA firstR.l)) := by
  refine spec_of Try.func171 rfl Try.ntmps171 rfl fun G w => ?_
  refine SC.seq (SC.region ?_)
  refine SL.eff (Eff.alloc tabOk rfl) rfl rfl ?_
  rintro _ _ ⟨b0, rfl, rfl⟩
  refine SL.nil (SE.seq ?_)
  refine SC.seq (SC.region ?_)
  refine SL.val (Val.buildA tabOk rfl rfl rfl rfl) rfl rfl ?_
  refine SL.eff (Eff.store tabOk rfl rfl rfl (by repeat first|assumption|exact Upd.here|apply Upd.there) (by rfl) (Nat.le_of_ble_eq_true (by rfl)) (by rfl) (by rfl)) rfl rfl ?_
  rintro _ _ ⟨rfl, rfl⟩
  refine SL.nil (SE.seq ?_)
  refine SC.ret ?_
  refine SE.fin (rs := [.cell 0 258]) rfl (RV.cell rfl (RV.cellA tabOk rfl rfl (by first|(apply Or.inl;(repeat first|assumption|exact m0|apply m1);done)|(apply Or.inr;(repeat first|assumption|exact m0|apply m1);done)) (by rfl)) RV.nil) (()) (by repeat first|exact s0 _|exact s1 _|apply s2|apply s3) (by simp [It.rids]) ?_
  exact rfl
theorem rounds_s  : Spec Try.prog 217 [] [] (fun _ : Unit => []) (fun _ => .agg (lA roundsL)) := by
  refine spec_of Try.func217 rfl Try.ntmps217 rfl fun G w => ?_
  refine SC.seq (SC.region ?_)
  refine SL.eff (Eff.alloc tabOk rfl) rfl rfl ?_
  rintro _ _ ⟨b0, rfl, rfl⟩
  refine SL.nil (SE.seq ?_)
  refine SC.seq (SC.region ?_)
  refine SL.val (Val.buildA tabOk rfl rfl rfl rfl) rfl rfl ?_
  refine SL.eff (Eff.store tabOk rfl rfl rfl (by repeat first|assumption|exact Upd.here|apply Upd.there) (by rfl) (Nat.le_of_ble_eq_true (by rfl)) (by rfl) (by rfl)) rfl rfl ?_
  rintro _ _ ⟨rfl, rfl⟩
  refine SL.nil (SE.seq ?_)
  refine SC.ret ?_
  refine SE.fin (rs := [.cell 0 309]) rfl (RV.cell rfl (RV.cellA tabOk rfl rfl (by first|(apply Or.inl;(repeat first|assumption|exact m0|apply m1);done)|(apply Or.inr;(repeat first|assumption|exact m0|apply m1);done)) (by rfl)) RV.nil) (()) (by repeat first|exact s0 _|exact s1 _|apply s2|apply s3) (by simp [It.rids]) ?_
  exact rfl
set_option maxHeartbeats 2000000 in
theorem schedule_s (h : 64 ≤ l.length) (hl : l.length ≤ 4611686018427387904) : Spec Try.prog 218 [byt l] [] (fun _ : Unit => []) (fun _ => .agg (lA (sched l))) := by
  refine spec_of Try.func218 rfl Try.ntmps218 rfl fun G w => ?_
  refine SC.seq (SC.region ?_)
  refine SL.eff (Eff.alloc tabOk rfl) rfl rfl ?_
  rintro _ _ ⟨b2, rfl, rfl⟩
  refine SL.nil (SE.seq ?_)
  refine SC.seq (SC.region ?_)
  refine SL.eff (Eff.alloc tabOk rfl) rfl rfl ?_
  rintro _ _ ⟨b3, rfl, rfl⟩
  refine SL.nil (SE.seq ?_)
  refine SC.seq ?_
  refine SC.seq (SC.region ?_)
  refine SL.val (Val.move rfl) rfl rfl ?_
  refine SL.nil (SE.seq ?_)
  refine SC.block ?_
  refine SC.loop (ι := Nat) (fun z => [.blk b3 309 (lA (sched0 l z ++ List.replicate (64 - z) 0)), .blk b2 309 (lA (List.replicate 64 0))]) (fun z => [(0, byt l), (2, ptr b2), (3, ptr b3), (9, int (z : Nat))]) (fun z => z ≤ 16) (fun z => 16 - z) (0) (by decide) (by exact ⟨rfl, rfl, rfl, rfl, trivial⟩) (by repeat first|exact s0 _|exact s1 _|apply s2|apply s3) ?_
  intro z hz
  refine SC.seq (SC.region ?_)
  refine SL.val (Val.ltI rfl rfl) rfl rfl ?_
  refine SL.nil (SE.seq ?_)
  refine SC.seq ?_
  refine SC.condP rfl ?_ ?_
  · intro hc10
    refine SC.skip ?_
    refine SE.seq ?_
    refine SC.seq ?_
    refine SC.block ?_
    refine SC.seq (SC.region ?_)
    refine SL.val (Val.move rfl) rfl rfl ?_
    refine SL.val (Val.assign rfl) rfl rfl ?_
    refine SL.nil (SE.seq ?_)
    refine SC.seq (SC.region ?_)
    refine SL.val (Val.move rfl) rfl rfl ?_
    refine SL.val (Val.move rfl) rfl rfl ?_
    first
      | refine SL.val (Val.mulI rfl rfl (by simp only [InR, lo, hi]; omega)) rfl rfl ?_
      | refine SL.val (Val.mulW rfl rfl) rfl rfl ?_
    refine SL.val (Val.to (Val.sliceLo (q := 4 * z) tabOk Try.underlying34 rfl rfl rfl rfl (by omega) (by rw [List.length_map]; omega)) (congrArg (Abs.sl 1) List.map_drop.symm)) rfl rfl ?_
    refine SL.val (Val.assign rfl) rfl rfl ?_
    refine SL.nil (SE.seq ?_)
    refine SC.drawZ [] (.q 0 (.q 1 (.q 2 (.q 3 (.q 4 (.q 5 (.q 6 (.q 7 (.q 8 (.q 9 (.q 10 (.q 11 (.q 12 (.q 13 (.q 14 (.q 15 (.q 16 (.q 17 (.q 18 (.q 19 (.q 20 (.q 21 (.q 22 (.q 23 .nil)))))))))))))))))))))))) (by kernel_rfl) (by kernel_rfl) ?_
    refine SX.val rfl (Val.move rfl) (by simp) rfl rfl ?_
    refine SX.val rfl (Val.move rfl) (by simp) rfl rfl ?_
    refine SX.val rfl (Val.indexSl (q := 0) tabOk Try.underlying34 rfl rfl rfl rfl (byt_at (by omega)) rfl rfl) (by first|(simp[mids,It.mids,ownPc];done)|(intro k hk;simp[mids,It.mids,ownPc] at hk ⊢;grind)) rfl rfl ?_
    refine SX.val rfl (Val.load1R tabOk rfl rfl rfl) (by simp) rfl rfl ?_
    refine SX.val rfl (Val.conv8 rfl Try.underlying148 (by kernel_rfl)) (by first|(simp[mids,It.mids,ownPc];done)|(intro k hk;simp[mids,It.mids,ownPc] at hk ⊢;grind)) rfl rfl ?_
    refine SX.val rfl (Val.shlB (m := 24) rfl rfl (by first | rfl | omega)) (by first|(simp[mids,It.mids,ownPc];done)|(intro k hk;simp[mids,It.mids,ownPc] at hk ⊢;grind)) rfl rfl ?_
    refine SX.val rfl (Val.move rfl) (by simp) rfl rfl ?_
    refine SX.val rfl (Val.indexSl (q := 1) tabOk Try.underlying34 rfl rfl rfl rfl (byt_at (by omega)) rfl rfl) (by first|(simp[mids,It.mids,ownPc];done)|(intro k hk;simp[mids,It.mids,ownPc] at hk ⊢;grind)) rfl rfl ?_
    refine SX.val rfl (Val.load1R tabOk rfl rfl rfl) (by simp) rfl rfl ?_
    refine SX.val rfl (Val.conv8 rfl Try.underlying148 (by kernel_rfl)) (by first|(simp[mids,It.mids,ownPc];done)|(intro k hk;simp[mids,It.mids,ownPc] at hk ⊢;grind)) rfl rfl ?_
    refine SX.val rfl (Val.shlB (m := 16) rfl rfl (by first | rfl | omega)) (by first|(simp[mids,It.mids,ownPc];done)|(intro k hk;simp[mids,It.mids,ownPc] at hk ⊢;grind)) rfl rfl ?_
    refine SX.val rfl (Val.orW rfl rfl) (by first|(simp[mids,It.mids,ownPc];done)|(intro k hk;simp[mids,It.mids,ownPc] at hk ⊢;grind)) rfl rfl ?_
    refine SX.val rfl (Val.move rfl) (by simp) rfl rfl ?_
    refine SX.val rfl (Val.indexSl (q := 2) tabOk Try.underlying34 rfl rfl rfl rfl (byt_at (by omega)) rfl rfl) (by first|(simp[mids,It.mids,ownPc];done)|(intro k hk;simp[mids,It.mids,ownPc] at hk ⊢;grind)) rfl rfl ?_
    refine SX.val rfl (Val.load1R tabOk rfl rfl rfl) (by simp) rfl rfl ?_
    refine SX.val rfl (Val.conv8 rfl Try.underlying148 (by kernel_rfl)) (by first|(simp[mids,It.mids,ownPc];done)|(intro k hk;simp[mids,It.mids,ownPc] at hk ⊢;grind)) rfl rfl ?_
    refine SX.val rfl (Val.shlB (m := 8) rfl rfl (by first | rfl | omega)) (by first|(simp[mids,It.mids,ownPc];done)|(intro k hk;simp[mids,It.mids,ownPc] at hk ⊢;grind)) rfl rfl ?_
    refine SX.val rfl (Val.orW rfl rfl) (by first|(simp[mids,It.mids,ownPc];done)|(intro k hk;simp[mids,It.mids,ownPc] at hk ⊢;grind)) rfl rfl ?_
    refine SX.val rfl (Val.move rfl) (by simp) rfl rfl ?_
    refine SX.val rfl (Val.indexSl (q := 3) tabOk Try.underlying34 rfl rfl rfl rfl (byt_at (by omega)) rfl rfl) (by first|(simp[mids,It.mids,ownPc];done)|(intro k hk;simp[mids,It.mids,ownPc] at hk ⊢;grind)) rfl rfl ?_
    refine SX.val rfl (Val.load1R tabOk rfl rfl rfl) (by simp) rfl rfl ?_
    refine SX.val rfl (Val.conv8 rfl Try.underlying148 (by kernel_rfl)) (by first|(simp[mids,It.mids,ownPc];done)|(intro k hk;simp[mids,It.mids,ownPc] at hk ⊢;grind)) rfl rfl ?_
    refine SX.val rfl (Val.orW rfl rfl) (by first|(simp[mids,It.mids,ownPc];done)|(intro k hk;simp[mids,It.mids,ownPc] at hk ⊢;grind)) rfl rfl ?_
    refine SX.val rfl (Val.indexArP (q := z) tabOk Try.underlying309 rfl rfl rfl (by first | rfl | omega) (by omega) rfl) (by first|(simp[mids,It.mids,ownPc];done)|(intro k hk;simp[mids,It.mids,ownPc] at hk ⊢;grind)) rfl rfl ?_
    refine SX.nil ?_
    refine SE.effZ rfl (Eff.store (L' := lA (sched0 l (z + 1) ++ List.replicate (64 - (z + 1)) 0)) tabOk rfl rfl rfl (by repeat first|assumption|exact Upd.here|apply Upd.there) (by rfl) (by simp only [lA_length, List.length_append, List.length_replicate, List.length_set, grow_length, sched0_length]; omega) (by rfl) (lA_put' (by simp [sched0_length]; omega) (set_next' (sched0_length l z) (by omega) (sched0_succ l z)))) rfl rfl ?_
    rintro _ _ ⟨rfl, rfl⟩
    refine SE.inBlock ?_
    refine SE.seq ?_
    refine SC.region ?_
    first
      | refine SL.val (Val.addI rfl rfl (by simp only [InR, lo, hi]; omega)) rfl rfl ?_
      | refine SL.val (Val.addW rfl rfl) rfl rfl ?_
    refine SL.val (Val.move rfl) rfl rfl ?_
    refine SL.nil ?_
    refine SE.round (z + 1) (by first | omega | (dsimp only; omega)) (by first | omega | (dsimp only; omega)) (by exact ⟨rfl, rfl, rfl, rfl, trivial⟩) (by repeat first|exact s0 _|exact s1 _|apply s2|apply s3)
  intro hc10
  refine SC.exit ?_
  refine SE.then_ (by intro h; cases h) ?_
  refine SE.then_ (by intro h; cases h) ?_
  refine SE.exit ?_
  refine SE.seq ?_
  refine SC.seq ?_
  refine SC.seq (SC.region ?_)
  refine SL.val (Val.assign rfl) rfl rfl ?_
  refine SL.nil (SE.seq ?_)
  refine SC.block ?_
  obtain rfl : z = 16 := by omega
  refine SC.loop (ι := Nat) (fun z => [.blk b3 309 (lA (grow (sched0 l 16) z ++ List.replicate (48 - z) 0)), .blk b2 309 (lA (List.replicate 64 0))]) (fun z => [(0, byt l), (2, ptr b2), (3, ptr b3), (6, int (16 + (z : Nat)))]) (fun z => z ≤ 48) (fun z => 48 - z) (0) (by decide) (by exact ⟨rfl, rfl, rfl, rfl, trivial⟩) (by repeat first|exact s0 _|exact s1 _|apply s2|apply s3) ?_
  intro z hz
  refine SC.seq ?_
  refine SC.seq (SC.region ?_)
  refine SL.val (Val.move rfl) rfl rfl ?_
  refine SL.val (Val.ltI rfl rfl) rfl rfl ?_
  refine SL.nil (SE.seq ?_)
  refine SC.condP rfl ?_ ?_
  rotate_left
  · intro hc42
    refine SC.exit ?_
    refine SE.then_ (by intro h; cases h) ?_
    refine SE.then_ (by intro h; cases h) ?_
    refine SE.exit ?_
    refine SE.seq ?_
    refine SC.seq ?_
    obtain rfl : z = 48 := by omega
    rw [show lA (grow (sched0 l 16) 48 ++ List.replicate (48 - 48) 0) = lA (sched l) by simp [sched]]
    refine SC.region ?_
    refine SL.val (Val.loadA tabOk rfl rfl rfl (by first|(apply Or.inl;(repeat first|assumption|exact m0|apply m1);done)|(apply Or.inr;(repeat first|assumption|exact m0|apply m1);done)) List.not_mem_nil (lsched l)) rfl rfl ?_
    refine SL.eff (Eff.store (L' := lA (sched l)) tabOk rfl rfl rfl (by repeat first|assumption|exact Upd.here|apply Upd.there) (lsched l) (Nat.le_of_ble_eq_true (by rfl)) (ones_lA _) (putL_whole (by exact lsched l))) rfl rfl ?_
    rintro _ _ ⟨rfl, rfl⟩
    refine SL.nil (SE.seq ?_)
    refine SC.ret ?_
    refine SE.fin (rs := [.cell 2 309]) rfl (RV.cell rfl (RV.cellA tabOk rfl rfl (by first|(apply Or.inl;(repeat first|assumption|exact m0|apply m1);done)|(apply Or.inr;(repeat first|assumption|exact m0|apply m1);done)) (lsched l)) RV.nil) (()) (by repeat first|exact s0 _|exact s1 _|apply s2|apply s3) (by simp [It.rids]) ?_
    exact rfl
  intro hc42
  refine SC.skip ?_
  refine SE.seq ?_
  refine SC.seq ?_
  refine SC.block ?_
  refine SC.seq ?_
  refine SC.draw [] (.q 0 (.q 1 (.q 2 (.q 3 (.q 4 (.q 5 (.q 6 (.q 7 (.q 8 (.q 9 .nil)))))))))) (by kernel_rfl) (by kernel_rfl) ?_
  refine SX.val rfl (Val.move rfl) (by simp) rfl rfl ?_
  first
    | refine SX.val rfl (Val.subI rfl rfl (by simp only [InR, lo, hi]; omega)) (by simp) rfl rfl ?_
    | refine SX.val rfl (Val.subW rfl rfl) (by simp) rfl rfl ?_
  refine SX.val rfl (Val.indexArP (q := z + 1) tabOk Try.underlying309 rfl rfl rfl (by first | rfl | omega) (by omega) rfl) (by first|(simp[mids,It.mids,ownPc];done)|(intro k hk;simp[mids,It.mids,ownPc] at hk ⊢;grind)) rfl rfl ?_
  refine SX.val rfl (Val.load1 tabOk rfl rfl (by first|(apply Or.inl;(repeat first|assumption|exact m0|apply m1);done)|(apply Or.inr;(repeat first|assumption|exact m0|apply m1);done)) List.not_mem_nil (lA_at' (by simp only [grow_length, sched0_length]; omega))) (by first|(simp[mids,It.mids,ownPc];done)|(intro k hk;simp[mids,It.mids,ownPc] at hk ⊢;grind)) rfl rfl ?_
  refine SX.val rfl (Val.move rfl) (by simp) rfl rfl ?_
  first
    | refine SX.val rfl (Val.subI rfl rfl (by simp only [InR, lo, hi]; omega)) (by simp) rfl rfl ?_
    | refine SX.val rfl (Val.subW rfl rfl) (by simp) rfl rfl ?_
  refine SX.val rfl (Val.indexArP (q := z + 14) tabOk Try.underlying309 rfl rfl rfl (by first | rfl | omega) (by omega) rfl) (by first|(simp[mids,It.mids,ownPc];done)|(intro k hk;simp[mids,It.mids,ownPc] at hk ⊢;grind)) rfl rfl ?_
  refine SX.val rfl (Val.load1 tabOk rfl rfl (by first|(apply Or.inl;(repeat first|assumption|exact m0|apply m1);done)|(apply Or.inr;(repeat first|assumption|exact m0|apply m1);done)) List.not_mem_nil (lA_at' (by simp only [grow_length, sched0_length]; omega))) (by first|(simp[mids,It.mids,ownPc];done)|(intro k hk;simp[mids,It.mids,ownPc] at hk ⊢;grind)) rfl rfl ?_
  refine SX.val rfl (Val.assign rfl) (by simp) rfl rfl ?_
  refine SX.val rfl (Val.assign rfl) (by simp) rfl rfl ?_
  refine SX.nil (SE.seq ?_)
  refine SC.drawZ [] (.q 0 (.q 1 (.q 2 (.q 3 (.q 4 (.q 5 (.q 7 (.q 10 (.q 11 (.q 14 (.q 15 (.q 16 (.q 17 (.q 19 (.q 21 (.q 24 (.q 25 (.e 6 (.e 8 (.q 9 (.q 12 (.q 13 (.q 18 (.e 20 (.e 22 (.q 23 (.q 26 (.q 27 (.q 28 .nil))))))))))))))))))))))))))))) (by kernel_rfl) (by kernel_rfl) ?_
  refine SX.val rfl (Val.move rfl) (by simp) rfl rfl ?_
  refine SX.val rfl (Val.move rfl) (by simp) rfl rfl ?_
  first
    | refine SX.val rfl (Val.subI rfl rfl (by simp only [InR, lo, hi]; omega)) (by simp) rfl rfl ?_
    | refine SX.val rfl (Val.subW rfl rfl) (by simp) rfl rfl ?_
  refine SX.val rfl (Val.indexArP (q := z) tabOk Try.underlying309 rfl rfl rfl (by first | rfl | omega) (by omega) rfl) (by first|(simp[mids,It.mids,ownPc];done)|(intro k hk;simp[mids,It.mids,ownPc] at hk ⊢;grind)) rfl rfl ?_
  refine SX.val rfl (Val.load1 tabOk rfl rfl (by first|(apply Or.inl;(repeat first|assumption|exact m0|apply m1);done)|(apply Or.inr;(repeat first|assumption|exact m0|apply m1);done)) List.not_mem_nil (lA_at' (by simp only [grow_length, sched0_length]; omega))) (by first|(simp[mids,It.mids,ownPc];done)|(intro k hk;simp[mids,It.mids,ownPc] at hk ⊢;grind)) rfl rfl ?_
  refine SX.val rfl (Val.move rfl) (by simp) rfl rfl ?_
  refine SX.val rfl (Val.move rfl) (by simp) rfl rfl ?_
  refine SX.val rfl (Val.move rfl) (by simp) rfl rfl ?_
  refine SX.val rfl (Val.shrB (m := 3) rfl rfl (by first | rfl | omega)) (by first|(simp[mids,It.mids,ownPc];done)|(intro k hk;simp[mids,It.mids,ownPc] at hk ⊢;grind)) rfl rfl ?_
  refine SX.val rfl (Val.move rfl) (by simp) rfl rfl ?_
  first
    | refine SX.val rfl (Val.subI rfl rfl (by simp only [InR, lo, hi]; omega)) (by simp) rfl rfl ?_
    | refine SX.val rfl (Val.subW rfl rfl) (by simp) rfl rfl ?_
  refine SX.val rfl (Val.indexArP (q := z + 9) tabOk Try.underlying309 rfl rfl rfl (by first | rfl | omega) (by omega) rfl) (by first|(simp[mids,It.mids,ownPc];done)|(intro k hk;simp[mids,It.mids,ownPc] at hk ⊢;grind)) rfl rfl ?_
  refine SX.val rfl (Val.load1 tabOk rfl rfl (by first|(apply Or.inl;(repeat first|assumption|exact m0|apply m1);done)|(apply Or.inr;(repeat first|assumption|exact m0|apply m1);done)) List.not_mem_nil (lA_at' (by simp only [grow_length, sched0_length]; omega))) (by first|(simp[mids,It.mids,ownPc];done)|(intro k hk;simp[mids,It.mids,ownPc] at hk ⊢;grind)) rfl rfl ?_
  refine SX.val rfl (Val.move rfl) (by simp) rfl rfl ?_
  refine SX.val rfl (Val.move rfl) (by simp) rfl rfl ?_
  refine SX.val rfl (Val.move rfl) (by simp) rfl rfl ?_
  refine SX.val rfl (Val.shrB (m := 10) rfl rfl (by first | rfl | omega)) (by first|(simp[mids,It.mids,ownPc];done)|(intro k hk;simp[mids,It.mids,ownPc] at hk ⊢;grind)) rfl rfl ?_
  refine SX.call rfl (turn_s 7 rfl (by decide)) (by simp [mids, It.mids]) Casts.refl (by kernel_rfl) rfl rfl rfl ?_
  refine After.pure (by repeat first|exact .nil|refine .blk (by repeat first|assumption|exact m0|apply m1) ?_|refine .rd (by repeat first|assumption|exact m0|apply m1) ?_|refine .pc (by repeat first|assumption|exact m0|apply m1) ?_|refine .rdpc (by repeat first|assumption|exact m0|apply m1) ?_) (fun _ => rfl) ?_
  intro _
  refine SX.call rfl (turn_s 18 rfl (by decide)) (by simp [mids, It.mids]) Casts.refl (by kernel_rfl) rfl rfl rfl ?_
  refine After.pure (by repeat first|exact .nil|refine .blk (by repeat first|assumption|exact m0|apply m1) ?_|refine .rd (by repeat first|assumption|exact m0|apply m1) ?_|refine .pc (by repeat first|assumption|exact m0|apply m1) ?_|refine .rdpc (by repeat first|assumption|exact m0|apply m1) ?_) (fun _ => rfl) ?_
  intro _
  refine SX.val rfl (Val.xorW rfl rfl) (by first|(simp[mids,It.mids,ownPc];done)|(intro k hk;simp[mids,It.mids,ownPc] at hk ⊢;grind)) rfl rfl ?_
  refine SX.val rfl (Val.xorW rfl rfl) (by first|(simp[mids,It.mids,ownPc];done)|(intro k hk;simp[mids,It.mids,ownPc] at hk ⊢;grind)) rfl rfl ?_
  refine SX.val rfl (Val.sumW rfl rfl) (by first|(simp[mids,It.mids,ownPc];done)|(intro k hk;simp[mids,It.mids,ownPc] at hk ⊢;grind)) rfl rfl ?_
  refine SX.val rfl (Val.sumW rfl rfl) (by first|(simp[mids,It.mids,ownPc];done)|(intro k hk;simp[mids,It.mids,ownPc] at hk ⊢;grind)) rfl rfl ?_
  refine SX.call rfl (turn_s 17 rfl (by decide)) (by simp [mids, It.mids]) Casts.refl (by kernel_rfl) rfl rfl rfl ?_
  refine After.pure (by repeat first|exact .nil|refine .blk (by repeat first|assumption|exact m0|apply m1) ?_|refine .rd (by repeat first|assumption|exact m0|apply m1) ?_|refine .pc (by repeat first|assumption|exact m0|apply m1) ?_|refine .rdpc (by repeat first|assumption|exact m0|apply m1) ?_) (fun _ => rfl) ?_
  intro _
  refine SX.call rfl (turn_s 19 rfl (by decide)) (by simp [mids, It.mids]) Casts.refl (by kernel_rfl) rfl rfl rfl ?_
  refine After.pure (by repeat first|exact .nil|refine .blk (by repeat first|assumption|exact m0|apply m1) ?_|refine .rd (by repeat first|assumption|exact m0|apply m1) ?_|refine .pc (by repeat first|assumption|exact m0|apply m1) ?_|refine .rdpc (by repeat first|assumption|exact m0|apply m1) ?_) (fun _ => rfl) ?_
  intro _
  refine SX.val rfl (Val.xorW rfl rfl) (by first|(simp[mids,It.mids,ownPc];done)|(intro k hk;simp[mids,It.mids,ownPc] at hk ⊢;grind)) rfl rfl ?_
  refine SX.val rfl (Val.xorW rfl rfl) (by first|(simp[mids,It.mids,ownPc];done)|(intro k hk;simp[mids,It.mids,ownPc] at hk ⊢;grind)) rfl rfl ?_
  refine SX.val rfl (Val.sumW rfl rfl) (by first|(simp[mids,It.mids,ownPc];done)|(intro k hk;simp[mids,It.mids,ownPc] at hk ⊢;grind)) rfl rfl ?_
  refine SX.val rfl (Val.indexArP (q := 16 + z) tabOk Try.underlying309 rfl rfl rfl (by first | rfl | omega) (by omega) rfl) (by first|(simp[mids,It.mids,ownPc];done)|(intro k hk;simp[mids,It.mids,ownPc] at hk ⊢;grind)) rfl rfl ?_
  refine SX.nil ?_
  refine SE.effZ rfl (Eff.store (L' := lA (grow (sched0 l 16) (z + 1) ++ List.replicate (48 - (z + 1)) 0)) tabOk rfl rfl rfl (by repeat first|assumption|exact Upd.here|apply Upd.there) (by rfl) (by simp only [lA_length, List.length_append, List.length_replicate, List.length_set, grow_length, sched0_length]; omega) (by rfl) (lA_put' (by simp only [List.length_append, List.length_replicate, grow_length, sched0_length]; omega) (set_next' (by simp only [grow_length, sched0_length]) (by omega) rfl))) rfl rfl ?_
  rintro _ _ ⟨rfl, rfl⟩
  refine SE.inBlock ?_
  refine SE.seq ?_
  refine SC.region ?_
  refine SL.val (Val.move rfl) rfl rfl ?_
  first
    | refine SL.val (Val.addI rfl rfl (by simp only [InR, lo, hi]; omega)) rfl rfl ?_
    | refine SL.val (Val.addW rfl rfl) rfl rfl ?_
  refine SL.val (Val.assign rfl) rfl rfl ?_
  refine SL.nil ?_
  refine SE.round (z + 1) (by first | omega | (dsimp only; omega)) (by first | omega | (dsimp only; omega)) (by exact ⟨rfl, rfl, rfl, rfl, trivial⟩) (by repeat first|exact s0 _|exact s1 _|apply s2|apply s3)
end
end Go.Proofs.Ytpgffckfbgfgcaa.A
