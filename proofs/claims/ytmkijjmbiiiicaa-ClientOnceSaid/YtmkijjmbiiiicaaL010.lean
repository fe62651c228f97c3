/-
  Packed out of the texts: L3, L4, A20, CorEq, Cli, L5.
-/
import Derived.Test.YtmkijjmbiiiicaaL09
import Derived.Lib.AppendZerosOnto
import Derived.Lib.Overlaps
/-
  What clients and replicas send.
-/
set_option maxRecDepth 100000
set_option linter.unusedSimpArgs false
set_option linter.unusedVariables false
namespace Go.Proofs.Ytmkijjmbiiiicaa.A
open Go.RowKit

def chkMI (T : List (ByteArray × Nat)) (m : Msg) (place who : Int) : Int :=
  if place < 0 ∨ (m.tags.length : Int) ≤ place then 12 else
  if ((aget T (sKey m.from_ who (textV m.kind m.body))).isSome && decide (((m.tags[place.toNat]?).map Tg.d).getD [] = numB 255 (pl T (sKey m.from_ who (textV m.kind m.body))))) = true then 0 else 12
section
variable {m : Msg} {r : Rp} {place who k f n a b : Int} {body : List UInt8} {to : List Int} {q bd bt : Nat} {T : List (ByteArray × Nat)}
theorem faults_s (hn : n ≤ 1000) : Spec Try.prog 31 [int n] [] (fun _ : Unit => []) (fun _ => int ((max n 1 - 1) / 3)) := by
  refine spec_of Try.func31 rfl Try.ntmps31 rfl fun G w => ?_
  refine SC.seq (SC.region ?_)
  refine SL.val (Val.assign rfl) rfl rfl ?_
  refine SL.nil (SE.seq ?_)
  refine SC.seq (SC.region ?_)
  refine SL.val (Val.move rfl) rfl rfl ?_
  refine SL.val (Val.maxI rfl rfl) rfl rfl ?_
  first
    | refine SL.val (Val.subI rfl rfl (by simp only [InR, lo, hi]; omega)) rfl rfl ?_
    | refine SL.val (Val.subW rfl rfl) rfl rfl ?_
  refine SL.val (Val.quoI rfl rfl (by omega) (by simp only [InR, lo, hi]; omega)) rfl rfl ?_
  refine SL.val (Val.assign rfl) rfl rfl ?_
  refine SL.nil (SE.seq ?_)
  refine SC.ret ?_
  refine SE.fin (rs := [.tmp 2]) rfl (RV.tmp rfl RV.nil) (()) (by repeat first|exact s0 _|exact s1 _|apply s2|apply s3) (by simp [It.rids]) ?_
  exact rfl
theorem rfaults_s (hn : n ≤ 300) : Spec Try.prog 40 [int n] [] (fun _ : Unit => []) (fun _ => int ((max n 1 - 1) / 3)) := by
  refine spec_of Try.func40 rfl Try.ntmps40 rfl fun G w => ?_
  refine SC.seq (SC.region ?_)
  refine SL.val (Val.assign rfl) rfl rfl ?_
  refine SL.nil (SE.seq ?_)
  refine SC.seq (SC.region ?_)
  refine SL.val (Val.assign rfl) rfl rfl ?_
  refine SL.nil (SE.seq ?_)
  refine SC.seq ?_
  refine SC.block ?_
  refine SC.loop (ι := Nat) (fun z => []) (fun z => [(0, int (n - 3 * (z : Int))), (3, int (z : Nat))]) (fun z => (z : Int) ≤ 100 ∧ (0 < z → 1 ≤ n - 3 * (z : Int))) (fun z => 100 - z) (0) (⟨by decide, by omega⟩) ⟨congrArg (fun q : Int => some (int q)) (by omega : n = n - 3 * ((0 : Nat) : Int)), rfl, trivial⟩ (by repeat first|exact s0 _|exact s1 _|apply s2|apply s3) ?_
  intro z hz
  refine SC.seq ?_
  refine SC.seq (SC.region ?_)
  refine SL.val (Val.move rfl) rfl rfl ?_
  refine SL.val (Val.geI rfl rfl) rfl rfl ?_
  refine SL.nil (SE.seq ?_)
  refine SC.condP rfl ?_ ?_
  rotate_left
  · intro hc5
    refine SC.exit ?_
    refine SE.then_ (by intro h; cases h) ?_
    refine SE.then_ (by intro h; cases h) ?_
    refine SE.exit ?_
    refine SE.seq ?_
    refine SC.seq (SC.region ?_)
    refine SL.val (Val.move rfl) rfl rfl ?_
    refine SL.val (Val.assign rfl) rfl rfl ?_
    refine SL.nil (SE.seq ?_)
    refine SC.ret ?_
    refine SE.fin (rs := [.tmp 2]) rfl (RV.tmp rfl RV.nil) (()) (by repeat first|exact s0 _|exact s1 _|apply s2|apply s3) (by simp [It.rids]) ?_
    refine congrArg int ?_
    omega
  intro hc5
  refine SC.skip ?_
  refine SE.seq ?_
  refine SC.block ?_
  refine SC.seq (SC.region ?_)
  refine SL.val (Val.move rfl) rfl rfl ?_
  first
    | refine SL.val (Val.subI rfl rfl (by simp only [InR, lo, hi]; omega)) rfl rfl ?_
    | refine SL.val (Val.subW rfl rfl) rfl rfl ?_
  refine SL.val (Val.assign rfl) rfl rfl ?_
  refine SL.nil (SE.seq ?_)
  refine SC.seq (SC.region ?_)
  refine SL.val (Val.move rfl) rfl rfl ?_
  first
    | refine SL.val (Val.addI rfl rfl (by simp only [InR, lo, hi]; omega)) rfl rfl ?_
    | refine SL.val (Val.addW rfl rfl) rfl rfl ?_
  refine SL.val (Val.assign rfl) rfl rfl ?_
  refine SL.nil (SE.seq ?_)
  refine SC.seq (SC.region ?_)
  refine SL.val (Val.move rfl) rfl rfl ?_
  refine SL.val (Val.gtI rfl rfl) rfl rfl ?_
  refine SL.nil (SE.seq ?_)
  refine SC.condP rfl (by intro hc11; exfalso; omega) ?_
  intro hc11
  refine SC.skip ?_
  refine SE.inBlock ?_
  refine SE.round (z + 1) (by first | omega | (dsimp only; omega)) (⟨by omega, fun _ => by omega⟩) ⟨congrArg (fun q : Int => some (int q)) (by omega : n - 3 * (z : Int) - 3 = n - 3 * ((z + 1 : Nat) : Int)), rfl, trivial⟩ (by repeat first|exact s0 _|exact s1 _|apply s2|apply s3)
set_option maxHeartbeats 2000000 in
theorem dall_s (hn : n ≤ 7) : Spec Try.prog 36 [int n] [] (fun _ : Unit => []) (fun _ => ints (allN n)) := by
  refine spec_of Try.func36 rfl Try.ntmps36 rfl fun G w => ?_
  refine SC.seq (SC.region ?_)
  refine SL.val (Val.assign rfl) rfl rfl ?_
  refine SL.nil (SE.seq ?_)
  refine SC.seq (SC.region ?_)
  refine SL.val (Val.assign rfl) rfl rfl ?_
  refine SL.nil (SE.seq ?_)
  refine SC.seq ?_
  refine SC.seq (SC.region ?_)
  refine SL.val (Val.assign rfl) rfl rfl ?_
  refine SL.nil (SE.seq ?_)
  refine SC.block ?_
  refine SC.own0 3 1 ?_
  refine SC.loop (ι := Nat × Value) (fun z => [own 3 1 z.2 ((List.range z.1).map fun i : Nat => [int (i : Nat)])]) (fun z => [(0, int n), (3, .v z.2), (4, int (z.1 : Nat))]) (fun z => z.1 ≤ n.toNat) (fun z => n.toNat - z.1) (0, .slice none 0 0) (Nat.zero_le _) (by exact ⟨rfl, rfl, rfl, trivial⟩) (by repeat first|exact s0 _|exact s1 _|apply s2|apply s3) ?_
  intro z hz
  refine SC.seq ?_
  refine SC.seq (SC.region ?_)
  refine SL.val (Val.move rfl) rfl rfl ?_
  refine SL.val (Val.move rfl) rfl rfl ?_
  refine SL.val (Val.ltI rfl rfl) rfl rfl ?_
  refine SL.nil (SE.seq ?_)
  refine SC.condP rfl ?_ ?_
  rotate_left
  · intro hc7
    refine SC.exit ?_
    refine SE.then_ (by intro h; cases h) ?_
    refine SE.then_ (by intro h; cases h) ?_
    refine SE.exit ?_
    refine SE.seq ?_
    refine SC.seq (SC.region ?_)
    refine SL.val (Val.move rfl) rfl rfl ?_
    refine SL.val (Val.assign rfl) rfl rfl ?_
    refine SL.nil (SE.seq ?_)
    refine SC.ret ?_
    refine SE.freeze [] (t := 2) rfl rfl ?_
    refine SE.fin (rs := [.tmp 2]) rfl (RV.tmp rfl RV.nil) (()) (by repeat first|exact s0 _|exact s1 _|apply s2|apply s3) (by simp [It.rids]) ?_
    rw [show z.1 = n.toNat by omega]
    exact ints_all n (by omega)
  intro hc7
  refine SC.skip ?_
  refine SE.seq ?_
  refine SC.seq ?_
  refine SC.block ?_
  refine SC.region ?_
  refine SL.val (Val.move rfl) rfl rfl ?_
  refine SL.val (Val.move rfl) rfl rfl ?_
  refine SL.eff (Eff.buildSl tabOk Try.underlying77 rfl rfl rfl rfl rfl rfl rfl) rfl rfl ?_
  rintro _ _ ⟨rfl, rfl⟩
  refine SL.eff (Eff.appendE (zs := ((List.range (z.1 + 1)).map fun i : Nat => [int (i : Nat)])) tabOk [] (range_snoc z.1) Try.underlying77 rfl rfl rfl rfl rfl rfl (by intro c hc; rw [List.mem_singleton] at hc; subst hc; rfl) (by unfold maxLen; simp only [List.length_map, List.length_range, List.length_cons, List.length_nil]; omega) (by rw [show Try.prog.bytesOf 3 = 8 by kernel_rfl]; simp only [List.length_map, List.length_range, List.length_cons, List.length_nil]; omega)) rfl rfl ?_
  rintro _ _ ⟨r13, rfl, rfl⟩
  refine SL.val (Val.assign rfl) rfl rfl ?_
  refine SL.nil ?_
  refine SE.inBlock ?_
  refine SE.seq ?_
  refine SC.region ?_
  refine SL.val (Val.move rfl) rfl rfl ?_
  first
    | refine SL.val (Val.addI rfl rfl (by simp only [InR, lo, hi]; omega)) rfl rfl ?_
    | refine SL.val (Val.addW rfl rfl) rfl rfl ?_
  refine SL.val (Val.assign rfl) rfl rfl ?_
  refine SL.nil ?_
  refine SE.round (z.1 + 1, r13) (by first | omega | (dsimp only; omega)) (by dsimp only; omega) (by exact ⟨rfl, rfl, rfl, trivial⟩) (by repeat first|exact s0 _|exact s1 _|apply s2|apply s3)
set_option maxHeartbeats 4000000 in
theorem message_s (hb : body.length ≤ 999000) (hn : Num1 T) (hT : T.length ≤ 900000) (hl : to.length ≤ 1000) : Spec Try.prog 34 [ptr q, int k, int f, byt body, ints to] [.blk q 68 [mapV bd, mapV bt], .pc (mapPc bt Value.string cntV sOk (T))] (fun _ : Unit => [.blk q 68 [mapV bd, mapV bt], .pc (mapPc bt Value.string cntV sOk (tmG (gI f (textV k body)) T to))]) (fun _ => .agg (Msg.mk k f body (tagsG (gI f (textV k body)) T to)).abs) := by
  refine spec_of Try.func34 rfl Try.ntmps34 rfl fun G w => ?_
  refine SC.seq (SC.region ?_)
  refine SL.eff (Eff.alloc tabOk rfl) rfl rfl ?_
  rintro _ _ ⟨b10, rfl, rfl⟩
  refine SL.nil (SE.seq ?_)
  refine SC.seq (SC.region ?_)
  refine SL.val (Val.move rfl) rfl rfl ?_
  refine SL.val (Val.move rfl) rfl rfl ?_
  refine SL.val (Val.move rfl) rfl rfl ?_
  refine SL.val (Val.buildS tabOk rfl rfl rfl rfl) rfl rfl ?_
  refine SL.eff (Eff.alloc tabOk rfl) rfl rfl ?_
  rintro _ _ ⟨b11, rfl, rfl⟩
  refine SL.eff (Eff.store tabOk rfl rfl rfl (by repeat first|assumption|exact Upd.here|apply Upd.there) (by rfl) (Nat.le_of_ble_eq_true (by rfl)) (by rfl) (by rfl)) rfl rfl ?_
  rintro _ _ ⟨rfl, rfl⟩
  refine SL.nil (SE.seq ?_)
  refine SC.seq (SC.region ?_)
  refine SL.val (Val.move rfl) rfl rfl ?_
  refine SL.val (Val.to (C := .v (.int .u8 (k8 k : Nat))) (Val.convW rfl Try.underlying5 (by kernel_rfl)) (congrArg Abs.v (wrap_u8 k))) rfl rfl ?_
  refine SL.eff (Eff.buildOwn tabOk Try.underlying37 rfl rfl rfl rfl rfl rfl rfl) rfl rfl ?_
  rintro _ _ ⟨r21, rfl, rfl⟩
  refine SL.val (Val.move rfl) rfl rfl ?_
  refine SL.eff (Eff.appendE (zs := bs (textV k body)) tabOk [] (by
      show [[Abs.v (Value.int .u8 (k8 k : Nat))]] ++ bs body = _
      rw [← wrap_u8, wrap_bc]
      rfl) Try.underlying37 rfl rfl rfl rfl rfl rfl (bs_ones _) (by unfold maxLen; simp only [bs, List.length_map, List.length_cons, List.length_nil]; omega) (by rw [show Try.prog.bytesOf 5 = 1 by kernel_rfl]; simp only [List.length_map, List.length_cons, List.length_nil]; omega)) rfl rfl ?_
  rintro _ _ ⟨r23, rfl, rfl⟩
  refine SL.val (Val.assign rfl) rfl rfl ?_
  refine SL.nil (SE.seq ?_)
  refine SC.seq ?_
  refine SC.seq ?_
  refine SC.freeze [] (t := 12) rfl rfl ?_
  refine SC.region ?_
  refine SL.val (Val.move rfl) rfl rfl ?_
  first
    | refine SL.val (Val.lenSl rfl Try.underlying77 (List.length_map _)) rfl rfl ?_
    | refine SL.val (Val.lenOwn rfl (by repeat first|assumption|exact m0|apply m1) Try.underlying77 (List.length_map _)) rfl rfl ?_
    | refine SL.val (Val.lenNil rfl Try.underlying77) rfl rfl ?_
  refine SL.val (Val.move rfl) rfl rfl ?_
  refine SL.nil (SE.seq ?_)
  refine SC.block ?_
  refine SC.own0 94 32 ?_
  refine SC.loop (ι := Nat × Value × Unit) (fun z => [own 94 32 z.2.1 ((tagsG (gI f (textV k body)) T (to.take z.1)).map Tg.abs), .blk b11 40 [int k, int f, byt body, .v z.2.1], .blk b10 40 (zabs [.int .i64 0, .int .i64 0, .slice none 0 0, .slice none 0 0]), .blk q 68 [mapV bd, mapV bt], .pc (mapPc bt Value.string cntV sOk ((tmG (gI f (textV k body)) T (to.take z.1))))]) (fun z => [(0, ptr q), (2, int f), (10, ptr b10), (11, ptr b11), (12, byt (textV k body)), (24, ints to), (25, int (to.length : Nat)), (26, int (z.1 : Nat))]) (fun z => z.1 ≤ to.length) (fun z => to.length - z.1) (0, .slice none 0 0, ()) (Nat.zero_le _) (by exact ⟨rfl, rfl, rfl, rfl, rfl, rfl, rfl, rfl, trivial⟩) (by repeat first|exact s0 _|exact s1 _|apply s2|apply s3) ?_
  intro z hz
  refine SC.seq (SC.region ?_)
  refine SL.val (Val.ltI rfl rfl) rfl rfl ?_
  refine SL.nil (SE.seq ?_)
  refine SC.seq ?_
  refine SC.condP rfl ?_ ?_
  rotate_left
  · intro hc27
    refine SC.exit ?_
    refine SE.then_ (by intro h; cases h) ?_
    refine SE.then_ (by intro h; cases h) ?_
    refine SE.exit ?_
    refine SE.seq ?_
    refine SC.seq ?_
    have hz4 : z.1 = to.length := by omega
    refine SC.freezeC [] 3 rfl (by repeat first|assumption|exact Upd.here|apply Upd.there) rfl ?_
    rw [hz4, List.take_of_length_le (Nat.le_refl _)]
    refine SC.region ?_
    first
      | refine SL.val (Val.loadA tabOk rfl rfl rfl (by first|(apply Or.inl;(repeat first|assumption|exact m0|apply m1);done)|(apply Or.inr;(repeat first|assumption|exact m0|apply m1);done)) List.not_mem_nil (by rfl)) rfl rfl ?_
      | refine SL.val (Val.loadP tabOk rfl rfl rfl (by first|(apply Or.inl;(repeat first|assumption|exact m0|apply m1);done)|(apply Or.inr;(repeat first|assumption|exact m0|apply m1);done)) List.not_mem_nil (Nat.le_of_ble_eq_true (by rfl))) rfl rfl ?_
    refine SL.eff (Eff.store tabOk rfl rfl rfl (by repeat first|assumption|exact Upd.here|apply Upd.there) (by rfl) (Nat.le_of_ble_eq_true (by rfl)) (by rfl) (by rfl)) rfl rfl ?_
    rintro _ _ ⟨rfl, rfl⟩
    refine SL.nil (SE.seq ?_)
    refine SC.ret ?_
    refine SE.fin (rs := [.cell 10 40]) rfl (RV.cell rfl (RV.cellA tabOk rfl rfl (by first|(apply Or.inl;(repeat first|assumption|exact m0|apply m1);done)|(apply Or.inr;(repeat first|assumption|exact m0|apply m1);done)) (by rfl)) RV.nil) (()) (by repeat first|exact s0 _|exact s1 _|apply s2|apply s3) (by simp [It.rids]) ?_
    exact rfl
  intro hc27
  have hlt : z.1 < to.length := by omega
  have hlen9 : (to.take z.1).length = z.1 := by rw [List.length_take]; omega
  have hT2 := tmG_len (gI f (textV k body)) T (to.take z.1)
  have hTn := tmG_num hn (gI f (textV k body)) (to.take z.1)
  have hTp := hTn.pl_le (gI f (textV k body) (to[z.1]'hlt))
  refine SC.skip ?_
  refine SE.seq ?_
  refine SC.seq ?_
  refine SC.block ?_
  refine SC.seq (SC.region ?_)
  refine SL.val (Val.indexSl tabOk Try.underlying77 rfl rfl rfl rfl (at_map (by omega)) rfl rfl) rfl rfl ?_
  refine SL.val (Val.to (C := int (to[z.1]'hlt)) (Val.load1R tabOk rfl rfl rfl) rfl) rfl rfl ?_
  refine SL.val (Val.assign rfl) rfl rfl ?_
  refine SL.nil (SE.seq ?_)
  refine SC.draw (z.2.1.ownBlock.toList ++ [b11, q, bt]) (.q 0 (.q 2 (.q 3 (.q 4 (.q 5 (.two 1 6 (.e 6 (.e 7 (.e 8 (.q 9 (.e 10 .nil))))) (.two 1 7 (.e 7 (.e 8 (.q 9 (.e 10 .nil)))) (.e 1 (.e 8 (.q 9 (.e 10 .nil))))))))))) (by kernel_rfl) (by kernel_rfl) ?_
  refine SX.val rfl (Val.fieldAddr tabOk rfl rfl rfl rfl rfl) (by first | (simp [mids, It.mids, ownPc, mapPc]; done) | (intro k hk; simp [mids, It.mids, ownPc, mapPc] at hk ⊢; grind)) rfl rfl ?_
  refine SX.val rfl (Val.move rfl) (by first | (simp [mids, It.mids, ownPc, mapPc]; done) | (intro k hk; simp [mids, It.mids, ownPc, mapPc] at hk ⊢; grind)) rfl rfl ?_
  refine SX.val rfl (Val.move rfl) (by first | (simp [mids, It.mids, ownPc, mapPc]; done) | (intro k hk; simp [mids, It.mids, ownPc, mapPc] at hk ⊢; grind)) rfl rfl ?_
  refine SX.val rfl (Val.move rfl) (by first | (simp [mids, It.mids, ownPc, mapPc]; done) | (intro k hk; simp [mids, It.mids, ownPc, mapPc] at hk ⊢; grind)) rfl rfl ?_
  refine SX.val rfl (Val.move rfl) (by first | (simp [mids, It.mids, ownPc, mapPc]; done) | (intro k hk; simp [mids, It.mids, ownPc, mapPc] at hk ⊢; grind)) rfl rfl ?_
  refine SX.two ?_ ?_
  · skip
    refine SX.valE rfl (Val.load1 tabOk rfl rfl (by first|(apply Or.inl;(repeat first|assumption|exact m0|apply m1);done)|(apply Or.inr;(repeat first|assumption|exact m0|apply m1);done)) List.not_mem_nil (by rfl)) rfl rfl ?_
    refine SX.call rfl (itag_s (q := q) (bd := bd) (bt := bt) (T := (tmG (gI f (textV k body)) T (to.take z.1))) (a := f) (b := to[z.1]) (l := (textV k body)) (by simp [textV]; omega) hTn (by omega)) (by simp [mids, It.mids, mapPc]) Casts.refl (by kernel_rfl) rfl rfl rfl ?_
    refine After.at3 ⟨rfl, rfl⟩ (fun _ => rfl) ?_
    intro _
    refine SX.eff rfl (Eff.buildSl tabOk Try.underlying38 rfl rfl rfl (elems_one (dig32 (numB_length _ _))) rfl rfl rfl) (by simp) rfl rfl ?_
    rintro _ _ ⟨rfl, rfl⟩
    refine SX.effX [b11] rfl (Eff.appendE (zs := (tagsG (gI f (textV k body)) T (to.take (z.1 + 1))).map Tg.abs) tabOk [] (by rw [take_snocI hlt]; exact tagsG_snoc _ _ _ _) Try.underlying38 rfl rfl rfl rfl rfl rfl (by intro c hc; rw [List.mem_singleton] at hc; subst hc; exact ones_dig _) (by unfold maxLen; simp only [tagsG, List.length_map, List.length_take, List.length_cons, List.length_nil]; omega) (by rw [show Try.prog.bytesOf 94 = 32 by kernel_rfl]; simp only [tagsG, List.length_map, List.length_take, List.length_cons, List.length_nil]; omega)) (fun k hk => List.mem_append_left _ hk) (by simp) rfl rfl ?_
    rintro _ _ ⟨r38, rfl, rfl⟩
    refine SX.val rfl (Val.fieldAddr tabOk rfl rfl rfl rfl rfl) (by first | (simp [mids, It.mids, ownPc, mapPc]; done) | (intro k hk; simp [mids, It.mids, ownPc, mapPc] at hk ⊢; grind)) rfl rfl ?_
    first
      | refine SX.eff rfl (Eff.store tabOk rfl rfl rfl (by repeat first|assumption|exact Upd.here|apply Upd.there) (by rfl) (Nat.le_of_ble_eq_true (by rfl)) (by rfl) (by rfl)) (by simp) rfl rfl ?_
      | refine SX.eff rfl (Eff.storeOwn tabOk rfl rfl rfl rfl (by repeat first|assumption|exact m0|apply m1) (by repeat first|assumption|exact Upd.here|apply Upd.there) rfl (by rfl)) (by simp) rfl rfl ?_
    rintro _ _ ⟨rfl, rfl⟩
    refine SX.nil ?_
    refine SE.inBlock ?_
    refine SE.seq ?_
    refine SC.region ?_
    first
      | refine SL.val (Val.addI rfl rfl (by simp only [InR, lo, hi]; omega)) rfl rfl ?_
      | refine SL.val (Val.addW rfl rfl) rfl rfl ?_
    refine SL.val (Val.move rfl) rfl rfl ?_
    refine SL.nil ?_
    refine SE.round (z.1 + 1, r38, ()) (by first | omega | (dsimp only; omega)) (by dsimp only; omega) (by exact ⟨rfl, rfl, rfl, rfl, rfl, rfl, rfl, rfl, trivial⟩) (by rw [take_snocI hlt, tmG_snoc]; exact List.Sublist.refl _)
  · skip
    refine SX.call rfl (itag_s (q := q) (bd := bd) (bt := bt) (T := (tmG (gI f (textV k body)) T (to.take z.1))) (a := f) (b := to[z.1]) (l := (textV k body)) (by simp [textV]; omega) hTn (by omega)) (by simp [mids, It.mids, mapPc]) Casts.refl (by kernel_rfl) rfl rfl rfl ?_
    refine After.at3 ⟨rfl, rfl⟩ (fun _ => rfl) ?_
    intro _
    refine SX.two ?_ ?_
    · skip
      refine SX.valE rfl (Val.load1 tabOk rfl rfl (by first|(apply Or.inl;(repeat first|assumption|exact m0|apply m1);done)|(apply Or.inr;(repeat first|assumption|exact m0|apply m1);done)) List.not_mem_nil (by rfl)) rfl rfl ?_
      refine SX.eff rfl (Eff.buildSl tabOk Try.underlying38 rfl rfl rfl (elems_one (dig32 (numB_length _ _))) rfl rfl rfl) (by simp) rfl rfl ?_
      rintro _ _ ⟨rfl, rfl⟩
      refine SX.effX [b11] rfl (Eff.appendE (zs := (tagsG (gI f (textV k body)) T (to.take (z.1 + 1))).map Tg.abs) tabOk [] (by rw [take_snocI hlt]; exact tagsG_snoc _ _ _ _) Try.underlying38 rfl rfl rfl rfl rfl rfl (by intro c hc; rw [List.mem_singleton] at hc; subst hc; exact ones_dig _) (by unfold maxLen; simp only [tagsG, List.length_map, List.length_take, List.length_cons, List.length_nil]; omega) (by rw [show Try.prog.bytesOf 94 = 32 by kernel_rfl]; simp only [tagsG, List.length_map, List.length_take, List.length_cons, List.length_nil]; omega)) (fun k hk => List.mem_append_left _ hk) (by simp) rfl rfl ?_
      rintro _ _ ⟨r38, rfl, rfl⟩
      refine SX.val rfl (Val.fieldAddr tabOk rfl rfl rfl rfl rfl) (by first | (simp [mids, It.mids, ownPc, mapPc]; done) | (intro k hk; simp [mids, It.mids, ownPc, mapPc] at hk ⊢; grind)) rfl rfl ?_
      first
        | refine SX.eff rfl (Eff.store tabOk rfl rfl rfl (by repeat first|assumption|exact Upd.here|apply Upd.there) (by rfl) (Nat.le_of_ble_eq_true (by rfl)) (by rfl) (by rfl)) (by simp) rfl rfl ?_
        | refine SX.eff rfl (Eff.storeOwn tabOk rfl rfl rfl rfl (by repeat first|assumption|exact m0|apply m1) (by repeat first|assumption|exact Upd.here|apply Upd.there) rfl (by rfl)) (by simp) rfl rfl ?_
      rintro _ _ ⟨rfl, rfl⟩
      refine SX.nil ?_
      refine SE.inBlock ?_
      refine SE.seq ?_
      refine SC.region ?_
      first
        | refine SL.val (Val.addI rfl rfl (by simp only [InR, lo, hi]; omega)) rfl rfl ?_
        | refine SL.val (Val.addW rfl rfl) rfl rfl ?_
      refine SL.val (Val.move rfl) rfl rfl ?_
      refine SL.nil ?_
      refine SE.round (z.1 + 1, r38, ()) (by first | omega | (dsimp only; omega)) (by dsimp only; omega) (by exact ⟨rfl, rfl, rfl, rfl, rfl, rfl, rfl, rfl, trivial⟩) (by rw [take_snocI hlt, tmG_snoc]; exact List.Sublist.refl _)
    · skip
      refine SX.eff rfl (Eff.buildSl tabOk Try.underlying38 rfl rfl rfl (elems_one (dig32 (numB_length _ _))) rfl rfl rfl) (by simp) rfl rfl ?_
      rintro _ _ ⟨rfl, rfl⟩
      refine SX.valE rfl (Val.load1 tabOk rfl rfl (by first|(apply Or.inl;(repeat first|assumption|exact m0|apply m1);done)|(apply Or.inr;(repeat first|assumption|exact m0|apply m1);done)) List.not_mem_nil (by rfl)) rfl rfl ?_
      refine SX.effX [b11] rfl (Eff.appendE (zs := (tagsG (gI f (textV k body)) T (to.take (z.1 + 1))).map Tg.abs) tabOk [] (by rw [take_snocI hlt]; exact tagsG_snoc _ _ _ _) Try.underlying38 rfl rfl rfl rfl rfl rfl (by intro c hc; rw [List.mem_singleton] at hc; subst hc; exact ones_dig _) (by unfold maxLen; simp only [tagsG, List.length_map, List.length_take, List.length_cons, List.length_nil]; omega) (by rw [show Try.prog.bytesOf 94 = 32 by kernel_rfl]; simp only [tagsG, List.length_map, List.length_take, List.length_cons, List.length_nil]; omega)) (fun k hk => List.mem_append_left _ hk) (by simp) rfl rfl ?_
      rintro _ _ ⟨r38, rfl, rfl⟩
      refine SX.val rfl (Val.fieldAddr tabOk rfl rfl rfl rfl rfl) (by first | (simp [mids, It.mids, ownPc, mapPc]; done) | (intro k hk; simp [mids, It.mids, ownPc, mapPc] at hk ⊢; grind)) rfl rfl ?_
      first
        | refine SX.eff rfl (Eff.store tabOk rfl rfl rfl (by repeat first|assumption|exact Upd.here|apply Upd.there) (by rfl) (Nat.le_of_ble_eq_true (by rfl)) (by rfl) (by rfl)) (by simp) rfl rfl ?_
        | refine SX.eff rfl (Eff.storeOwn tabOk rfl rfl rfl rfl (by repeat first|assumption|exact m0|apply m1) (by repeat first|assumption|exact Upd.here|apply Upd.there) rfl (by rfl)) (by simp) rfl rfl ?_
      rintro _ _ ⟨rfl, rfl⟩
      refine SX.nil ?_
      refine SE.inBlock ?_
      refine SE.seq ?_
      refine SC.region ?_
      first
        | refine SL.val (Val.addI rfl rfl (by simp only [InR, lo, hi]; omega)) rfl rfl ?_
        | refine SL.val (Val.addW rfl rfl) rfl rfl ?_
      refine SL.val (Val.move rfl) rfl rfl ?_
      refine SL.nil ?_
      refine SE.round (z.1 + 1, r38, ()) (by first | omega | (dsimp only; omega)) (by dsimp only; omega) (by exact ⟨rfl, rfl, rfl, rfl, rfl, rfl, rfl, rfl, trivial⟩) (by rw [take_snocI hlt, tmG_snoc]; exact List.Sublist.refl _)
set_option maxHeartbeats 1000000 in
theorem reply_s (hn : Num1 T) (hT : T.length ≤ 900000) : Spec Try.prog 20 [ptr q, int a, int b, .agg r.abs] [.blk q 68 [mapV bd, mapV bt], .pc (mapPc bt Value.string cntV sOk (T))] (fun _ : Unit => [.blk q 68 [mapV bd, mapV bt], .pc (mapPc bt Value.string cntV sOk (tmG (gI a (textV 12 r.bytes)) T [b]))]) (fun _ => .agg (Msg.mk 12 a r.bytes (tagsG (gI a (textV 12 r.bytes)) T [b])).abs) := by
  refine spec_of Try.func20 rfl Try.ntmps20 rfl fun G w => ?_
  refine SC.seq (SC.region ?_)
  refine SL.eff (Eff.boxA (cs := r.abs) rfl) rfl rfl ?_
  rintro _ _ ⟨b7, rfl, rfl⟩
  refine SL.eff (Eff.alloc tabOk rfl) rfl rfl ?_
  rintro _ _ ⟨b8, rfl, rfl⟩
  refine SL.nil (SE.seq ?_)
  refine SC.seq (SC.region ?_)
  refine SL.val (Val.move rfl) rfl rfl ?_
  refine SL.val (Val.move rfl) rfl rfl ?_
  refine SL.val (Val.loadA tabOk rfl rfl rfl (by first|(apply Or.inl;(repeat first|assumption|exact m0|apply m1);done)|(apply Or.inr;(repeat first|assumption|exact m0|apply m1);done)) List.not_mem_nil rfl) rfl rfl ?_
  refine SL.call (rreply_s (r := r)) Casts.refl (by kernel_rfl) rfl rfl rfl ?_
  refine After.pure (by repeat (first | exact Reads.nil | (refine Reads.blk ?_ ?_; focus ((repeat first|assumption|exact m0|apply m1); done)) | (refine Reads.rd ?_ ?_; focus ((repeat first|assumption|exact m0|apply m1); done)) | (refine Reads.pc ?_ ?_; focus ((repeat first|assumption|exact m0|apply m1); done)) | (refine Reads.rdpc ?_ ?_; focus ((repeat first|assumption|exact m0|apply m1); done)))) (fun _ => rfl) ?_
  intro _
  refine SL.val (Val.move rfl) rfl rfl ?_
  refine SL.eff (Eff.buildSl tabOk Try.underlying77 rfl rfl rfl rfl rfl rfl rfl) rfl rfl ?_
  rintro _ _ ⟨rfl, rfl⟩
  refine SL.call (message_s (q := q) (bd := bd) (bt := bt) (k := 12) (f := a) (body := r.bytes) (to := [b]) (T := T) (by rw [Rp.bytes_length]; omega) hn hT (by simp)) Casts.refl (by kernel_rfl) rfl rfl rfl ?_
  refine After.mid [_, _] (β := []) rfl (by intro x hx; simp only [List.mem_cons, List.not_mem_nil, or_false] at hx; rcases hx with rfl | rfl <;> rfl) ?_
  intro _
  refine SL.eff (Eff.store (L' := (Msg.mk 12 a r.bytes (tagsG (gI a (textV 12 r.bytes)) T [b])).abs) tabOk rfl rfl rfl (by repeat first|assumption|exact Upd.here|apply Upd.there) rfl (Nat.le_of_ble_eq_true (by rfl)) rfl (by exact putL_whole rfl)) rfl rfl ?_
  rintro _ _ ⟨rfl, rfl⟩
  refine SL.nil (SE.seq ?_)
  refine SC.ret ?_
  refine SE.fin (rs := [.cell 8 40]) rfl (RV.cell rfl (RV.cellA tabOk rfl rfl (by first|(apply Or.inl;(repeat first|assumption|exact m0|apply m1);done)|(apply Or.inr;(repeat first|assumption|exact m0|apply m1);done)) (by rfl)) RV.nil) (()) (by repeat first|exact s0 _|exact s1 _|apply s2|apply s3) (by simp [It.rids]) ?_
  exact rfl
set_option maxHeartbeats 4000000 in
theorem vchecki_s (hl : m.body.length ≤ 100000) (hn : Num1 T) (hT : T.length < 1000000) : Spec Try.prog 47 [.ifc 24 (ptr q), .agg m.abs, int place, int who] [.rd q 68 [mapV bd, mapV bt], .rdpc (mapPc bt Value.string cntV sOk T)] (fun _ : Unit => []) (fun _ => int (chkMI T m place who)) := by
  refine spec_of Try.func47 rfl Try.ntmps47 rfl fun G w => ?_
  refine SC.seq (SC.region ?_)
  refine SL.eff (Eff.boxA rfl) rfl rfl ?_
  rintro _ _ ⟨b5, rfl, rfl⟩
  refine SL.val (Val.assign rfl) rfl rfl ?_
  refine SL.nil (SE.seq ?_)
  refine SC.seq ?_
  refine SC.seq ?_
  refine SC.draw [] (.q 0 (.q 1 (.q 2 (.q 3 (.q 4 (.q 5 (.q 6 (.q 7 (.q 8 (.q 9 (.q 10 (.q 11 (.q 12 (.q 13 (.q 14 (.q 15 (.q 16 (.q 17 (.q 18 (.q 19 (.q 20 (.q 21 (.q 23 (.q 24 (.q 25 (.q 26 (.q 27 (.q 28 (.q 29 (.q 30 (.e 22 (.e 31 (.q 32 (.q 33 .nil)))))))))))))))))))))))))))))))))) (by kernel_rfl) (by kernel_rfl) ?_
  refine SX.val rfl (Val.move rfl) (by simp) rfl rfl ?_
  refine SX.val rfl (Val.ifaceNil Try.underlying70 rfl) (by first | (simp [mids, It.mids, ownPc, mapPc]; done) | (intro k hk; simp [mids, It.mids, ownPc, mapPc] at hk ⊢; grind)) rfl rfl ?_
  refine SX.val rfl (Val.move rfl) (by simp) rfl rfl ?_
  refine SX.val rfl (Val.move rfl) (by simp) rfl rfl ?_
  refine SX.val rfl (Val.ltI rfl rfl) (by simp) rfl rfl ?_
  refine SX.val rfl (Val.pickF rfl rfl) (by simp) rfl rfl ?_
  refine SX.val rfl (Val.move rfl) (by simp) rfl rfl ?_
  refine SX.bothP (t := 15) rfl ?_ ?_
  · intro hc15
    iterate 5 refine SX.skip rfl rfl rfl ?_
    refine SX.val rfl (Val.pickT rfl rfl) (by simp) rfl rfl ?_
    refine SX.val rfl (Val.move rfl) (by simp) rfl rfl ?_
    iterate 16 refine SX.skip rfl rfl rfl ?_
    refine SX.skip' rfl rfl rfl ?_
    refine SX.skip' rfl rfl rfl ?_
    refine SX.skip rfl rfl rfl ?_
    refine SX.val rfl (Val.pickT rfl rfl) (by simp) rfl rfl ?_
    refine SX.nil (SE.seq ?_)
    refine SC.condT rfl ?_
    refine SC.seq (SC.region ?_)
    refine SL.val (Val.assign rfl) rfl rfl ?_
    refine SL.nil (SE.seq ?_)
    refine SC.ret ?_
    refine SE.then_ (by intro h; cases h) ?_
    refine SE.fin (rs := [.tmp 8]) rfl (RV.tmp rfl RV.nil) (()) (by repeat first|exact s0 _|exact s1 _|apply s2|apply s3) (by simp [It.rids]) ?_
    refine congrArg int ?_
    unfold chkMI
    first
      | (rw [if_pos (by omega)])
      | (rw [if_neg (by omega), if_neg (by
          have h8 := hc42
          simp only [Int.toNat_natCast, List.getElem?_eq_getElem hq, Option.map_some, Option.getD_some]
          intro h9
          rw [h9] at h8
          simp at h8)])
  intro hc15
  refine SX.val rfl (Val.move rfl) (by simp) rfl rfl ?_
  refine SX.val rfl (Val.fieldAddr tabOk rfl rfl rfl rfl rfl) (by simp) rfl rfl ?_
  refine SX.val rfl (Val.load1 tabOk rfl rfl (by first|(apply Or.inl;(repeat first|assumption|exact m0|apply m1);done)|(apply Or.inr;(repeat first|assumption|exact m0|apply m1);done)) List.not_mem_nil (by rfl)) (by simp) rfl rfl ?_
  first
    | refine SX.val rfl (Val.lenSl rfl Try.underlying38 (List.length_map _)) (by simp) rfl rfl ?_
    | refine SX.val rfl (Val.lenOwn rfl (by repeat first|assumption|exact m0|apply m1) Try.underlying38 (List.length_map _)) (by simp) rfl rfl ?_
    | refine SX.val rfl (Val.lenNil rfl Try.underlying38) (by simp) rfl rfl ?_
  refine SX.val rfl (Val.geI rfl rfl) (by simp) rfl rfl ?_
  refine SX.val rfl (Val.pickF rfl rfl) (by simp) rfl rfl ?_
  refine SX.val rfl (Val.move rfl) (by simp) rfl rfl ?_
  refine SX.bothP (t := 22) rfl ?_ ?_
  · intro hc22
    iterate 16 refine SX.skip rfl rfl rfl ?_
    refine SX.skip' rfl rfl rfl ?_
    refine SX.skip' rfl rfl rfl ?_
    refine SX.skip rfl rfl rfl ?_
    refine SX.val rfl (Val.pickT rfl rfl) (by simp) rfl rfl ?_
    refine SX.nil (SE.seq ?_)
    refine SC.condT rfl ?_
    refine SC.seq (SC.region ?_)
    refine SL.val (Val.assign rfl) rfl rfl ?_
    refine SL.nil (SE.seq ?_)
    refine SC.ret ?_
    refine SE.then_ (by intro h; cases h) ?_
    refine SE.fin (rs := [.tmp 8]) rfl (RV.tmp rfl RV.nil) (()) (by repeat first|exact s0 _|exact s1 _|apply s2|apply s3) (by simp [It.rids]) ?_
    refine congrArg int ?_
    unfold chkMI
    first
      | (rw [if_pos (by omega)])
      | (rw [if_neg (by omega), if_neg (by
          have h8 := hc42
          simp only [Int.toNat_natCast, List.getElem?_eq_getElem hq, Option.map_some, Option.getD_some]
          intro h9
          rw [h9] at h8
          simp at h8)])
  intro hc22
  obtain ⟨qq, rfl⟩ : ∃ qq : Nat, place = (qq : Nat) := ⟨place.toNat, by omega⟩
  have hq : qq < m.tags.length := by omega
  refine SX.val rfl (Val.move rfl) (by simp) rfl rfl ?_
  refine SX.val rfl (Val.fieldAddr tabOk rfl rfl rfl rfl rfl) (by simp) rfl rfl ?_
  refine SX.val rfl (Val.load1 tabOk rfl rfl (by first|(apply Or.inl;(repeat first|assumption|exact m0|apply m1);done)|(apply Or.inr;(repeat first|assumption|exact m0|apply m1);done)) List.not_mem_nil (by rfl)) (by simp) rfl rfl ?_
  refine SX.val rfl (Val.move rfl) (by simp) rfl rfl ?_
  refine SX.val rfl (Val.fieldAddr tabOk rfl rfl rfl rfl rfl) (by simp) rfl rfl ?_
  refine SX.val rfl (Val.load1 tabOk rfl rfl (by first|(apply Or.inl;(repeat first|assumption|exact m0|apply m1);done)|(apply Or.inr;(repeat first|assumption|exact m0|apply m1);done)) List.not_mem_nil (by rfl)) (by simp) rfl rfl ?_
  refine SX.val rfl (Val.fieldAddr tabOk rfl rfl rfl rfl rfl) (by simp) rfl rfl ?_
  refine SX.val rfl (Val.load1 tabOk rfl rfl (by first|(apply Or.inl;(repeat first|assumption|exact m0|apply m1);done)|(apply Or.inr;(repeat first|assumption|exact m0|apply m1);done)) List.not_mem_nil (by rfl)) (by simp) rfl rfl ?_
  refine SX.val rfl (Val.fieldAddr tabOk rfl rfl rfl rfl rfl) (by simp) rfl rfl ?_
  refine SX.val rfl (Val.load1 tabOk rfl rfl (by first|(apply Or.inl;(repeat first|assumption|exact m0|apply m1);done)|(apply Or.inr;(repeat first|assumption|exact m0|apply m1);done)) List.not_mem_nil (by rfl)) (by simp) rfl rfl ?_
  refine SX.val rfl (Val.move rfl) (by simp) rfl rfl ?_
  refine SX.val rfl (Val.indexSl tabOk Try.underlying38 rfl rfl rfl rfl (at_map (by omega)) rfl rfl) (by simp) rfl rfl ?_
  refine SX.val rfl (Val.loadAR tabOk rfl rfl rfl (Tg.size _)) (by first | (simp [mids, It.mids, ownPc, mapPc]; done) | (intro k hk; simp [mids, It.mids, ownPc, mapPc] at hk ⊢; grind)) rfl rfl ?_
  refine SX.val rfl (Val.makeFunc rfl rfl) (by simp) rfl rfl ?_
  refine SX.val rfl (Val.nilMethod rfl (fun w => by kernel_rfl)) (by simp) rfl rfl ?_
  refine SX.val rfl (Val.move rfl) (by simp) rfl rfl ?_
  refine SX.call rfl (text_s (k := m.kind) (l := m.body) (by omega)) (by simp [mids, It.mids]) Casts.refl (by kernel_rfl) rfl rfl rfl ?_
  refine After.pure (by repeat first|exact .nil|refine .blk (by repeat first|assumption|exact m0|apply m1) ?_|refine .rd (by repeat first|assumption|exact m0|apply m1) ?_|refine .pc (by repeat first|assumption|exact m0|apply m1) ?_|refine .rdpc (by repeat first|assumption|exact m0|apply m1) ?_) (fun _ => rfl) ?_
  intro _
  refine SX.invokeR rfl (icheck_s (q := q) (bd := bd) (bt := bt) (T := T) (a := m.from_) (b := who) (l := textV m.kind m.body) (M := (m.tags[qq]'hq).d) (by simp [textV]; omega) hn hT (m.tags[qq]'hq).len) (by simp [mids, It.mids, mapPc, It.toRd]) rfl Casts.refl (fun _ _ _ => by kernel_rfl) rfl rfl rfl ?_
  refine After.pure (by repeat (first | exact Reads.nil | (refine Reads.blk ?_ ?_; focus ((repeat first|assumption|exact m0|apply m1); done)) | (refine Reads.rd ?_ ?_; focus ((repeat first|assumption|exact m0|apply m1); done)) | (refine Reads.pc ?_ ?_; focus ((repeat first|assumption|exact m0|apply m1); done)) | (refine Reads.rdpc ?_ ?_; focus ((repeat first|assumption|exact m0|apply m1); done)))) (fun _ => rfl) ?_
  intro _
  refine SX.val rfl (Val.notB rfl) (by simp) rfl rfl ?_
  refine SX.val rfl (Val.pickF rfl rfl) (by simp) rfl rfl ?_
  refine SX.nil (SE.seq ?_)
  refine SC.cond rfl ?_ ?_
  rotate_left
  · intro hc42
    refine SC.skip ?_
    refine SE.seq ?_
    refine SC.seq (SC.region ?_)
    refine SL.val (Val.assign rfl) rfl rfl ?_
    refine SL.nil (SE.seq ?_)
    refine SC.ret ?_
    refine SE.fin (rs := [.tmp 8]) rfl (RV.tmp rfl RV.nil) (()) (by repeat first|exact s0 _|exact s1 _|apply s2|apply s3) (by simp [It.rids]) ?_
    refine congrArg int ?_
    unfold chkMI
    rw [if_neg (by omega), if_pos (by
      have h8 := hc42
      simp only [Int.toNat_natCast, List.getElem?_eq_getElem hq, Option.map_some, Option.getD_some]
      simpa using h8)]
  intro hc42
  refine SC.seq (SC.region ?_)
  refine SL.val (Val.assign rfl) rfl rfl ?_
  refine SL.nil (SE.seq ?_)
  refine SC.ret ?_
  refine SE.then_ (by intro h; cases h) ?_
  refine SE.fin (rs := [.tmp 8]) rfl (RV.tmp rfl RV.nil) (()) (by repeat first|exact s0 _|exact s1 _|apply s2|apply s3) (by simp [It.rids]) ?_
  refine congrArg int ?_
  unfold chkMI
  first
    | (rw [if_pos (by omega)])
    | (rw [if_neg (by omega), if_neg (by
        have h8 := hc42
        simp only [Int.toNat_natCast, List.getElem?_eq_getElem hq, Option.map_some, Option.getD_some]
        intro h9
        rw [h9] at h8
        simp at h8)])
end
end Go.Proofs.Ytmkijjmbiiiicaa.A
/-
  Tallies of error numbers.
-/
set_option maxRecDepth 100000
set_option linter.unusedSimpArgs false
set_option linter.unusedVariables false
namespace Go.Proofs.Ytmkijjmbiiiicaa.A
open Go.RowKit Go.Maps

theorem After.three {ι : Type} {x1 x2 x3 : It} {β : Blks} {τ' : ι → Blks} {y1 y2 y3 : ι → It} {K : Blks → ι → Prop} (hr : x1.rids = [] ∧ x2.rids = [] ∧ x3.rids = []) (hτ : ∀ z, τ' z = [y1 z, y2 z, y3 z]) (k : ∀ z, K (y1 z :: y2 z :: y3 z :: β) z) : After (x1 :: x2 :: x3 :: β) [x1, x2, x3] τ' K :=
  After.mid [] (β := β) rfl (by intro x hx; simp only [List.mem_cons, List.not_mem_nil, or_false] at hx; rcases hx with rfl | rfl | rfl; exact hr.1; exact hr.2.1; exact hr.2.2) fun z => by rw [hτ z]; exact k z
theorem After.threeN {ι : Type} {x1 x2 x3 : It} {β : Blks} {τ' : ι → Blks} {y0 y1 y2 y3 : ι → It} {K : Blks → ι → Prop} (hr : x1.rids = [] ∧ x2.rids = [] ∧ x3.rids = []) (hτ : ∀ z, τ' z = [y0 z, y1 z, y2 z, y3 z]) (k : ∀ z, K (y0 z :: y1 z :: y2 z :: y3 z :: β) z) : After (x1 :: x2 :: x3 :: β) [x1, x2, x3] τ' K :=
  After.mid [] (β := β) rfl (by intro x hx; simp only [List.mem_cons, List.not_mem_nil, or_false] at hx; rcases hx with rfl | rfl | rfl; exact hr.1; exact hr.2.1; exact hr.2.2) fun z => by rw [hτ z]; exact k z
section
variable {α : Type} [DecidableEq α] {m : List (Int × α)} {c : List (α × Nat)} {v k : α} {who : Int}
def tAddM (m : List (Int × α)) (who : Int) (k : α) : List (Int × α) := if (aget m who).isSome then m else aput m who k
def tAddC (m : List (Int × α)) (c : List (α × Nat)) (who : Int) (k : α) : List (α × Nat) := if (aget m who).isSome then c else chgC m c who k
def tAddB (m : List (Int × α)) (who : Int) (k : α) : Bool := match aget m who with | some v => decide (v = k) | none => true
omit [DecidableEq α] in
theorem tAddM_old (h : aget m who = some v) : tAddM m who k = m := if_pos (by rw [h]; rfl)
omit [DecidableEq α] in
theorem tAddM_new (h : aget m who = none) : tAddM m who k = aput m who k := if_neg (by rw [h]; simp)
theorem tAddC_old (h : aget m who = some v) : tAddC m c who k = c := if_pos (by rw [h]; rfl)
theorem tAddC_new (h : aget m who = none) : tAddC m c who k = chgC m c who k := if_neg (by rw [h]; simp)
theorem tAddB_old (h : aget m who = some v) : tAddB m who k = decide (v = k) := by unfold tAddB; rw [h]
theorem tAddB_new (h : aget m who = none) : tAddB m who k = true := by unfold tAddB; rw [h]
end
theorem getD_is {α : Type} {enc : α → Abs} {V : α → Value} {z : Abs} {zv : Value} (h : ∀ a, (enc a).is (V a)) (hz : z.is zv) (o : Option α) : ((o.map enc).getD z).is ((o.map V).getD zv) := by
  cases o with
  | none => exact hz
  | some a => exact h a
theorem isSome_some {α : Type} {o : Option α} (h : o.isSome = true) : ∃ v, o = some v := Option.isSome_iff_exists.1 h
theorem isSome_none {α : Type} {o : Option α} (h : o.isSome = false) : o = none := by simpa using h
def erE (x : Int) : Abs := .v (.int .i64 x)
theorem er_is (x : Int) : (erE x).is (intK x) := is_v
abbrev erA (o : Option Int) : Abs := (o.map erE).getD (.v (.int .i64 0))
theorem er_zero : ∀ w, (zeroValue 29).run Try.prog w = .ok (.int .i64 0) w := fun w => by
  kernel_rfl
theorem erA_is (o : Option Int) : (erA o).is ((o.map intK).getD (.int .i64 0)) := getD_is er_is (is_v) o
section
variable {t bv bn : Nat} {m : List (Int × Int)} {c : List (Int × Nat)} {k : Int} {who at_ : Int}
theorem er_new_s  : Spec Try.prog 26 [] [] (fun z : Nat × Nat × Nat => [.blk z.1 114 [mapV z.2.1, mapV z.2.2], .pc (mapPc z.2.1 intK intK intOk []), .pc (mapPc z.2.2 intK cntV intOk [])]) (fun z => ptr z.1) := by
  refine spec_of Try.func26 rfl Try.ntmps26 rfl fun G w => ?_
  refine SC.seq (SC.region ?_)
  refine SL.val (Val.assign rfl) rfl rfl ?_
  refine SL.nil (SE.seq ?_)
  refine SC.seq (SC.region ?_)
  refine SL.eff (Eff.makeMap intK intK intOk (fun ac w => by simp [execOp, Instr.makeMap, newObj, Sem.run, Sem.run_bind, Result.andThen])) rfl rfl ?_
  rintro _ _ ⟨m1, rfl, rfl⟩
  refine SL.eff (Eff.makeMap intK cntV intOk (fun ac w => by simp [execOp, Instr.makeMap, newObj, Sem.run, Sem.run_bind, Result.andThen])) rfl rfl ?_
  rintro _ _ ⟨m2, rfl, rfl⟩
  refine SL.val (Val.buildS tabOk rfl rfl rfl rfl) rfl rfl ?_
  refine SL.eff (Eff.boxA rfl) rfl rfl ?_
  rintro _ _ ⟨b4, rfl, rfl⟩
  refine SL.val (Val.assign rfl) rfl rfl ?_
  refine SL.nil (SE.seq ?_)
  refine SC.ret ?_
  refine SE.perm (List.Perm.cons _ (List.Perm.swap _ _ _)) ?_
  refine SE.fin (rs := [.tmp 0]) rfl (RV.tmp rfl RV.nil) (b4, m1, m2) (by repeat first|exact s0 _|exact s1 _|apply s2|apply s3) (by simp [It.rids]) ?_
  exact rfl
theorem int_zero : ∀ w, (zeroValue 3).run Try.prog w = .ok (cntV 0) w := fun w => by
  kernel_rfl
set_option maxHeartbeats 2000000 in
theorem er_change_s (hw : intOk who) (hti : TInv m c) (hl : m.length ≤ 1000) (hk : intOk k) (hok : ∀ w v, aget m w = some v → intOk v) : Spec Try.prog 49 [ptr t, int who, erE k] [.blk t 114 [mapV bv, mapV bn], .pc (mapPc bv intK intK intOk m), .pc (mapPc bn intK cntV intOk c)] (fun _ : Unit => [.blk t 114 [mapV bv, mapV bn], .pc (mapPc bv intK intK intOk (aput m who k)), .pc (mapPc bn intK cntV intOk (chgC m c who k))]) (fun _ => .tup []) := by
  refine spec_of Try.func49 rfl Try.ntmps49 rfl fun G w => ?_
  refine SC.seq ?_
  refine SC.seq (SC.region ?_)
  refine SL.val (Val.move rfl) rfl rfl ?_
  refine SL.val (Val.eqP rfl rfl (by kernel_rfl)) rfl rfl ?_
  refine SL.nil (SE.seq ?_)
  refine SC.condF rfl ?_
  refine SC.skip ?_
  refine SE.seq ?_
  refine SC.cutS (ι := Unit) (fun z => [.blk t 114 [mapV bv, mapV bn], .pc (mapPc bv intK intK intOk m), .pc (mapPc bn intK cntV intOk (decO c (aget m who)))]) (fun z => [(0, ptr t), (1, int who), (2, erE k)]) (fun z => True) ?_ ?_
  · skip
    refine SC.seq (SC.region ?_)
    refine SL.val (Val.move rfl) rfl rfl ?_
    refine SL.val (Val.nilCheck rfl) rfl rfl ?_
    refine SL.val (Val.fieldAddr tabOk rfl rfl rfl rfl rfl) rfl rfl ?_
    refine SL.val (Val.load1 tabOk rfl rfl (by first|(apply Or.inl;(repeat first|assumption|exact m0|apply m1);done)|(apply Or.inr;(repeat first|assumption|exact m0|apply m1);done)) List.not_mem_nil (by rfl)) rfl rfl ?_
    refine SL.val (Val.move rfl) rfl rfl ?_
    refine SL.val (Val.mapGetOk (a := who) (zv := (.int .i64 0)) (C := erA (aget m who)) (int_fit Try.underlying3) Try.underlying111 er_zero rfl (by first|(apply Or.inl;(repeat first|assumption|exact m0|apply m1);done)|(apply Or.inr;(repeat first|assumption|exact m0|apply m1);done)) List.not_mem_nil rfl is_v hw (erA_is _)) rfl rfl ?_
    refine SL.val (Val.move rfl) rfl rfl ?_
    refine SL.val (Val.extract rfl rfl) rfl rfl ?_
    refine SL.val (Val.extract rfl rfl) rfl rfl ?_
    refine SL.val (Val.assign rfl) rfl rfl ?_
    refine SL.val (Val.assign rfl) rfl rfl ?_
    refine SL.nil (SE.seq ?_)
    refine SC.seq (SC.region ?_)
    refine SL.val (Val.move rfl) rfl rfl ?_
    refine SL.nil (SE.seq ?_)
    refine SC.cond rfl ?_ ?_
    rotate_left
    · intro hc19
      have hv := isSome_none hc19
      rw [hv]
      refine SC.skip ?_
      refine SE.meet (()) (trivial) (by exact ⟨rfl, rfl, rfl, trivial⟩) (by repeat first|exact s0 _|exact s1 _|apply s2|apply s3)
    intro hc19
    obtain ⟨v, hv⟩ := isSome_some hc19
    rw [hv]
    refine SC.seq (SC.region ?_)
    refine SL.val (Val.move rfl) rfl rfl ?_
    refine SL.val (Val.nilCheck rfl) rfl rfl ?_
    refine SL.val (Val.fieldAddr tabOk rfl rfl rfl rfl rfl) rfl rfl ?_
    refine SL.val (Val.load1 tabOk rfl rfl (by first|(apply Or.inl;(repeat first|assumption|exact m0|apply m1);done)|(apply Or.inr;(repeat first|assumption|exact m0|apply m1);done)) List.not_mem_nil (by rfl)) rfl rfl ?_
    refine SL.val (Val.move rfl) rfl rfl ?_
    refine SL.val (Val.mapGet (a := v) (zv := cntV 0) (C := int ((cget c v : Nat) : Int)) (int_fit Try.underlying29) Try.underlying112 int_zero rfl (by first|(apply Or.inl;(repeat first|assumption|exact m0|apply m1);done)|(apply Or.inr;(repeat first|assumption|exact m0|apply m1);done)) List.not_mem_nil rfl (er_is _) (hok _ _ hv) (cget_is _ _)) rfl rfl ?_
    refine SL.val (Val.to (C := int ((cget c v - 1 : Nat) : Int)) (Val.subI rfl rfl (by have := hti.le v; simp only [InR, lo, hi]; omega)) (congrArg int (by have := hti.pos hv; omega))) rfl rfl ?_
    refine SL.eff (Eff.mapPut (a := v) (v := cget c v - 1) (m' := aput c v (cget c v - 1)) (int_fit Try.underlying29) Try.underlying112 rfl (by repeat first|assumption|exact Upd.here|apply Upd.there) rfl (er_is _) (hok _ _ hv) rfl is_v rfl) rfl rfl ?_
    rintro _ _ ⟨rfl, rfl⟩
    refine SL.nil (SE.seq ?_)
    refine SC.seq (SC.region ?_)
    refine SL.val (Val.move rfl) rfl rfl ?_
    refine SL.val (Val.nilCheck rfl) rfl rfl ?_
    refine SL.val (Val.fieldAddr tabOk rfl rfl rfl rfl rfl) rfl rfl ?_
    refine SL.val (Val.load1 tabOk rfl rfl (by first|(apply Or.inl;(repeat first|assumption|exact m0|apply m1);done)|(apply Or.inr;(repeat first|assumption|exact m0|apply m1);done)) List.not_mem_nil (by rfl)) rfl rfl ?_
    refine SL.val (Val.move rfl) rfl rfl ?_
    refine SL.val (Val.mapGet (a := v) (zv := cntV 0) (C := int ((cget (aput c v (cget c v - 1)) v : Nat) : Int)) (int_fit Try.underlying29) Try.underlying112 int_zero rfl (by first|(apply Or.inl;(repeat first|assumption|exact m0|apply m1);done)|(apply Or.inr;(repeat first|assumption|exact m0|apply m1);done)) List.not_mem_nil rfl (er_is _) (hok _ _ hv) (cget_is _ _)) rfl rfl ?_
    refine SL.val (Val.eqI rfl rfl) rfl rfl ?_
    refine SL.nil (SE.seq ?_)
    refine SC.condP rfl ?_ ?_
    rotate_left
    · intro hc33
      refine SC.skip ?_
      refine SE.meet () trivial ⟨rfl, rfl, rfl, trivial⟩ ?_
      rw [dec_keep (by omega)]
      repeat (first | exact List.nil_sublist _ | exact List.Sublist.refl _ | apply List.Sublist.cons_cons | apply List.Sublist.cons)
    intro hc33
    refine SC.region ?_
    refine SL.val (Val.move rfl) rfl rfl ?_
    refine SL.val (Val.nilCheck rfl) rfl rfl ?_
    refine SL.val (Val.fieldAddr tabOk rfl rfl rfl rfl rfl) rfl rfl ?_
    refine SL.val (Val.load1 tabOk rfl rfl (by first|(apply Or.inl;(repeat first|assumption|exact m0|apply m1);done)|(apply Or.inr;(repeat first|assumption|exact m0|apply m1);done)) List.not_mem_nil (by rfl)) rfl rfl ?_
    refine SL.val (Val.move rfl) rfl rfl ?_
    refine SL.eff (Eff.mapDel (a := v) (m' := decO c (some v)) (int_fit Try.underlying29) Try.underlying112 rfl (by repeat first|assumption|exact Upd.here|apply Upd.there) rfl (er_is _) (hok _ _ hv) (dec_del (by omega))) rfl rfl ?_
    rintro _ _ ⟨rfl, rfl⟩
    refine SL.nil ?_
    refine SE.meet (()) (trivial) (by exact ⟨rfl, rfl, rfl, trivial⟩) (by repeat first|exact s0 _|exact s1 _|apply s2|apply s3)
  · intro z0 hz0
    refine SC.seq (SC.region ?_)
    refine SL.val (Val.move rfl) rfl rfl ?_
    refine SL.val (Val.nilCheck rfl) rfl rfl ?_
    refine SL.val (Val.fieldAddr tabOk rfl rfl rfl rfl rfl) rfl rfl ?_
    refine SL.val (Val.load1 tabOk rfl rfl (by first|(apply Or.inl;(repeat first|assumption|exact m0|apply m1);done)|(apply Or.inr;(repeat first|assumption|exact m0|apply m1);done)) List.not_mem_nil (by rfl)) rfl rfl ?_
    refine SL.val (Val.move rfl) rfl rfl ?_
    refine SL.val (Val.move rfl) rfl rfl ?_
    refine SL.eff (Eff.mapPut (a := who) (v := k) (m' := aput m who k) (int_fit Try.underlying3) Try.underlying111 rfl (by repeat first|assumption|exact Upd.here|apply Upd.there) rfl is_v hw rfl (er_is _) rfl) rfl rfl ?_
    rintro _ _ ⟨rfl, rfl⟩
    refine SL.nil (SE.seq ?_)
    refine SC.region ?_
    refine SL.val (Val.move rfl) rfl rfl ?_
    refine SL.val (Val.nilCheck rfl) rfl rfl ?_
    refine SL.val (Val.fieldAddr tabOk rfl rfl rfl rfl rfl) rfl rfl ?_
    refine SL.val (Val.load1 tabOk rfl rfl (by first|(apply Or.inl;(repeat first|assumption|exact m0|apply m1);done)|(apply Or.inr;(repeat first|assumption|exact m0|apply m1);done)) List.not_mem_nil (by rfl)) rfl rfl ?_
    refine SL.val (Val.move rfl) rfl rfl ?_
    refine SL.val (Val.mapGet (a := k) (zv := cntV 0) (C := int ((cget (decO c (aget m who)) k : Nat) : Int)) (int_fit Try.underlying29) Try.underlying112 int_zero rfl (by first|(apply Or.inl;(repeat first|assumption|exact m0|apply m1);done)|(apply Or.inr;(repeat first|assumption|exact m0|apply m1);done)) List.not_mem_nil rfl (er_is _) hk (cget_is _ _)) rfl rfl ?_
    refine SL.val (Val.to (C := int ((cget (decO c (aget m who)) k + 1 : Nat) : Int)) (Val.addI rfl rfl (by have := hti.dec_le (aget m who) k; simp only [InR, lo, hi]; omega)) (congrArg int (by omega))) rfl rfl ?_
    refine SL.eff (Eff.mapPut (a := k) (v := cget (decO c (aget m who)) k + 1) (m' := chgC m c who k) (int_fit Try.underlying29) Try.underlying112 rfl (by repeat first|assumption|exact Upd.here|apply Upd.there) rfl (er_is _) hk rfl is_v rfl) rfl rfl ?_
    rintro _ _ ⟨rfl, rfl⟩
    refine SL.nil ?_
    refine SE.finN (rs := []) rfl RV.nil (()) (by repeat first|exact s0 _|exact s1 _|apply s2|apply s3) (by simp [It.rids]) ?_
    exact rfl
set_option maxHeartbeats 2000000 in
theorem er_add_s (hw : intOk who) (hti : TInv m c) (hl : m.length ≤ 1000) (hk : intOk k) (hok : ∀ w v, aget m w = some v → intOk v) : Spec Try.prog 29 [ptr t, int who, erE k] [.blk t 114 [mapV bv, mapV bn], .pc (mapPc bv intK intK intOk m), .pc (mapPc bn intK cntV intOk c)] (fun _ : Unit => [.blk t 114 [mapV bv, mapV bn], .pc (mapPc bv intK intK intOk (tAddM m who k)), .pc (mapPc bn intK cntV intOk (tAddC m c who k))]) (fun _ => boo (tAddB m who k)) := by
  refine spec_of Try.func29 rfl Try.ntmps29 rfl fun G w => ?_
  refine SC.seq (SC.region ?_)
  refine SL.val (Val.assign rfl) rfl rfl ?_
  refine SL.nil (SE.seq ?_)
  refine SC.seq ?_
  refine SC.seq (SC.region ?_)
  refine SL.val (Val.move rfl) rfl rfl ?_
  refine SL.val (Val.eqP rfl rfl (by kernel_rfl)) rfl rfl ?_
  refine SL.nil (SE.seq ?_)
  refine SC.condF rfl ?_
  refine SC.skip ?_
  refine SE.seq ?_
  refine SC.seq ?_
  refine SC.seq (SC.region ?_)
  refine SL.val (Val.move rfl) rfl rfl ?_
  refine SL.val (Val.nilCheck rfl) rfl rfl ?_
  refine SL.val (Val.fieldAddr tabOk rfl rfl rfl rfl rfl) rfl rfl ?_
  refine SL.val (Val.load1 tabOk rfl rfl (by first|(apply Or.inl;(repeat first|assumption|exact m0|apply m1);done)|(apply Or.inr;(repeat first|assumption|exact m0|apply m1);done)) List.not_mem_nil (by rfl)) rfl rfl ?_
  refine SL.val (Val.move rfl) rfl rfl ?_
  refine SL.val (Val.mapGetOk (a := who) (zv := (.int .i64 0)) (C := erA (aget m who)) (int_fit Try.underlying3) Try.underlying111 er_zero rfl (by first|(apply Or.inl;(repeat first|assumption|exact m0|apply m1);done)|(apply Or.inr;(repeat first|assumption|exact m0|apply m1);done)) List.not_mem_nil rfl is_v hw (erA_is _)) rfl rfl ?_
  refine SL.val (Val.move rfl) rfl rfl ?_
  refine SL.val (Val.extract rfl rfl) rfl rfl ?_
  refine SL.val (Val.extract rfl rfl) rfl rfl ?_
  refine SL.val (Val.assign rfl) rfl rfl ?_
  refine SL.val (Val.assign rfl) rfl rfl ?_
  refine SL.nil (SE.seq ?_)
  refine SC.seq (SC.region ?_)
  refine SL.val (Val.move rfl) rfl rfl ?_
  refine SL.nil (SE.seq ?_)
  refine SC.cond rfl ?_ ?_
  · intro hc20
    obtain ⟨v, hv⟩ := isSome_some hc20
    rw [hv]
    refine SC.seq (SC.region ?_)
    refine SL.val (Val.move rfl) rfl rfl ?_
    refine SL.val (Val.move rfl) rfl rfl ?_
    refine SL.val (Val.eqI rfl rfl) rfl rfl ?_
    refine SL.val (Val.assign rfl) rfl rfl ?_
    refine SL.nil (SE.seq ?_)
    refine SC.ret ?_
    refine SE.then_ (by intro h; cases h) ?_
    refine SE.fin (rs := [.tmp 6]) rfl (RV.tmp rfl RV.nil) (()) (by rw [tAddC_old hv, tAddM_old hv]; exact List.Sublist.refl _) (by simp [It.rids]) ?_
    exact congrArg (fun b => Abs.v (Value.bool b)) (tAddB_old hv).symm
  intro hc20
  have hv := isSome_none hc20
  refine SC.skip ?_
  refine SE.seq ?_
  refine SC.seq (SC.region ?_)
  refine SL.val (Val.move rfl) rfl rfl ?_
  refine SL.val (Val.move rfl) rfl rfl ?_
  refine SL.val (Val.move rfl) rfl rfl ?_
  refine SL.call (er_change_s (t := t) (bv := bv) (bn := bn) hw hti hl hk hok) Casts.refl (by kernel_rfl) rfl rfl rfl ?_
  refine After.three ⟨rfl, rfl, rfl⟩ (fun _ => rfl) ?_
  intro _
  refine SL.nil (SE.seq ?_)
  refine SC.seq (SC.region ?_)
  refine SL.val (Val.assign rfl) rfl rfl ?_
  refine SL.nil (SE.seq ?_)
  refine SC.ret ?_
  refine SE.fin (rs := [.tmp 6]) rfl (RV.tmp rfl RV.nil) (()) (by rw [tAddC_new hv, tAddM_new hv]; exact List.Sublist.refl _) (by simp [It.rids]) ?_
  exact congrArg (fun b => Abs.v (Value.bool b)) (tAddB_new hv).symm
end
section
variable {t bv bn : Nat} {m : List (Int × Int)} {c : List (Int × Nat)} {k who : Int}
theorem er_count_s (hk : intOk k) : Spec Try.prog 30 [ptr t, int k] [.blk t 114 [mapV bv, mapV bn], .pc (mapPc bv intK intK intOk m), .pc (mapPc bn intK cntV intOk c)] (fun _ : Unit => [.blk t 114 [mapV bv, mapV bn], .pc (mapPc bv intK intK intOk m), .pc (mapPc bn intK cntV intOk c)]) (fun _ => int ((cget c k : Nat) : Int)) := by
  refine spec_of Try.func30 rfl Try.ntmps30 rfl fun G w => ?_
  refine SC.seq (SC.region ?_)
  refine SL.val (Val.assign rfl) rfl rfl ?_
  refine SL.nil (SE.seq ?_)
  refine SC.seq ?_
  refine SC.seq (SC.region ?_)
  refine SL.val (Val.move rfl) rfl rfl ?_
  refine SL.val (Val.eqP rfl rfl (by kernel_rfl)) rfl rfl ?_
  refine SL.nil (SE.seq ?_)
  refine SC.condF rfl ?_
  refine SC.skip ?_
  refine SE.seq ?_
  refine SC.seq (SC.region ?_)
  refine SL.val (Val.move rfl) rfl rfl ?_
  refine SL.val (Val.nilCheck rfl) rfl rfl ?_
  refine SL.val (Val.fieldAddr tabOk rfl rfl rfl rfl rfl) rfl rfl ?_
  refine SL.val (Val.load1 tabOk rfl rfl (by first|(apply Or.inl;(repeat first|assumption|exact m0|apply m1);done)|(apply Or.inr;(repeat first|assumption|exact m0|apply m1);done)) List.not_mem_nil (by rfl)) rfl rfl ?_
  refine SL.val (Val.move rfl) rfl rfl ?_
  refine SL.val (Val.mapGet (a := k) (zv := cntV 0) (C := int ((cget c k : Nat) : Int)) (int_fit Try.underlying29) Try.underlying112 int_zero rfl (by first|(apply Or.inl;(repeat first|assumption|exact m0|apply m1);done)|(apply Or.inr;(repeat first|assumption|exact m0|apply m1);done)) List.not_mem_nil rfl (er_is _) hk (cget_is _ _)) rfl rfl ?_
  refine SL.val (Val.assign rfl) rfl rfl ?_
  refine SL.nil (SE.seq ?_)
  refine SC.ret ?_
  refine SE.fin (rs := [.tmp 4]) rfl (RV.tmp rfl RV.nil) (()) (by repeat first|exact s0 _|exact s1 _|apply s2|apply s3) (by simp [It.rids]) ?_
  exact rfl
theorem er_of_s (hw : intOk who) : Spec Try.prog 28 [ptr t, int who] [.blk t 114 [mapV bv, mapV bn], .pc (mapPc bv intK intK intOk m), .pc (mapPc bn intK cntV intOk c)] (fun _ : Unit => [.blk t 114 [mapV bv, mapV bn], .pc (mapPc bv intK intK intOk m), .pc (mapPc bn intK cntV intOk c)]) (fun _ => .tup [erA (aget m who), boo (aget m who).isSome]) := by
  refine spec_of Try.func28 rfl Try.ntmps28 rfl fun G w => ?_
  refine SC.seq (SC.region ?_)
  refine SL.val (Val.assign rfl) rfl rfl ?_
  refine SL.val (Val.assign rfl) rfl rfl ?_
  refine SL.nil (SE.seq ?_)
  refine SC.seq ?_
  refine SC.seq (SC.region ?_)
  refine SL.val (Val.move rfl) rfl rfl ?_
  refine SL.val (Val.eqP rfl rfl (by kernel_rfl)) rfl rfl ?_
  refine SL.nil (SE.seq ?_)
  refine SC.condF rfl ?_
  refine SC.skip ?_
  refine SE.seq ?_
  refine SC.seq (SC.region ?_)
  refine SL.val (Val.move rfl) rfl rfl ?_
  refine SL.val (Val.nilCheck rfl) rfl rfl ?_
  refine SL.val (Val.fieldAddr tabOk rfl rfl rfl rfl rfl) rfl rfl ?_
  refine SL.val (Val.load1 tabOk rfl rfl (by first|(apply Or.inl;(repeat first|assumption|exact m0|apply m1);done)|(apply Or.inr;(repeat first|assumption|exact m0|apply m1);done)) List.not_mem_nil (by rfl)) rfl rfl ?_
  refine SL.val (Val.move rfl) rfl rfl ?_
  refine SL.val (Val.mapGetOk (a := who) (zv := .int .i64 0) (C := erA (aget m who)) (int_fit Try.underlying3) Try.underlying111 er_zero rfl (by first|(apply Or.inl;(repeat first|assumption|exact m0|apply m1);done)|(apply Or.inr;(repeat first|assumption|exact m0|apply m1);done)) List.not_mem_nil rfl is_v hw (erA_is _)) rfl rfl ?_
  refine SL.val (Val.move rfl) rfl rfl ?_
  refine SL.val (Val.extract rfl rfl) rfl rfl ?_
  refine SL.val (Val.extract rfl rfl) rfl rfl ?_
  refine SL.val (Val.assign rfl) rfl rfl ?_
  refine SL.val (Val.assign rfl) rfl rfl ?_
  refine SL.nil (SE.seq ?_)
  refine SC.seq (SC.region ?_)
  refine SL.val (Val.move rfl) rfl rfl ?_
  refine SL.val (Val.move rfl) rfl rfl ?_
  refine SL.val (Val.assign rfl) rfl rfl ?_
  refine SL.val (Val.assign rfl) rfl rfl ?_
  refine SL.nil (SE.seq ?_)
  refine SC.ret ?_
  refine SE.fin (rs := [.tmp 4, .tmp 5]) rfl (RV.tmp rfl (RV.tmp rfl RV.nil)) (()) (by repeat first|exact s0 _|exact s1 _|apply s2|apply s3) (by simp [It.rids]) ?_
  exact rfl
end
end Go.Proofs.Ytmkijjmbiiiicaa.A
/-
  The second engine: what slices.Insert does with a row of the call's own: cut, grown, copied within.
-/
set_option maxRecDepth 100000
set_option linter.unusedSimpArgs false
set_option linter.unusedVariables false
namespace Go.Proofs.Ytmkijjmbiiiicaa.A
open Go.RowKit

/-- 's[q:]'. -/
def cutS (s : Nat) : Value → Nat → Value
  | .slice (some a) n c, q => .slice (some (if c = q then a else ⟨a.block, a.off + q * s, none⟩)) (n - q) (c - q)
  | .slice none n c, q => .slice none (n - q) (c - q)
  | v, _ => v
def capV : Value → Nat
  | .slice _ _ c => c
  | _ => 0
/-- A row's cells, as elements. -/
def chunks (s : Nat) : Nat → List Value → List (List Abs)
  | 0, _ => []
  | m + 1, l => (l.take s).map .v :: chunks s m (l.drop s)
theorem chunks_len (s : Nat) : ∀ (m : Nat) (l : List Value), (chunks s m l).length = m
  | 0, _ => rfl
  | m + 1, l => by simp [chunks, chunks_len s m]
theorem reps_vals {K : List Nat} {w : World} : ∀ l : List Value, reps K w (l.map .v) l
  | [] => rfl
  | u :: l => ⟨u, l, rfl, rfl, reps_vals l⟩
theorem repss_chunks {K : List Nat} {w : World} {s : Nat} : ∀ (m : Nat) (l : List Value), l.length = m * s → repss K w s (chunks s m l) l
  | 0, l, h => by
    rw [Nat.zero_mul] at h
    exact List.length_eq_zero_iff.1 h
  | m + 1, l, h => by
    rw [Nat.succ_mul] at h
    exact ⟨l.take s, l.drop s, (List.take_append_drop s l).symm, by rw [List.length_take]; omega, reps_vals _, repss_chunks m _ (by rw [List.length_drop]; omega)⟩
theorem repss_cut {K : List Nat} {w : World} {s : Nat} {xs : List (List Abs)} {us : List Value} (h : repss K w s xs us) (q : Nat) (hq : q ≤ xs.length) : repss K w s (xs.take q) (us.take (q * s)) ∧ repss K w s (xs.drop q) (us.drop (q * s)) := by
  have h1 := h
  rw [← List.take_append_drop q xs] at h1
  obtain ⟨u1, u2, e, h2, h3⟩ := repss_split h1
  have hl := repss_length h2
  rw [List.length_take, Nat.min_eq_left hq] at hl
  subst e
  rw [← hl, List.take_left, List.drop_left]
  exact ⟨h2, h3⟩
theorem repss_ones1 {K : List Nat} {w : World} {s : Nat} : ∀ {ys : List (List Abs)} {news : List Value}, (∀ c ∈ ys, ones c = true) → repss K w s ys news → ∀ u ∈ news, u.oneCell' = true
  | [], news, _, h, u, hu => by
    have : news = [] := h
    subst this
    cases hu
  | c :: ys, _, ho, ⟨u1, u2, h1, _, h3, h4⟩, u, hu => by
    subst h1
    rcases List.mem_append.1 hu with hu | hu
    · exact ones_reps h3 (ho c (by simp)) u hu
    · exact repss_ones1 (fun c hc => ho c (by simp [hc])) h4 u hu
/-- 'copy', whatever the elements' size. -/
theorem run_copy_s {P : Program} (w : World) (dT sT ty elem : TypeId) (g o dLen dCap : Nat) (a : Addr) (sLen sCap : Nat) (cur : Array Value) (t : TypeId) (cs : List Value) {I : TypeInfo}
    (hu : P.underlying dT = some (.slice elem)) (hq : P.info? elem = some I) (hg : w.heap[g]? = some (.cells cur t (0, 0))) (hn : cs.length = Nat.min sLen dLen * I.size)
    (hsrc : ∀ j v, cs[j]? = some v → w.cell? (a.add j) = some v) (hfit : o + cs.length ≤ cur.size) (h1 : ∀ v ∈ cs, v.oneCell' = true) :
    (Builtin.copy_ #[dT, sT] ty #[.slice (some ⟨g, o, none⟩) dLen dCap, .slice (some a) sLen sCap]).run P w = .ok (goInt (Nat.min sLen dLen)) (w.setRow g (cur.toList.take o ++ cs ++ cur.toList.drop (o + cs.length)).toArray) := by
  have hl := run_loadCells_list (P := P) w a cs hsrc
  have hst := run_storeCells_at P g o t cs 0 cur w hg (by simpa using hfit) h1
  simp [Builtin.copy_, run_underlying hu, Builtin.lenOf, Builtin.firstCells, sizeOf, typeInfo, hq, ← hn, hl, hst]
section
variable {P : Program} {n : Nat} {W : Wd} {σ τ : Blks} {l : Slots} {X : List Nat} {x y : Operand} {d : Option Nat} {ty t t' e e' : TypeId} {pos : String} {aft : Array Edge} {g : Option (Nat × Bool)} {v u : Value} {k : IntKind} {tab : List (Nat × TI)} {xs ys : List (List Abs)} {s q : Nat} {ops : Array Oper} {rest : List Oper} {Q : Exit → Act → World → Prop}
theorem own_hold {w : World} {a : Act} (hs : St n W σ l a w) (hb : own e s v xs ∈ σ) : ∃ us, w.ownsRow 0 e s v xs.length us ∧ repss (mids σ ++ W.G) w s xs us := hs.mem.hold _ hb
theorem owns_slice {w : World} {m : Nat} {us : List Value} (h : w.ownsRow 0 e s v m us) : ∃ A c, v = .slice A m c ∧ m ≤ c := by
  rcases h.2 with ⟨rfl, h0⟩ | ⟨gb, cap, cur, rfl, _, _, hn, _⟩
  · exact ⟨none, 0, by rw [h0], by omega⟩
  · exact ⟨_, cap, rfl, hn⟩
/-- 's[q:]' of a row of the call's own, whatever the elements' size. -/
theorem Val.cutLo (hT : TabOk P tab) {j : TI} (hu : P.underlying t = some (.slice e)) (hj : ti tab e = some j) (h1 : Nat.beq j.size s = true) (hx : look l x = some (.v v)) (hb : own e' s v xs ∈ σ) {r : Int} (hy : look l y = some (.v (.int k r))) (hr : r = (q : Nat)) (hq : q ≤ xs.length) :
    Val P n W σ l X ⟨d, .slice t x (some y) none none, ty, pos, aft, g⟩ (.v (cutS s v q)) := fun a w hs _ => by
  subst hr
  have h1 := Nat.eq_of_beq_eq_true h1
  obtain ⟨us, hr1, _⟩ := own_hold hs hb
  rcases hr1.2 with ⟨rfl, h0⟩ | ⟨gb, c, cur, rfl, _, _, hn, _⟩
  · have hq0 : q = 0 := by omega
    subst hq0
    refine ⟨_, rfl, fun w' _ => ?_⟩
    have h7 := (hT _ _ hj).sizeOf (w := w')
    have e1 : a.eval x = .slice none 0 0 := hs.plain hx
    have e2 : a.eval y = .int k ((0 : Nat) : Int) := hs.plain hy
    simp [execOp, Instr.sliceAt, Instr.slice, Instr.sliceBounds, Instr.sliceBound, asIntOf, e1, e2, run_underlying hu, Sem.run_bind, Result.andThen, h7, cutS]
  · refine ⟨_, rfl, fun w' _ => ?_⟩
    have h7 := (hT _ _ hj).sizeOf (w := w')
    have e1 : a.eval x = .slice (some ⟨gb, 0, none⟩) xs.length c := hs.plain hx
    have e2 : a.eval y = .int k ((q : Nat) : Int) := hs.plain hy
    by_cases hc : c = q <;> simp [execOp, Instr.sliceAt, Instr.slice, Instr.sliceBounds, Instr.sliceBound, asIntOf, e1, e2, run_underlying hu, Sem.run_bind, Result.andThen, h7, h1, hq, hc, Addr.add, cutS]
    try omega
/-- 's[:q]', beyond its length too, as far as its capacity goes. -/
theorem Val.cutUp (hT : TabOk P tab) {j : TI} (hu : P.underlying t = some (.slice e)) (hj : ti tab e = some j) (hx : look l x = some (.v v)) (hb : own e' s v xs ∈ σ) {r : Int} (hy : look l y = some (.v (.int k r))) (hr : r = (q : Nat)) (hq : q ≤ capV v) :
    Val P n W σ l X ⟨d, .slice t x none (some y) none, ty, pos, aft, g⟩ (.v (cutTo v q)) := fun a w hs _ => by
  subst hr
  obtain ⟨us, hr1, _⟩ := own_hold hs hb
  obtain ⟨A', c, rfl, _⟩ := owns_slice hr1
  refine ⟨_, rfl, fun w' _ => ?_⟩
  have h7 := (hT _ _ hj).sizeOf (w := w')
  have e1 : a.eval x = .slice A' xs.length c := hs.plain hx
  have e2 : a.eval y = .int k ((q : Nat) : Int) := hs.plain hy
  have hq' : q ≤ c := hq
  have h8 : ∀ a : Addr, a.spot = none → a.add 0 = a := fun a ha => by obtain ⟨b, o, r⟩ := a; cases ha; rfl
  rcases Nat.eq_zero_or_pos c with hc | hc
  · subst hc
    obtain rfl : q = 0 := by omega
    cases A' <;> simp [execOp, Instr.sliceAt, Instr.slice, Instr.sliceBounds, Instr.sliceBound, asIntOf, e1, e2, run_underlying hu, Sem.run_bind, Result.andThen, h7, cutTo]
  · have hc : ¬ c = 0 := by omega
    cases A' with
    | none => simp [execOp, Instr.sliceAt, Instr.slice, Instr.sliceBounds, Instr.sliceBound, asIntOf, e1, e2, run_underlying hu, Sem.run_bind, Result.andThen, h7, hq', cutTo, hc]
    | some A =>
      have hA : A.spot = none := by
        rcases hr1.2 with ⟨h, _⟩ | ⟨gb, cap, cur, h, _⟩
        · cases h
        · cases h; rfl
      simp [execOp, Instr.sliceAt, Instr.slice, Instr.sliceBounds, Instr.sliceBound, asIntOf, e1, e2, run_underlying hu, Sem.run_bind, Result.andThen, h7, hq', cutTo, hc, h8 A hA]
theorem Val.capOwn (hx : look l x = some (.v v)) (hb : own e' s v xs ∈ σ) (ht : P.underlying t = some (.slice e)) : Val P n W σ l X ⟨d, .call { callee := .builtin .cap, args := #[x], argTypes := #[t] }, ty, pos, aft, g⟩ (.v (.int .i64 (capV v : Nat))) := fun a w hs _ => by
  obtain ⟨us, hr1, _⟩ := own_hold hs hb
  obtain ⟨A', c, rfl, _⟩ := owns_slice hr1
  refine ⟨_, rfl, fun w' _ => ?_⟩
  have e1 : a.eval x = .slice A' xs.length c := hs.plain hx
  simp [execOp, resolve, invoke, builtin, Builtin.cap_, e1, run_underlying ht, Sem.run_bind, Result.andThen, goInt, capV]
/-- A row of the call's own, longer: what lies behind it belongs to it. -/
theorem St.growOwn {a : Act} {w : World} (h : St n W σ l a w) (hb : own e s v xs ∈ σ) (hq : xs.length ≤ q) (hc : q ≤ capV v) : ∃ js : List (List Abs), js.length + xs.length = q ∧ ∀ τ, Upd (own e s v xs) (own e s (cutTo v q) (xs ++ js)) σ τ → St n W τ l a w := by
  obtain ⟨us, hown, hr⟩ := own_hold h hb
  rcases hown.2 with ⟨rfl, h0⟩ | ⟨gb, cap, cur, rfl, hbase, hg, hn, hcap, hsz, htk⟩
  · have hq0 : q = 0 := by simp only [capV] at hc; omega
    refine ⟨[], by simp; omega, fun τ hu => ?_⟩
    have hx0 : xs = [] := List.length_eq_zero_iff.1 h0
    subst hx0 hq0
    have := upd_self (x := own e s (.slice none 0 0) []) hu
    rw [this]
    exact h
  · simp only [capV] at hc
    have hle : q * s ≤ cap * s := Nat.mul_le_mul_right _ hc
    have hle2 : xs.length * s ≤ q * s := Nat.mul_le_mul_right _ hq
    have hjl : ((cur.toList.take (q * s)).drop (xs.length * s)).length = (q - xs.length) * s := by
      rw [List.length_drop, List.length_take, Nat.min_eq_left (by simp; omega), Nat.sub_mul]
    refine ⟨chunks s (q - xs.length) ((cur.toList.take (q * s)).drop (xs.length * s)), by rw [chunks_len]; omega, fun τ hu => ?_⟩
    have hl : (xs ++ chunks s (q - xs.length) ((cur.toList.take (q * s)).drop (xs.length * s))).length = q := by rw [List.length_append, chunks_len]; omega
    have hm := h.mem.upd hu (Ext.refl w) own_nodup (fun k hk => .inl (by simpa [It.mids, ownPc, cutTo_block] using hk)) rfl fun hca => by
      refine ⟨cur.toList.take (q * s), ⟨?_, .inr ⟨gb, cap, cur, ?_, hbase, hg, by rw [hl]; exact hc, hcap, hsz, by rw [hl]⟩⟩, ?_⟩
      · rw [hl, List.length_take, Nat.min_eq_left (by simp; omega)]
      · rw [hl]; rfl
      · have e1 : cur.toList.take (q * s) = us ++ (cur.toList.take (q * s)).drop (xs.length * s) := by
          rw [← htk]
          have := List.take_append_drop (xs.length * s) (cur.toList.take (q * s))
          rw [List.take_take, Nat.min_eq_left hle2] at this
          exact this.symm
        rw [e1]
        refine repss_append (repss_carry hca _ _ _ hr) ?_
        rw [← e1]
        exact repss_chunks _ _ hjl
    exact h.to hm.1 hm.2
theorem SL.growOwn (hb : own e s v xs ∈ σ) (hq : xs.length ≤ q) (hc : q ≤ capV v) (k : ∀ (js : List (List Abs)), js.length + xs.length = q → ∃ τ, Upd (own e s v xs) (own e s (cutTo v q) (xs ++ js)) σ τ ∧ SL P ops rest (St n W τ l) Q) : SL P ops rest (St n W σ l) Q := fun a w h => by
  obtain ⟨js, h1, h2⟩ := h.growOwn hb hq hc
  obtain ⟨τ, h3, h4⟩ := k js h1
  exact h4 a w (h2 τ h3)
theorem SC.growOwn {c : Code} (hb : own e s v xs ∈ σ) (hq : xs.length ≤ q) (hc : q ≤ capV v) (k : ∀ (js : List (List Abs)), js.length + xs.length = q → ∃ τ, Upd (own e s v xs) (own e s (cutTo v q) (xs ++ js)) σ τ ∧ SC P c (St n W τ l) Q) : SC P c (St n W σ l) Q := fun a w h => by
  obtain ⟨js, h1, h2⟩ := h.growOwn hb hq hc
  obtain ⟨τ, h3, h4⟩ := k js h1
  exact h4 a w (h2 τ h3)
/-- slices.overlaps of two rows of the call's own: they lie apart. -/
theorem Val.overlapsOff {f : FuncId} {fn : Func} {ats : Array TypeId} {tr : TypeId} {α β : Blks} (hf : P.funcs[f]? = some fn) (h1 : (fn.name == "runtime.NumGoroutine") = false) (h2 : fn.body.isNone = true) (h3 : Extern.findNext fn = none) (h4 : Extern.find fn = some (Extern.SlicesOverlaps.overlaps #[t, t] #[tr]))
    (hT : TabOk P tab) {j : TI} (hu : P.underlying t = some (.slice e)) (hj : ti tab e = some j) (hsz : Nat.beq j.size s = true) (hpos : Nat.blt 0 s = true)
    (hx : look l x = some (.v u)) (hy : look l y = some (.v (cutS s v q))) (hσ : σ = α ++ own e s v xs :: β) (hb : own e s u ys ∈ α ++ β) (hys : 0 < ys.length) (hq : q < xs.length) :
    Val P n W σ l [] ⟨d, .call { callee := .value (.func f), args := #[x, y], argTypes := ats }, ty, pos, aft, g⟩ (.v (.bool false)) := fun a w hs _ => by
  have hsz := Nat.eq_of_beq_eq_true hsz
  have hpos : 0 < s := by simpa [Nat.blt_eq] using hpos
  have hbv : own e s v xs ∈ σ := by rw [hσ]; simp
  have hbu : own e s u ys ∈ σ := by
    rw [hσ]
    rcases List.mem_append.1 hb with h | h
    · simp [h]
    · simp [h]
  obtain ⟨us, hv, _⟩ := own_hold hs hbv
  obtain ⟨us2, hu2, _⟩ := own_hold hs hbu
  rcases hv.2 with ⟨_, h0⟩ | ⟨gb, cap, cur, rfl, _, hg, hn, _, hcs, _⟩
  · omega
  rcases hu2.2 with ⟨_, h0⟩ | ⟨gb2, cap2, cur2, rfl, _, hg2, hn2, _, hcs2, _⟩
  · omega
  have hne : gb2 ≠ gb := fun he => by
    have hnd := hs.mem.nodup
    rw [hσ, mids_append, mids_cons, List.nodup_append, List.nodup_append] at hnd
    subst he
    have hk : gb2 ∈ (own e s (.slice (some ⟨gb2, 0, none⟩) xs.length cap) xs).mids := by simp [It.mids, ownPc, Value.ownBlock]
    have hk2 : gb2 ∈ (own e s (.slice (some ⟨gb2, 0, none⟩) ys.length cap2) ys).mids := by simp [It.mids, ownPc, Value.ownBlock]
    rcases List.mem_append.1 hb with h | h
    · exact hnd.2.2 gb2 (mids_mem.2 ⟨_, h, hk2⟩) gb2 (List.mem_append_left _ hk) rfl
    · exact hnd.2.1.2.2 gb2 hk gb2 (mids_mem.2 ⟨_, h, hk2⟩) rfl
  refine ⟨_, rfl, fun w' hw' => ?_⟩
  have hg' : w'.heap[gb]? = some (.cells cur e (0, 0)) := (hw'.block gb (heap_lt hg) (by simp)).trans hg
  have hg2' : w'.heap[gb2]? = some (.cells cur2 e (0, 0)) := (hw'.block gb2 (heap_lt hg2) (by simp)).trans hg2
  have hcq : ¬ cap = q := by omega
  have e1 : a.eval x = .slice (some ⟨gb2, 0, none⟩) ys.length cap2 := hs.plain hx
  have e2 : a.eval y = .slice (some ⟨gb, 0 + q * s, none⟩) (xs.length - q) (cap - q) := by
    have := hs.plain hy
    simp only [cutS, hcq, if_false] at this
    exact this
  have hpos2 : 0 < cur.size := by
    rw [hcs]
    exact Nat.mul_pos (by omega) hpos
  have hrun := Lib.run_overlaps_apart (P := P) w' t tr e hu j.size (fun w => (hT _ _ hj).sizeOf (w := w)) ⟨gb2, 0, none⟩ ⟨gb, 0 + q * s, none⟩ ys.length cap2 (xs.length - q) (cap - q) hne e e cur2.size cur.size
    (by simp [World.shape?, hg2']) (by simp [World.shape?, hg']) (by omega) (by simp [World.frozen?, hg2']) (by simp [World.frozen?, hg2'])
  have hcf := run_callFunc_extern hf h1 h2 h3 h4 #[a.eval x, a.eval y] w'
  rw [e1, e2, hrun] at hcf
  have hfn : a.eval (.func f) = .func (.func f) #[] #[] := rfl
  simp only [Result.andThen, Nat.zero_add] at hcf
  simp [execOp, resolve, hfn, Deferred.ofValue, invoke, e1, e2, hcf, Sem.run_bind, Result.andThen]
/-- What 'copy' reads: a row's first elements. -/
def Src (n : Nat) (W : Wd) (σ : Blks) (l : Slots) (y : Operand) (s m : Nat) (ys : List (List Abs)) : Prop := ∀ a w, St n W σ l a w → ∃ A M c news, a.eval y = .slice (some A) M c ∧ min M m = ys.length ∧ repss (mids σ ++ W.G) w s ys news ∧ ∀ j u, news[j]? = some u → w.cell? (A.add j) = some u
theorem Src.ofOwn {m : Nat} (hy : look l y = some (.v (cutS s v q))) (hb : own e s v xs ∈ σ) (hq : q < xs.length) (hm : min (xs.length - q) m = ys.length) (he : (xs.drop q).take ys.length = ys) : Src n W σ l y s m ys := fun a w hs => by
  obtain ⟨us, hv, hr⟩ := own_hold hs hb
  rcases hv.2 with ⟨_, h0⟩ | ⟨gb, cap, cur, rfl, _, hg, hn, _, hcs, htk⟩
  · omega
  have hcq : ¬ cap = q := by omega
  have e2 : a.eval y = .slice (some ⟨gb, 0 + q * s, none⟩) (xs.length - q) (cap - q) := by
    have := hs.plain hy
    simp only [cutS, hcq, if_false] at this
    exact this
  have hr2 := (repss_cut (repss_cut hr q (by omega)).2 ys.length (by rw [List.length_drop, ← hm]; exact Nat.min_le_left _ _)).1
  rw [he] at hr2
  refine ⟨_, _, _, _, e2, hm, hr2, fun j u hj => ?_⟩
  rw [List.getElem?_take] at hj
  split at hj
  · rw [List.getElem?_drop] at hj
    rw [Addr.add_none, ← htk, List.getElem?_take] at *
    split at hj
    · simp only [World.cell?, hg]
      simpa [Nat.zero_add] using hj
    · cases hj
  · cases hj
theorem Src.ofAll {m : Nat} (hy : look l y = some (.v v)) (hb : own e s v xs ∈ σ) (hq : 0 < xs.length) (hm : min xs.length m = xs.length) : Src n W σ l y s m xs := fun a w hs => by
  obtain ⟨us, hv, hr⟩ := own_hold hs hb
  rcases hv.2 with ⟨_, h0⟩ | ⟨gb, cap, cur, rfl, _, hg, hn, _, hcs, htk⟩
  · omega
  refine ⟨_, _, _, _, hs.plain hy, hm, hr, fun j u hj => ?_⟩
  rw [Addr.add_none, ← htk, List.getElem?_take] at *
  split at hj
  · simp only [World.cell?, hg]
    simpa using hj
  · cases hj
/-- 'copy(s[q:], ..)' into a row of the call's own. -/
theorem Eff.copyRow (hT : TabOk P tab) {j : TI} {zs : List (List Abs)} (hu : P.underlying t = some (.slice e)) (hj : ti tab e = some j) (hsz : Nat.beq j.size s = true) (hx : look l x = some (.v (cutS s v q))) (hq : q < xs.length) (hsrc : Src n W σ l y s (xs.length - q) ys) (h1 : ∀ c ∈ ys, ones c = true) (hz : xs.take q ++ ys ++ xs.drop (q + ys.length) = zs) (hup : Upd (own e s v xs) (own e s v zs) σ τ) :
    Eff P n W σ l v.ownBlock.toList ⟨d, .call { callee := .builtin .copy, args := #[x, y], argTypes := #[t, t'] }, ty, pos, aft, g⟩ fun r τ' => r = .v (.int .i64 (ys.length : Nat)) ∧ τ' = τ := fun a w hs => by
  have hsz := Nat.eq_of_beq_eq_true hsz
  obtain ⟨us, hown, hr⟩ := own_hold hs hup.mem
  obtain ⟨A, M, c, news, e2, hm, hr2, hc2⟩ := hsrc a w hs
  have hm : Nat.min M (xs.length - q) = ys.length := hm
  have hlen2 := repss_length hr2
  have hone := repss_ones1 h1 hr2
  have hfit : q + ys.length ≤ xs.length := by
    have : Nat.min M (xs.length - q) ≤ xs.length - q := Nat.min_le_right _ _
    omega
  obtain ⟨I, hI, hIs, _⟩ := (hT e j hj).info
  rcases hown.2 with ⟨_, h0⟩ | ⟨gb, cap, cur, rfl, hbase, hg, hn, hcap, hcs, htk⟩
  · omega
  have hcq : ¬ cap = q := by omega
  have e1 : a.eval x = .slice (some ⟨gb, 0 + q * s, none⟩) (xs.length - q) (cap - q) := by
    have := hs.plain hx
    simp only [cutS, hcq, if_false] at this
    exact this
  have hb1 : q * s + ys.length * s ≤ xs.length * s := by rw [← Nat.add_mul]; exact Nat.mul_le_mul_right _ hfit
  have hb2 : xs.length * s ≤ cap * s := Nat.mul_le_mul_right _ hn
  have hrun := run_copy_s (P := P) w t t' ty e gb (0 + q * s) (xs.length - q) (cap - q) A M c cur e news hu hI hg (by rw [hm, hIs, hsz, hlen2]) hc2 (by omega) hone
  rw [hm] at hrun
  have hxx : Ext (Value.ownBlock (.slice (some ⟨gb, 0, none⟩) xs.length cap)).toList w (w.setRow gb (cur.toList.take (0 + q * s) ++ news ++ cur.toList.drop (0 + q * s + news.length)).toArray) := (Ext.refl w).setRow (.inl (by simp [Value.ownBlock])) _
  have hzl : zs.length = xs.length := by
    rw [← hz]
    simp only [List.length_append, List.length_take, List.length_drop]
    omega
  have hnew : (cur.toList.take (0 + q * s) ++ news ++ cur.toList.drop (0 + q * s + news.length)).take (xs.length * s) = us.take (q * s) ++ news ++ us.drop ((q + ys.length) * s) := by
    have hcl : cur.toList.length = cap * s := by simp [hcs]
    rw [← htk, Nat.zero_add, Nat.add_mul]
    rw [← hlen2] at hb1 ⊢
    generalize q * s = q' at *
    generalize xs.length * s = n' at *
    generalize cap * s = c' at *
    apply List.ext_getElem?
    intro j
    simp only [List.getElem?_take, List.getElem?_append, List.length_append, List.length_take, List.getElem?_drop]
    grind
  have hm2 := hs.mem.upd hup hxx own_nodup (fun k hk => .inl (by simpa [It.mids, ownPc, Value.ownBlock] using hk)) rfl fun hca => by
    refine ⟨us.take (q * s) ++ news ++ us.drop ((q + ys.length) * s), ⟨?_, .inr ⟨gb, cap, _, by rw [hzl], hbase, setRow_heap w gb cur _ e (0, 0) hg, by rw [hzl]; exact hn, hcap, ?_, ?_⟩⟩, ?_⟩
    · rw [hzl, ← hnew, List.length_take]
      simp only [List.length_append, List.length_take, List.length_drop, Array.length_toList]
      omega
    · simp only [List.size_toArray, List.length_append, List.length_take, List.length_drop, Array.length_toList]
      omega
    · rw [hzl]
      simpa using hnew
    · rw [← hz]
      refine repss_append (repss_append ?_ (repss_carry hca _ _ _ hr2)) ?_
      · exact repss_carry hca _ _ _ (repss_cut hr q (by omega)).1
      · exact repss_carry hca _ _ _ (repss_cut hr (q + ys.length) (by omega)).2
  refine ⟨_, _, _, _, ⟨rfl, rfl⟩, hxx, rfl, hm2.1, hm2.2, .inl ?_⟩
  simp only [Nat.zero_add, List.append_assoc] at hrun e1 ⊢
  simp [execOp, resolve, invoke, builtin, e1, e2, hrun, Result.andThen, goInt]
/-- 'append(s[:q], make(S, m)...)' where there is no room: a new row. -/
theorem Eff.appendZeros (hT : TabOk P tab) {j : TI} {m : Nat} {r : Int} {tn : TypeId} {kn : IntKind} (hu : P.underlying t = some (.slice e)) (htn : P.underlying tn = some (.int kn)) (hj : ti tab e = some j) (hsz : Nat.beq j.size s = true) (hpos : Nat.blt 0 s = true) (hx : look l x = some (.v (cutTo v q))) (hb : own e s v xs ∈ σ) (hy : look l y = some (.v (.int k r))) (hr : r = (m : Nat)) (hq : q < xs.length) (hm : 0 < m) (hroom : capV v < q + m) (hml : q + m ≤ maxLen) (hby : (q + m) * P.bytesOf e ≤ 140737488355328) :
    Eff P n W σ l [] ⟨d, .call { callee := .builtin .append, args := #[x, y], argTypes := #[t, tn] }, ty, pos, aft, g⟩ fun u τ => ∃ v' js, u = .v v' ∧ js.length = m ∧ τ = own e s v' (xs.take q ++ js) :: σ := fun a w hs => by
  subst hr
  have hsz := Nat.eq_of_beq_eq_true hsz
  have hpos : 0 < s := by simpa [Nat.blt_eq] using hpos
  obtain ⟨us, hown, hr⟩ := own_hold hs hb
  obtain ⟨I, hI, hIs, z, hz, hzc⟩ := (hT e j hj).info
  have hzl := (hT e j hj).len
  have hbi := bytes_of hI
  rcases hown.2 with ⟨_, h0⟩ | ⟨gb, cap, cur, rfl, hbase, hg, hn, hcap, hcs, htk⟩
  · omega
  simp only [capV] at hroom
  have hqs : q * s ≤ xs.length * s := Nat.mul_le_mul_right _ (by omega)
  have hnc : xs.length * s ≤ cap * s := Nat.mul_le_mul_right _ hn
  have hul := hown.1
  have hold : (Builtin.firstCells I.size q (.slice (some ⟨gb, 0, none⟩) q cap)).run P w.drew = .ok (us.take (q * s)).toArray w.drew := by
    rw [hIs, hsz]
    refine run_firstCells_some (P := P) w.drew s q ⟨gb, 0, none⟩ q cap (us.take (q * s)) (by rw [List.length_take]; omega) fun i u hi => ?_
    rw [List.getElem?_take] at hi
    split at hi
    · rw [Addr.add_none]
      rw [← htk, List.getElem?_take] at hi
      split at hi
      · show w.cell? _ = _
        simp only [World.cell?, hg]
        simpa using hi
      · cases hi
    · cases hi
  have hrun := Lib.run_append_grow_zeros (P := P) w t tn ty e I z k kn hu htn hI hz (some ⟨gb, 0, none⟩) q cap (us.take (q * s)) hold m hm (by rw [hIs, hsz]; exact hpos) hroom (by unfold maxLen at hml; omega)
    (by rw [← hbi]; have : m * P.bytesOf e ≤ (q + m) * P.bytesOf e := Nat.mul_le_mul_right _ (by omega); omega) (growslice_fits hroom (by rw [← hbi]; exact hby))
  obtain ⟨G, hG⟩ : ∃ G, grownCap w (q + m) cap e = G := ⟨_, rfl⟩
  have hG1 : q + m ≤ G := hG ▸ grownCap_ge w _ _ _
  have hG2 : G ≤ maxLen := hG ▸ grownCap_le_maxLen w _ _ _ hml
  rw [hG] at hrun
  obtain ⟨ROW, hROW⟩ : ∃ ROW, (us.take (q * s)).toArray ++ Builtin.zeroCells z.cells m ++ Builtin.zeroCells z.cells (G - (q + m)) = ROW := ⟨_, rfl⟩
  rw [hROW] at hrun
  have hzs : z.cells.size = s := by rw [hzc, List.size_toArray, hzl, hsz]
  have hz1 : ∀ m, (Builtin.zeroCells z.cells m).size = m * s := fun m => by simp [Builtin.zeroCells, hzs]
  have hz2 : ∀ m, (Builtin.zeroCells z.cells m).toList.length = m * s := fun m => by rw [Array.length_toList, hz1]
  obtain ⟨js, hjs⟩ : ∃ js, chunks s m (Builtin.zeroCells z.cells m).toList = js := ⟨_, rfl⟩
  have hjl : js.length = m := by rw [← hjs, chunks_len]
  have hx0 : Ext [] w (w.drew.alloc (.cells ROW e)) := ((Ext.refl w).drew).alloc _
  have hrs : ROW.size = G * s := by
    rw [← hROW]
    simp only [Array.size_append, hz1, List.size_toArray, List.length_take]
    rw [Nat.min_eq_left (by omega), ← Nat.add_mul, ← Nat.add_mul]
    congr 1
    omega
  have hlen : (xs.take q ++ js).length = q + m := by
    rw [List.length_append, List.length_take, hjl]
    omega
  have hm2 := hs.mem.new (y := own e s (.slice (some ⟨w.heap.size, 0, none⟩) (q + m) G) (xs.take q ++ js)) hx0 own_nodup (by simp [It.mids, ownPc, Value.ownBlock]) rfl fun hca => by
    refine ⟨us.take (q * s) ++ (Builtin.zeroCells z.cells m).toList, ⟨?_, .inr ⟨w.heap.size, G, ROW, by rw [hlen], by omega, ?_, by rw [hlen]; exact hG1, hG2, hrs, ?_⟩⟩, repss_append (repss_carry hca _ _ _ (repss_cut hr q (by omega)).1) (hjs ▸ repss_chunks m _ (by rw [Array.length_toList, hz1]))⟩
    · rw [hlen, List.length_append, List.length_take, hz2, Nat.add_mul]
      omega
    · exact heap_alloc_new w.drew _
    · rw [hlen, ← hROW]
      simp only [Array.toList_append, List.append_assoc]
      rw [← List.append_assoc, List.take_append_of_le_length (by rw [List.length_append, List.length_take, hz2, Nat.add_mul]; omega), List.take_of_length_le (by rw [List.length_append, List.length_take, hz2, Nat.add_mul]; omega)]
  refine ⟨_, _, _, _, ⟨_, js, rfl, hjl, rfl⟩, hx0, rfl, hm2.1, hm2.2, .inl ?_⟩
  have e1 : a.eval x = .slice (some ⟨gb, 0, none⟩) q cap := hs.plain hx
  have e2 : a.eval y = .int k ((m : Nat) : Int) := hs.plain hy
  simp [execOp, resolve, invoke, builtin, e1, e2, hrun, Result.andThen]
end
theorem Casts.of_eq {xs ys : List Abs} (h : xs = ys) : Casts xs ys := h ▸ Casts.refl
section
variable {xs js : List (List Abs)} {y : List Abs} {i : Nat}
theorem ins_a (hi : i < xs.length) (hj : js.length = xs.length + 1 - i) : (xs.take i ++ js).take i ++ [y] ++ (xs.take i ++ js).drop (i + [y].length) = xs.take i ++ y :: js.drop 1 := by
  rw [List.take_append_of_le_length (by rw [List.length_take]; omega), List.take_take, Nat.min_self, List.drop_append, List.drop_of_length_le (by rw [List.length_take]; simp; omega), List.length_take, Nat.min_eq_left (by omega)]
  simp
theorem ins_b (hi : i < xs.length) (hj : js.length = xs.length + 1 - i) : (xs.take i ++ y :: js.drop 1).take (i + 1) ++ xs.drop i ++ (xs.take i ++ y :: js.drop 1).drop (i + 1 + (xs.drop i).length) = xs.take i ++ y :: xs.drop i := by
  have h1 : (xs.take i ++ y :: js.drop 1).drop (i + 1 + (xs.drop i).length) = [] := List.drop_of_length_le (by simp; omega)
  rw [h1, List.append_nil, List.take_append, List.length_take, Nat.min_eq_left (by omega), List.take_take, Nat.min_eq_right (by omega), Nat.add_sub_cancel_left, List.append_assoc]
  rfl
theorem ins_c (hi : i < xs.length) (hj : js.length + xs.length = xs.length + 1) : (xs ++ js).take (i + 1) ++ xs.drop i ++ (xs ++ js).drop (i + 1 + (xs.drop i).length) = (xs ++ js).take (i + 1) ++ xs.drop i := by
  have h1 : (xs ++ js).drop (i + 1 + (xs.drop i).length) = [] := List.drop_of_length_le (by simp; omega)
  rw [h1, List.append_nil]
theorem ins_d (hi : i < xs.length) (hj : js.length + xs.length = xs.length + 1) : ((xs ++ js).take (i + 1) ++ xs.drop i).take i ++ [y] ++ ((xs ++ js).take (i + 1) ++ xs.drop i).drop (i + [y].length) = xs.take i ++ y :: xs.drop i := by
  have h1 : ((xs ++ js).take (i + 1)).length = i + 1 := by rw [List.length_take, List.length_append]; omega
  rw [List.take_append_of_le_length (by omega), List.take_take, Nat.min_eq_left (by omega), List.take_append_of_le_length (by omega), List.drop_append, List.drop_of_length_le (by simp; omega), h1]
  simp
theorem ins_len (hi : i < xs.length) (hj : js.length + xs.length = xs.length + 1) : ((xs ++ js).take (i + 1) ++ xs.drop i).length = xs.length + 1 := by
  simp only [List.length_append, List.length_take, List.length_drop]
  omega
theorem ins_src (hi : i < xs.length) : ((xs ++ js).drop i).take (xs.drop i).length = xs.drop i := by
  rw [List.drop_append_of_le_length (by omega), List.take_left]
theorem ins_all (hi : i = xs.length) : xs ++ [y] = xs.take i ++ y :: xs.drop i := by
  subst hi
  simp
theorem ins_ones (h1 : ∀ c ∈ xs, ones c = true) (q : Nat) : ∀ c ∈ xs.drop q, ones c = true := fun c hc => h1 c (List.mem_of_mem_drop hc)
end
end Go.Proofs.Ytmkijjmbiiiicaa.A
/-
  '==' on cores.
-/
set_option maxRecDepth 100000
set_option linter.unusedSimpArgs false
set_option linter.unusedVariables false
namespace Go.Proofs.Ytmkijjmbiiiicaa.A
open Go.RowKit

/-- What comes in of a core. -/
def Core.ins (c : Core) : Prop := InR .i64 c.client ∧ InR .i64 c.stamp ∧ InR .i64 c.op ∧ InR .i64 c.a ∧ InR .i64 c.b ∧ c.letter.size ≤ maxLen ∧ c.text.size ≤ maxLen
theorem wfIc {a : Int} (h : InR .i64 a) : (Lit.int .i64 a).wf = true := by
  obtain ⟨h0, h1⟩ := h
  simp only [lo, hi] at h0 h1
  simp [Lit.wf, IntKind.min, IntKind.max, IntKind.signed, IntKind.bits]; omega
def Core.lits (c : Core) : List Lit := [.int .i64 c.client, .int .i64 c.stamp, .int .i64 c.op, .string c.letter.data.toList, .int .i64 c.a, .int .i64 c.b, .string c.text.data.toList]
theorem core_lits (c : Core) (h : Core.ins c) : Try.prog.keyLits 4 33 c.cells = some (Core.lits c) := by
  obtain ⟨a1, a2, a3, a4, a5, h6, h7⟩ := h
  have h1 := wfIc a1
  have h2 := wfIc a2
  have h3 := wfIc a3
  have h4 := wfIc a4
  have h5 := wfIc a5
  have c2 : Try.prog.cellsOf 33 = 7 := by kernel_rfl
  have c3 : Try.prog.cellsOf 9 = 1 := by kernel_rfl
  have c4 : Try.prog.cellsOf 3 = 1 := by kernel_rfl
  have c5 : Try.prog.cellsOf 2 = 1 := by kernel_rfl
  simp [Program.keyLits, Try.underlying33, Try.underlying9, Try.underlying3, Try.underlying2, c2, c3, c4, c5, Core.cells, Core.lits, h1, h2, h3, h4, h5, h6, h7]
theorem core_formed (c : Core) : (Value.agg c.cells.toArray).formed Try.prog 33 = true := by kernel_rfl
theorem ba_of_data {a b : ByteArray} (h : a.data.toList = b.data.toList) : a = b := by
  cases a; cases b; simp at h; simp [h]
theorem Core.lits_inj {c d : Core} (h : Core.lits c = Core.lits d) : c = d := by
  simp only [Core.lits, List.cons.injEq, Lit.string.injEq, Lit.int.injEq, true_and, and_true] at h
  obtain ⟨h1, h2, h3, h4, h5, h6, h7⟩ := h
  obtain ⟨a1, a2, a3, a4, a5, a6, a7⟩ := c
  obtain ⟨b1, b2, b3, b4, b5, b6, b7⟩ := d
  simp only [Core.mk.injEq]
  exact ⟨h1, h2, h3, ba_of_data h4, h5, h6, ba_of_data h7⟩
noncomputable instance : DecidableEq Core := fun _ _ => Classical.propDecidable _
theorem neqCo {c d : Core} (hc : Core.ins c) (hd : Core.ins d) (w : World) : (binOp .neq 33 (.agg c.cells.toArray) (.agg d.cells.toArray)).run Try.prog w = .ok (.bool (decide (c ≠ d))) w :=
  run_neq_lits (m := 10) (by decide) (by kernel_rfl) (core_formed c) (core_formed d) (by simpa using core_lits c hc) (by simpa using core_lits d hd) _ (by
    rw [decide_eq_true_eq]
    exact ⟨fun h h2 => h (Core.lits_inj h2), fun h h2 => h (by rw [h2])⟩) w
theorem eqCo {c d : Core} (hc : Core.ins c) (hd : Core.ins d) (w : World) : (binOp .eql 33 (.agg c.cells.toArray) (.agg d.cells.toArray)).run Try.prog w = .ok (.bool (decide (c = d))) w :=
  run_eql_lits (m := 10) (by decide) (by kernel_rfl) (core_formed c) (core_formed d) (by simpa using core_lits c hc) (by simpa using core_lits d hd) _ (by
    rw [decide_eq_true_eq]
    exact ⟨fun h => by rw [h], fun h => Core.lits_inj h⟩) w
theorem core_plains (c : Core) : plains (c.cells.map .v) = some c.cells := by
  have h := plains_map (fun x : Value => x) c.cells
  simpa using h
end Go.Proofs.Ytmkijjmbiiiicaa.A
/-
  Clients, plain: what a client has, and what it does.
-/
set_option maxRecDepth 100000
set_option linter.unusedSimpArgs false
set_option linter.unusedVariables false
namespace Go.Proofs.Ytmkijjmbiiiicaa.A
open Go.RowKit

section
variable {P : Program} {n : Nat} {W : Wd} {σ σ0 : Blks} {l : Slots} {tab : List (Nat × TI)} {e e2 t ty : TypeId} {s : Nat} {v v2 : Value} {xs ys : List (List Abs)} {x y : Operand} {ops : Array Oper} {rest : List Oper} {Q : Exit → Act → World → Prop} {t' : TypeId} {gq : Option (Nat × Bool)} {d : Option Nat} {pos : String} {aft : Array Edge} {g : Option (Nat × Bool)}
/-- 'append(dst, src...)': both the call's own. -/
theorem Eff.appendR (hT : TabOk P tab) {i : TI} {post : Blks} (hu : P.underlying t = some (.slice e)) (hi : ti tab e = some i) (hpos : Nat.blt 0 i.size = true) (hsz : Nat.beq s i.size = true)
    (hx : look l x = some (.v v)) (hy : look l y = some (.v v2)) (hb : isOwn σ e2 s v2 ys) (hσ : σ = own e s v xs :: post) (h1 : ∀ c ∈ ys, ones c = true) (hm : xs.length + ys.length ≤ maxLen) (hby : (xs.length + ys.length) * P.bytesOf e ≤ 140737488355328) :
    Eff P n W σ l v.ownBlock.toList ⟨d, .call { callee := .builtin .append, args := #[x, y], argTypes := #[t, t] }, ty, pos, aft, g⟩ fun r τ => ∃ u, r = .v u ∧ τ = own e s u (xs ++ ys) :: post := fun a w hs => by
  subst hσ
  have hsz := Nat.eq_of_beq_eq_true hsz
  subst hsz
  obtain ⟨us, own1, hr1⟩ : (ownPc e i.size v xs).p _ w := hs.mem.hold (own e i.size v xs) (by simp)
  obtain ⟨news, hrow, hr2⟩ := hs.mem.ownR hb
  obtain ⟨A', c', hsh, _⟩ := hrow.shape
  have hone : ∀ u ∈ news, u.oneCell' = true := by
    have aux : ∀ (ys : List (List Abs)) (news : List Value), (∀ c ∈ ys, ones c = true) → repss (mids (own e i.size v xs :: post) ++ W.G) w i.size ys news → ∀ u ∈ news, u.oneCell' = true := by
      intro ys
      induction ys with
      | nil => intro news _ h u hu; have : news = [] := h; subst this; cases hu
      | cons c ys ih =>
        rintro news ho ⟨u1, u2, rfl, _, h3, h4⟩ u hu
        rcases List.mem_append.1 hu with hu | hu
        · exact ones_reps h3 (ho c (by simp)) u hu
        · exact ih u2 (fun c hc => ho c (by simp [hc])) h4 u hu
    exact aux ys news h1 hr2
  have hrow' := hrow
  rw [hsh] at hrow'
  obtain ⟨v', w', hrun, h2, h3, h4⟩ := run_appendRow (ty := ty) hT hu hi hby hpos own1 hrow' (repss_length hr2) hone hm
  have hxx : Ext v.ownBlock.toList w w' := ext_grownF h3 fun k hk => .inl (by simpa using hk)
  have hup : Upd (own e i.size v xs) (own e i.size v' (xs ++ ys)) (own e i.size v xs :: post) (own e i.size v' (xs ++ ys) :: post) := .here
  have hm2 := hs.mem.upd hup hxx own_nodup (fun k hk => ?_) rfl fun hc => ⟨_, by rw [List.length_append]; exact h2, repss_append (repss_carry hc _ _ _ hr1) (repss_carry hc _ _ _ hr2)⟩
  · refine ⟨v', w', _, _, ⟨v', rfl, rfl⟩, hxx, rfl, hm2.1, hm2.2, .inl ?_⟩
    simp [execOp, resolve, invoke, builtin, hs.plain hx, hs.plain hy, hsh, hrun, Result.andThen]
  · have hk' : v'.ownBlock = some k := by simpa [It.mids, ownPc] using hk
    rcases h4 with h4 | h4
    · exact .inl (by simp [It.mids, ownPc, ← h4, hk'])
    · rw [h4] at hk'; simp at hk'; exact .inr (by omega)
/-- 'row == nil', the row the call's own or one's own read. -/
theorem SL.eqNilOwn (ht : P.underlying t = some (.slice e)) (hx : look l x = some (.v v)) (hb : isOwn σ e2 s v xs) (hg : gd ops l ⟨d, .binOp .eql t x (.const (.slice none 0 0)) t', ty, pos, aft, gq⟩ = some true) (hd : lt? d n = true)
    (k : ∀ b : Bool, (b = true → xs = []) → SL P ops rest (St n W σ (put? l d (.v (.bool b)))) Q) : SL P ops (⟨d, .binOp .eql t x (.const (.slice none 0 0)) t', ty, pos, aft, gq⟩ :: rest) (St n W σ l) Q := fun a w hs =>
  wpList_step fun K hK => by
    rw [if_pos (hs.wanted hg)]
    unfold Oper.wp
    obtain ⟨us, hr, h2⟩ := hs.mem.ownR hb
    have h0 := hs.plain hx
    obtain ⟨A', c, h1, h3, h4, h5⟩ := hr.shape
    have e1 : a.eval (.const (.slice none 0 0)) = .slice none 0 0 := rfl
    have hrun : (binOp .eql t (.slice A' xs.length c) (.slice none 0 0)).run P w = .ok (.bool A'.isNone) w := by
      have h : ∀ d : Nat, (Op.equalIn (d + 1) t (.slice A' xs.length c) (.slice none 0 0)).run P w = .ok A'.isNone w := fun d => by cases A' <;> simp [Op.equalIn, run_underlying ht]
      simp only [binOp]
      simp [Op.equal, Op.maxDepth, h 9999]
    have hrun2 : (execOp a.eval ⟨d, .binOp .eql t x (.const (.slice none 0 0)) t', ty, pos, aft, gq⟩).run P w = .ok (.value (.bool A'.isNone)) w := by simp [execOp, h0, h1, e1, eqGuard, hrun]
    rw [hrun2]
    refine hK _ _ (k A'.isNone (fun hb => ?_) _ _ (hs.put hd (show rep _ _ (.v (.bool A'.isNone)) _ from rfl)))
    cases A' with
    | none =>
      have := h5 rfl
      exact List.length_eq_zero_iff.1 (by omega)
    | some A' => cases hb
end

theorem allN_le (n : Int) : (allN n).length ≤ 7 := by
  unfold allN
  split
  · simp
  · simp; omega
/-- What was accepted. -/
structure Oc where
  client : Int
  stamp : Int
  result : Int
def Oc.abs (o : Oc) : List Abs := [int o.client, int o.stamp, int o.result]
def outA (l : List Oc) : Abs := .sl 3 (l.map Oc.abs)
theorem ocs_ones (l : List Oc) : ∀ c ∈ l.map Oc.abs, ones c = true := by
  intro c hc
  obtain ⟨o, _, rfl⟩ := List.mem_map.1 hc
  rfl
/-- A client's block: whom it asks by, of how many, who, its last stamp, what waits, what was accepted. -/
def clA (q : Nat) (n id stamp : Int) (w a : Value) : List Abs := [.ifc 24 (ptr q), int n, int id, int stamp, .v w, .v a]
/-- What waits: a core, the message, the tally. -/
def wtA (c : Core) (m : Msg) (t : Nat) : List Abs := c.cells.map .v ++ m.abs ++ [ptr t]
theorem wt_core (c : Core) (m : Msg) (t : Nat) : A.part (wtA c m t) 0 7 = c.cells.map .v := rfl
theorem wt_msg (c : Core) (m : Msg) (t : Nat) : A.part (wtA c m t) 7 4 = m.abs := rfl
def nextC (id stamp : Int) (x : Core) : Core := { x with client := id, stamp := stamp + 1 }
def parcels (m : Msg) (l : List Int) : List (List Abs) := l.map fun to => int to :: m.abs
def ptrV (p : Nat) : Value := .pointer (some ⟨p, 0, none⟩)
/-- What a client says of a message. -/
def readR (T : List (ByteArray × Nat)) (n id stamp : Int) (waits : Bool) (m : Msg) : Rp × Int :=
  if m.kind ≠ 12 ∨ m.from_ < 0 ∨ n ≤ m.from_ then (Rp.zero, 17)
  else if chkMI T m 0 id ≠ 0 then (Rp.zero, 12)
  else if (parseR m.body n).2 ≠ 0 then (Rp.zero, (parseR m.body n).2)
  else if (parseR m.body n).1.client ≠ id then (Rp.zero, 17)
  else if waits = false ∨ (parseR m.body n).1.stamp ≠ stamp then (Rp.zero, 10)
  else ((parseR m.body n).1, 0)
theorem chkMI_cases (T : List (ByteArray × Nat)) (m : Msg) (place who : Int) : chkMI T m place who = 0 ∨ chkMI T m place who = 12 := by
  unfold chkMI
  split
  · exact .inr rfl
  · split
    · exact .inl rfl
    · exact .inr rfl
end Go.Proofs.Ytmkijjmbiiiicaa.A
/-
  The program's client: what it tells.
-/
set_option maxRecDepth 100000
set_option linter.unusedSimpArgs false
set_option linter.unusedVariables false
namespace Go.Proofs.Ytmkijjmbiiiicaa.A
open Go.RowKit

section
variable {p q bd bt wb t : Nat} {n id stamp : Int} {av w : Value} {x c : Core} {m : Msg} {acc : List Oc} {T : List (ByteArray × Nat)}
theorem next_s (hs : stamp ≤ 1000000000) (hs0 : 0 ≤ stamp) : Spec Try.prog 14 [ptr p, coreA x] [.rd p 73 (clA q n id stamp (w) av)] (fun _ : Unit => []) (fun _ => coreA (nextC id stamp x)) := by
  refine spec_of Try.func14 rfl Try.ntmps14 rfl fun G w => ?_
  refine SC.seq (SC.region ?_)
  refine SL.eff (Eff.boxA (cs := x.cells.map .v) rfl) rfl rfl ?_
  rintro _ _ ⟨b3, rfl, rfl⟩
  refine SL.eff (Eff.alloc tabOk rfl) rfl rfl ?_
  rintro _ _ ⟨b4, rfl, rfl⟩
  refine SL.nil (SE.seq ?_)
  refine SC.seq ?_
  refine SC.seq (SC.region ?_)
  refine SL.val (Val.move rfl) rfl rfl ?_
  refine SL.val (Val.eqP rfl rfl (by kernel_rfl)) rfl rfl ?_
  refine SL.nil (SE.seq ?_)
  refine SC.condF rfl ?_
  refine SC.skip ?_
  refine SE.seq ?_
  refine SC.seq (SC.region ?_)
  refine SL.val (Val.move rfl) rfl rfl ?_
  refine SL.val (Val.nilCheck rfl) rfl rfl ?_
  refine SL.val (Val.fieldAddr tabOk rfl rfl rfl rfl rfl) rfl rfl ?_
  refine SL.val (Val.load1 tabOk rfl rfl (by first|(apply Or.inl;(repeat first|assumption|exact m0|apply m1);done)|(apply Or.inr;(repeat first|assumption|exact m0|apply m1);done)) List.not_mem_nil (by rfl)) rfl rfl ?_
  refine SL.val (Val.fieldAddr tabOk rfl rfl rfl rfl rfl) rfl rfl ?_
  refine SL.eff (Eff.store tabOk rfl rfl rfl (by repeat first|assumption|exact Upd.here|apply Upd.there) (by rfl) (Nat.le_of_ble_eq_true (by rfl)) (by rfl) (by rfl)) rfl rfl ?_
  rintro _ _ ⟨rfl, rfl⟩
  refine SL.nil (SE.seq ?_)
  refine SC.seq (SC.region ?_)
  refine SL.val (Val.move rfl) rfl rfl ?_
  refine SL.val (Val.nilCheck rfl) rfl rfl ?_
  refine SL.val (Val.fieldAddr tabOk rfl rfl rfl rfl rfl) rfl rfl ?_
  refine SL.val (Val.load1 tabOk rfl rfl (by first|(apply Or.inl;(repeat first|assumption|exact m0|apply m1);done)|(apply Or.inr;(repeat first|assumption|exact m0|apply m1);done)) List.not_mem_nil (by rfl)) rfl rfl ?_
  first
    | refine SL.val (Val.addI rfl rfl (by simp only [InR, lo, hi]; omega)) rfl rfl ?_
    | refine SL.val (Val.addW rfl rfl) rfl rfl ?_
  refine SL.val (Val.fieldAddr tabOk rfl rfl rfl rfl rfl) rfl rfl ?_
  refine SL.eff (Eff.store tabOk rfl rfl rfl (by repeat first|assumption|exact Upd.here|apply Upd.there) (by rfl) (Nat.le_of_ble_eq_true (by rfl)) (by rfl) (by rfl)) rfl rfl ?_
  rintro _ _ ⟨rfl, rfl⟩
  refine SL.nil (SE.seq ?_)
  refine SC.seq (SC.region ?_)
  first
    | refine SL.val (Val.loadA tabOk rfl rfl rfl (by first|(apply Or.inl;(repeat first|assumption|exact m0|apply m1);done)|(apply Or.inr;(repeat first|assumption|exact m0|apply m1);done)) List.not_mem_nil (by rfl)) rfl rfl ?_
    | refine SL.val (Val.loadP tabOk rfl rfl rfl (by first|(apply Or.inl;(repeat first|assumption|exact m0|apply m1);done)|(apply Or.inr;(repeat first|assumption|exact m0|apply m1);done)) List.not_mem_nil (Nat.le_of_ble_eq_true (by rfl))) rfl rfl ?_
  refine SL.eff (Eff.store tabOk rfl rfl rfl (by repeat first|assumption|exact Upd.here|apply Upd.there) (by rfl) (Nat.le_of_ble_eq_true (by rfl)) (by rfl) (by rfl)) rfl rfl ?_
  rintro _ _ ⟨rfl, rfl⟩
  refine SL.nil (SE.seq ?_)
  refine SC.ret ?_
  refine SE.fin (rs := [.cell 4 33]) rfl (RV.cell rfl (RV.cellA tabOk rfl rfl (by first|(apply Or.inl;(repeat first|assumption|exact m0|apply m1);done)|(apply Or.inr;(repeat first|assumption|exact m0|apply m1);done)) (by rfl)) RV.nil) (()) (by repeat first|exact s0 _|exact s1 _|apply s2|apply s3) (by simp [It.rids]) ?_
  exact rfl
theorem waiting0_s  : Spec Try.prog 10 [ptr p] [.rd p 73 (clA q n id stamp (.pointer none) av)] (fun _ : Unit => []) (fun _ => .tup [coreA ⟨0, 0, 0, ⟨#[]⟩, 0, 0, ⟨#[]⟩⟩, boo false]) := by
  refine spec_of Try.func10 rfl Try.ntmps10 rfl fun G w => ?_
  refine SC.seq (SC.region ?_)
  refine SL.eff (Eff.alloc tabOk rfl) rfl rfl ?_
  rintro _ _ ⟨b2, rfl, rfl⟩
  refine SL.val (Val.assign rfl) rfl rfl ?_
  refine SL.nil (SE.seq ?_)
  refine SC.seq ?_
  refine SC.seq (SC.region ?_)
  refine SL.val (Val.move rfl) rfl rfl ?_
  refine SL.val (Val.eqP rfl rfl (by kernel_rfl)) rfl rfl ?_
  refine SL.val (Val.move rfl) rfl rfl ?_
  refine SL.val (Val.move rfl) rfl rfl ?_
  refine SL.val (Val.nilCheck rfl) rfl rfl ?_
  refine SL.val (Val.fieldAddr tabOk rfl rfl rfl rfl rfl) rfl rfl ?_
  refine SL.val (Val.to (C := .v (.pointer none)) (Val.load1 tabOk rfl rfl (by first|(apply Or.inl;(repeat first|assumption|exact m0|apply m1);done)|(apply Or.inr;(repeat first|assumption|exact m0|apply m1);done)) List.not_mem_nil (by rfl)) rfl) rfl rfl ?_
  refine SL.val (Val.eqP rfl rfl (by kernel_rfl)) rfl rfl ?_
  refine SL.val (Val.pickF rfl rfl) rfl rfl ?_
  refine SL.nil (SE.seq ?_)
  refine SC.condT rfl ?_
  refine SC.seq (SC.region ?_)
  refine SL.val (Val.buildS tabOk rfl rfl rfl rfl) rfl rfl ?_
  refine SL.eff (Eff.store tabOk rfl rfl rfl (by repeat first|assumption|exact Upd.here|apply Upd.there) (by rfl) (Nat.le_of_ble_eq_true (by rfl)) (by rfl) (by rfl)) rfl rfl ?_
  rintro _ _ ⟨rfl, rfl⟩
  refine SL.val (Val.assign rfl) rfl rfl ?_
  refine SL.nil (SE.seq ?_)
  refine SC.ret ?_
  refine SE.then_ (by intro h; cases h) ?_
  refine SE.fin (rs := [.cell 2 33, .tmp 3]) rfl (RV.cell rfl (RV.cellA tabOk rfl rfl (by first|(apply Or.inl;(repeat first|assumption|exact m0|apply m1);done)|(apply Or.inr;(repeat first|assumption|exact m0|apply m1);done)) (by rfl)) (RV.tmp rfl RV.nil)) (()) (by repeat first|exact s0 _|exact s1 _|apply s2|apply s3) (by simp [It.rids]) ?_
  exact rfl
theorem waitingw_s  : Spec Try.prog 10 [ptr p] [.rd p 73 (clA q n id stamp (ptrV wb) av), .rd wb 82 (wtA c m t)] (fun _ : Unit => []) (fun _ => .tup [coreA c, boo true]) := by
  refine spec_of Try.func10 rfl Try.ntmps10 rfl fun G w => ?_
  refine SC.seq (SC.region ?_)
  refine SL.eff (Eff.alloc tabOk rfl) rfl rfl ?_
  rintro _ _ ⟨b2, rfl, rfl⟩
  refine SL.val (Val.assign rfl) rfl rfl ?_
  refine SL.nil (SE.seq ?_)
  refine SC.seq ?_
  refine SC.seq (SC.region ?_)
  refine SL.val (Val.move rfl) rfl rfl ?_
  refine SL.val (Val.eqP rfl rfl (by kernel_rfl)) rfl rfl ?_
  refine SL.val (Val.move rfl) rfl rfl ?_
  refine SL.val (Val.move rfl) rfl rfl ?_
  refine SL.val (Val.nilCheck rfl) rfl rfl ?_
  refine SL.val (Val.fieldAddr tabOk rfl rfl rfl rfl rfl) rfl rfl ?_
  refine SL.val (Val.to (C := ptr wb) (Val.load1 tabOk rfl rfl (by first|(apply Or.inl;(repeat first|assumption|exact m0|apply m1);done)|(apply Or.inr;(repeat first|assumption|exact m0|apply m1);done)) List.not_mem_nil (by rfl)) rfl) rfl rfl ?_
  refine SL.val (Val.eqP rfl rfl (by kernel_rfl)) rfl rfl ?_
  refine SL.val (Val.pickF rfl rfl) rfl rfl ?_
  refine SL.nil (SE.seq ?_)
  refine SC.condF rfl ?_
  refine SC.skip ?_
  refine SE.seq ?_
  refine SC.seq (SC.region ?_)
  refine SL.val (Val.move rfl) rfl rfl ?_
  refine SL.val (Val.nilCheck rfl) rfl rfl ?_
  refine SL.val (Val.fieldAddr tabOk rfl rfl rfl rfl rfl) rfl rfl ?_
  refine SL.val (Val.to (C := ptr wb) (Val.load1 tabOk rfl rfl (by first|(apply Or.inl;(repeat first|assumption|exact m0|apply m1);done)|(apply Or.inr;(repeat first|assumption|exact m0|apply m1);done)) List.not_mem_nil (by rfl)) rfl) rfl rfl ?_
  refine SL.val (Val.nilCheck rfl) rfl rfl ?_
  refine SL.val (Val.fieldAddr tabOk rfl rfl rfl rfl rfl) rfl rfl ?_
  refine SL.val (Val.to (C := coreA c) (Val.loadP tabOk rfl rfl rfl (by first|(apply Or.inl;(repeat first|assumption|exact m0|apply m1);done)|(apply Or.inr;(repeat first|assumption|exact m0|apply m1);done)) List.not_mem_nil (Nat.le_of_ble_eq_true (by rfl))) (congrArg Abs.agg (wt_core _ _ _))) rfl rfl ?_
  refine SL.eff (Eff.store tabOk rfl rfl rfl (by repeat first|assumption|exact Upd.here|apply Upd.there) (by rfl) (Nat.le_of_ble_eq_true (by rfl)) (by rfl) (by rfl)) rfl rfl ?_
  rintro _ _ ⟨rfl, rfl⟩
  refine SL.val (Val.assign rfl) rfl rfl ?_
  refine SL.nil (SE.seq ?_)
  refine SC.ret ?_
  refine SE.fin (rs := [.cell 2 33, .tmp 3]) rfl (RV.cell rfl (RV.cellA tabOk rfl rfl (by first|(apply Or.inl;(repeat first|assumption|exact m0|apply m1);done)|(apply Or.inr;(repeat first|assumption|exact m0|apply m1);done)) (by rfl)) (RV.tmp rfl RV.nil)) (()) (by repeat first|exact s0 _|exact s1 _|apply s2|apply s3) (by simp [It.rids]) ?_
  exact rfl
theorem again0_s  : Spec Try.prog 12 [ptr p] [.rd p 73 (clA q n id stamp (.pointer none) av)] (fun _ : Unit => []) (fun _ => .v (.slice none 0 0)) := by
  refine spec_of Try.func12 rfl Try.ntmps12 rfl fun G w => ?_
  refine SC.seq (SC.region ?_)
  refine SL.val (Val.assign rfl) rfl rfl ?_
  refine SL.nil (SE.seq ?_)
  refine SC.seq ?_
  refine SC.seq (SC.region ?_)
  refine SL.val (Val.move rfl) rfl rfl ?_
  refine SL.val (Val.eqP rfl rfl (by kernel_rfl)) rfl rfl ?_
  refine SL.val (Val.move rfl) rfl rfl ?_
  refine SL.val (Val.move rfl) rfl rfl ?_
  refine SL.val (Val.nilCheck rfl) rfl rfl ?_
  refine SL.val (Val.fieldAddr tabOk rfl rfl rfl rfl rfl) rfl rfl ?_
  refine SL.val (Val.to (C := .v (.pointer none)) (Val.load1 tabOk rfl rfl (by first|(apply Or.inl;(repeat first|assumption|exact m0|apply m1);done)|(apply Or.inr;(repeat first|assumption|exact m0|apply m1);done)) List.not_mem_nil (by rfl)) rfl) rfl rfl ?_
  refine SL.val (Val.eqP rfl rfl (by kernel_rfl)) rfl rfl ?_
  refine SL.val (Val.pickF rfl rfl) rfl rfl ?_
  refine SL.nil (SE.seq ?_)
  refine SC.condT rfl ?_
  refine SC.seq (SC.region ?_)
  refine SL.val (Val.assign rfl) rfl rfl ?_
  refine SL.nil (SE.seq ?_)
  refine SC.ret ?_
  refine SE.then_ (by intro h; cases h) ?_
  refine SE.fin (rs := [.tmp 2]) rfl (RV.tmp rfl RV.nil) (()) (by repeat first|exact s0 _|exact s1 _|apply s2|apply s3) (by simp [It.rids]) ?_
  exact rfl
set_option maxHeartbeats 1000000 in
theorem againw_s  : Spec Try.prog 12 [ptr p] [.rd p 73 (clA q n id stamp (ptrV wb) av), .rd wb 82 (wtA c m t)] (fun _ : Unit => []) (fun _ => .sl 5 (parcels m (allN n))) := by
  have hal := allN_le n
  refine spec_of Try.func12 rfl Try.ntmps12 rfl fun G w => ?_
  refine SC.seq (SC.region ?_)
  refine SL.val (Val.assign rfl) rfl rfl ?_
  refine SL.nil (SE.seq ?_)
  refine SC.seq ?_
  refine SC.seq (SC.region ?_)
  refine SL.val (Val.move rfl) rfl rfl ?_
  refine SL.val (Val.eqP rfl rfl (by kernel_rfl)) rfl rfl ?_
  refine SL.val (Val.move rfl) rfl rfl ?_
  refine SL.val (Val.move rfl) rfl rfl ?_
  refine SL.val (Val.nilCheck rfl) rfl rfl ?_
  refine SL.val (Val.fieldAddr tabOk rfl rfl rfl rfl rfl) rfl rfl ?_
  refine SL.val (Val.to (C := ptr wb) (Val.load1 tabOk rfl rfl (by first|(apply Or.inl;(repeat first|assumption|exact m0|apply m1);done)|(apply Or.inr;(repeat first|assumption|exact m0|apply m1);done)) List.not_mem_nil (by rfl)) rfl) rfl rfl ?_
  refine SL.val (Val.eqP rfl rfl (by kernel_rfl)) rfl rfl ?_
  refine SL.val (Val.pickF rfl rfl) rfl rfl ?_
  refine SL.nil (SE.seq ?_)
  refine SC.condF rfl ?_
  refine SC.skip ?_
  refine SE.seq ?_
  refine SC.seq (SC.region ?_)
  refine SL.val (Val.assign rfl) rfl rfl ?_
  refine SL.nil (SE.seq ?_)
  refine SC.seq ?_
  refine SC.seq (SC.region ?_)
  refine SL.val (Val.move rfl) rfl rfl ?_
  refine SL.val (Val.nilCheck rfl) rfl rfl ?_
  refine SL.val (Val.fieldAddr tabOk rfl rfl rfl rfl rfl) rfl rfl ?_
  refine SL.val (Val.load1 tabOk rfl rfl (by first|(apply Or.inl;(repeat first|assumption|exact m0|apply m1);done)|(apply Or.inr;(repeat first|assumption|exact m0|apply m1);done)) List.not_mem_nil (by rfl)) rfl rfl ?_
  refine SL.call (all_s (n := n)) Casts.refl (by kernel_rfl) rfl rfl rfl ?_
  refine After.pure (by repeat first|exact .nil|refine .blk (by repeat first|assumption|exact m0|apply m1) ?_|refine .rd (by repeat first|assumption|exact m0|apply m1) ?_|refine .pc (by repeat first|assumption|exact m0|apply m1) ?_|refine .rdpc (by repeat first|assumption|exact m0|apply m1) ?_) (fun _ => rfl) ?_
  intro _
  first
    | refine SL.val (Val.lenSl rfl Try.underlying77 (List.length_map _)) rfl rfl ?_
    | refine SL.val (Val.lenOwn rfl (by repeat first|assumption|exact m0|apply m1) Try.underlying77 (List.length_map _)) rfl rfl ?_
    | refine SL.val (Val.lenNil rfl Try.underlying77) rfl rfl ?_
  refine SL.val (Val.move rfl) rfl rfl ?_
  refine SL.nil (SE.seq ?_)
  refine SC.block ?_
  refine SC.own0 91 5 ?_
  refine SC.loop (ι := Nat × Value) (fun z => [own 91 5 z.2 (parcels m ((allN n).take z.1)), .rd p 73 (clA q n id stamp (ptrV wb) av), .rd wb 82 (wtA c m t)]) (fun z => [(0, ptr p), (3, .v z.2), (19, ints (allN n)), (20, int ((allN n).length : Nat)), (21, int (z.1 : Nat))]) (fun z => z.1 ≤ (allN n).length) (fun z => (allN n).length - z.1) (0, .slice none 0 0) (Nat.zero_le _) (by exact ⟨rfl, rfl, rfl, rfl, rfl, trivial⟩) (by repeat first|exact s0 _|exact s1 _|apply s2|apply s3) ?_
  intro z hz
  refine SC.seq (SC.region ?_)
  refine SL.val (Val.ltI rfl rfl) rfl rfl ?_
  refine SL.nil (SE.seq ?_)
  refine SC.seq ?_
  refine SC.condP rfl ?_ ?_
  rotate_left
  · intro hc22
    refine SC.exit ?_
    refine SE.then_ (by intro h; cases h) ?_
    refine SE.then_ (by intro h; cases h) ?_
    refine SE.exit ?_
    refine SE.seq ?_
    refine SC.seq (SC.region ?_)
    refine SL.val (Val.move rfl) rfl rfl ?_
    refine SL.val (Val.assign rfl) rfl rfl ?_
    refine SL.nil (SE.seq ?_)
    refine SC.ret ?_
    refine SE.freeze [] (t := 2) rfl rfl ?_
    rw [List.take_of_length_le (show (allN n).length ≤ z.1 by omega)]
    refine SE.fin (rs := [.tmp 2]) rfl (RV.tmp rfl RV.nil) (()) (by repeat first|exact s0 _|exact s1 _|apply s2|apply s3) (by simp [It.rids]) ?_
    exact rfl
  intro hc22
  have hlt : z.1 < (allN n).length := by omega
  refine SC.skip ?_
  refine SE.seq ?_
  refine SC.seq ?_
  refine SC.block ?_
  refine SC.seq (SC.region ?_)
  refine SL.val (Val.indexSl tabOk Try.underlying77 rfl rfl rfl rfl (at_map (by omega)) rfl rfl) rfl rfl ?_
  refine SL.val (Val.to (C := int ((allN n)[z.1]'hlt)) (Val.load1R tabOk rfl rfl rfl) rfl) rfl rfl ?_
  refine SL.val (Val.assign rfl) rfl rfl ?_
  refine SL.nil (SE.seq ?_)
  refine SC.region ?_
  refine SL.val (Val.move rfl) rfl rfl ?_
  refine SL.val (Val.move rfl) rfl rfl ?_
  refine SL.val (Val.move rfl) rfl rfl ?_
  refine SL.val (Val.nilCheck rfl) rfl rfl ?_
  refine SL.val (Val.fieldAddr tabOk rfl rfl rfl rfl rfl) rfl rfl ?_
  refine SL.val (Val.to (C := ptr wb) (Val.load1 tabOk rfl rfl (by first|(apply Or.inl;(repeat first|assumption|exact m0|apply m1);done)|(apply Or.inr;(repeat first|assumption|exact m0|apply m1);done)) List.not_mem_nil (by rfl)) rfl) rfl rfl ?_
  refine SL.val (Val.nilCheck rfl) rfl rfl ?_
  refine SL.val (Val.fieldAddr tabOk rfl rfl rfl rfl rfl) rfl rfl ?_
  refine SL.val (Val.to (C := .agg m.abs) (Val.loadP tabOk rfl rfl rfl (by first|(apply Or.inl;(repeat first|assumption|exact m0|apply m1);done)|(apply Or.inr;(repeat first|assumption|exact m0|apply m1);done)) List.not_mem_nil (Nat.le_of_ble_eq_true (by rfl))) (congrArg Abs.agg (wt_msg _ _ _))) rfl rfl ?_
  refine SL.val (Val.buildS (L := int ((allN n)[z.1]'hlt) :: m.abs) tabOk rfl rfl rfl (by rfl)) rfl rfl ?_
  refine SL.eff (Eff.buildSl tabOk Try.underlying28 rfl rfl rfl rfl rfl rfl rfl) rfl rfl ?_
  rintro _ _ ⟨rfl, rfl⟩
  refine SL.eff (Eff.appendE (zs := parcels m ((allN n).take (z.1 + 1))) tabOk [] (by rw [take_snocI hlt]; unfold parcels; rw [List.map_append]; rfl) Try.underlying28 rfl rfl rfl rfl rfl rfl (by intro c hc; rw [List.mem_singleton] at hc; subst hc; rfl) (by unfold maxLen parcels; simp only [List.length_map, List.length_take, List.length_cons, List.length_nil]; omega) (by rw [show Try.prog.bytesOf 91 = 72 by kernel_rfl]; unfold parcels; simp only [List.length_map, List.length_take, List.length_cons, List.length_nil]; omega)) rfl rfl ?_
  rintro _ _ ⟨r36, rfl, rfl⟩
  refine SL.val (Val.assign rfl) rfl rfl ?_
  refine SL.nil ?_
  refine SE.inBlock ?_
  refine SE.seq ?_
  refine SC.region ?_
  first
    | refine SL.val (Val.addI rfl rfl (by simp only [InR, lo, hi]; omega)) rfl rfl ?_
    | refine SL.val (Val.addW rfl rfl) rfl rfl ?_
  refine SL.val (Val.move rfl) rfl rfl ?_
  refine SL.nil ?_
  refine SE.round (z.1 + 1, r36) (by first | omega | (dsimp only; omega)) (by dsimp only; omega) (by exact ⟨rfl, rfl, rfl, rfl, rfl, trivial⟩) (by repeat first|exact s0 _|exact s1 _|apply s2|apply s3)
theorem clone_ocs_s {v : Value} {xs : List Oc} (hn : xs.length ≤ 1000000) : Spec Try.prog 32 [.v v] [.rdpc (ownPc 60 3 v (xs.map Oc.abs))] (fun _ : Unit => []) (fun _ => outA xs) := by
  refine spec_of Try.func32 rfl Try.ntmps32 rfl fun G w => ?_
  refine SC.seq (SC.region ?_)
  refine SL.val (Val.assign rfl) rfl rfl ?_
  refine SL.nil (SE.seq ?_)
  refine SC.seq ?_
  refine SC.seq (SC.region ?_)
  refine SL.val (Val.move rfl) rfl rfl ?_
  refine SL.eqNilOwn (e2 := 60) (s := 3) (xs := xs.map Oc.abs) Try.underlying42 rfl (.inr (by repeat first|assumption|exact m0|apply m1)) rfl rfl ?_
  intro b hb
  refine SL.nil (SE.seq ?_)
  refine SC.cond rfl ?_ ?_
  · intro hc4
    have hnil : xs = [] := List.map_eq_nil_iff.1 (hb hc4)
    subst hnil
    refine SC.seq (SC.region ?_)
    refine SL.val (Val.assign rfl) rfl rfl ?_
    refine SL.nil (SE.seq ?_)
    refine SC.ret ?_
    refine SE.then_ (by intro h; cases h) ?_
    refine SE.finC (rs := [.tmp 2]) rfl (RV.tmp rfl RV.nil) (Casts.nils (s := 3) Casts.refl) () (by repeat first|exact s0 _|exact s1 _|apply s2|apply s3) (by simp [It.rids]) rfl
  intro hc4
  refine SC.skip ?_
  refine SE.seq ?_
  refine SC.seq (SC.region ?_)
  refine SL.eff (Eff.buildOwn tabOk Try.underlying42 rfl rfl rfl rfl rfl rfl rfl) rfl rfl ?_
  rintro _ _ ⟨r5, rfl, rfl⟩
  refine SL.val (Val.move rfl) rfl rfl ?_
  refine SL.eff (Eff.appendR tabOk Try.underlying42 rfl rfl rfl rfl rfl (.inr (by repeat first|assumption|exact m0|apply m1)) rfl (ocs_ones xs) (by unfold maxLen; simp only [List.length_map, List.length_nil]; omega) (by rw [show Try.prog.bytesOf 60 = 24 by kernel_rfl]; simp only [List.length_map, List.length_nil]; omega)) rfl rfl ?_
  rintro _ _ ⟨r7, rfl, rfl⟩
  refine SL.val (Val.assign rfl) rfl rfl ?_
  refine SL.nil (SE.seq ?_)
  refine SC.ret ?_
  refine SE.freeze [] (t := 2) rfl rfl ?_
  refine SE.fin (rs := [.tmp 2]) rfl (RV.tmp rfl RV.nil) (()) (by repeat first|exact s0 _|exact s1 _|apply s2|apply s3) (by simp [It.rids]) ?_
  exact rfl
theorem accepted_s (hn : acc.length ≤ 1000000) : Spec Try.prog 13 [ptr p] [.rd p 73 (clA q n id stamp (w) av), .rdpc (ownPc 60 3 av (acc.map Oc.abs))] (fun _ : Unit => []) (fun _ => outA acc) := by
  refine spec_of Try.func13 rfl Try.ntmps13 rfl fun G w => ?_
  refine SC.seq (SC.region ?_)
  refine SL.val (Val.assign rfl) rfl rfl ?_
  refine SL.nil (SE.seq ?_)
  refine SC.seq ?_
  refine SC.seq (SC.region ?_)
  refine SL.val (Val.move rfl) rfl rfl ?_
  refine SL.val (Val.eqP rfl rfl (by kernel_rfl)) rfl rfl ?_
  refine SL.nil (SE.seq ?_)
  refine SC.condF rfl ?_
  refine SC.skip ?_
  refine SE.seq ?_
  refine SC.seq (SC.region ?_)
  refine SL.val (Val.move rfl) rfl rfl ?_
  refine SL.val (Val.nilCheck rfl) rfl rfl ?_
  refine SL.val (Val.fieldAddr tabOk rfl rfl rfl rfl rfl) rfl rfl ?_
  refine SL.val (Val.to (C := .v av) (Val.load1 tabOk rfl rfl (by first|(apply Or.inl;(repeat first|assumption|exact m0|apply m1);done)|(apply Or.inr;(repeat first|assumption|exact m0|apply m1);done)) List.not_mem_nil (by rfl)) rfl) rfl rfl ?_
  refine SL.call (clone_ocs_s (v := av) (xs := acc) hn) Casts.refl (by kernel_rfl) rfl rfl rfl ?_
  refine After.pure (by repeat (first | exact Reads.nil | (refine Reads.blk ?_ ?_; focus ((repeat first|assumption|exact m0|apply m1); done)) | (refine Reads.rd ?_ ?_; focus ((repeat first|assumption|exact m0|apply m1); done)) | (refine Reads.pc ?_ ?_; focus ((repeat first|assumption|exact m0|apply m1); done)) | (refine Reads.rdpc ?_ ?_; focus ((repeat first|assumption|exact m0|apply m1); done)))) (fun _ => rfl) ?_
  intro _
  refine SL.val (Val.assign rfl) rfl rfl ?_
  refine SL.nil (SE.seq ?_)
  refine SC.ret ?_
  refine SE.fin (rs := [.tmp 2]) rfl (RV.tmp rfl RV.nil) (()) (by repeat first|exact s0 _|exact s1 _|apply s2|apply s3) (by simp [It.rids]) ?_
  exact rfl
end
end Go.Proofs.Ytmkijjmbiiiicaa.A
