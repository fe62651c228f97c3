/-
  Packed out of the texts: L21.
-/
import Derived.Test.YtmkijjmbiiiicaaB09
/-
  ClientBelieves: the walk.
-/
set_option maxRecDepth 100000
set_option linter.unusedSimpArgs false
set_option linter.unusedVariables false
namespace Go.Proofs.Ytmkijjmbiiiicaa.A
open Go.RowKit

section
variable {l : List Ac} {L : List UInt8} {av : Int}
theorem lies_len (m : Set1 Int) (x : Int) : (aput m x ()).length ≤ m.length + 1 := by
  rw [aput_length]
  split <;> omega
set_option maxHeartbeats 600000 in
theorem believes_s (hfix : Spec Try.prog 6 [] [] (fun _ : Unit => []) (fun _ => boo true)) (hin : ∀ x ∈ l, Core.ins x.core ∧ InR .i64 x.reply.stamp) (ha : 0 ≤ av ∧ av ≤ 255) : Spec Try.prog 4 [.v (.int .u8 av), byt L, actsA l] [] (fun _ : Unit => []) (fun _ => boo true) := by
  refine spec_of Try.func4 rfl Try.ntmps4 rfl fun G w => ?_
  refine SC.seq (SC.region ?_)
  refine SL.val (Val.assign rfl) rfl rfl ?_
  refine SL.nil (SE.seq ?_)
  refine SC.seq ?_
  refine SC.seq (SC.region ?_)
  refine SL.call (hfix) Casts.refl (by kernel_rfl) rfl rfl rfl ?_
  refine After.pure (by repeat first|exact .nil|refine .blk (by repeat first|assumption|exact m0|apply m1) ?_|refine .rd (by repeat first|assumption|exact m0|apply m1) ?_|refine .pc (by repeat first|assumption|exact m0|apply m1) ?_|refine .rdpc (by repeat first|assumption|exact m0|apply m1) ?_) (fun _ => rfl) ?_
  intro _
  refine SL.val (Val.notT rfl) rfl rfl ?_
  refine SL.nil (SE.seq ?_)
  refine SC.condF rfl ?_
  refine SC.skip ?_
  refine SE.seq ?_
  refine SC.seq (SC.region ?_)
  refine SL.val (Val.move rfl) rfl rfl ?_
  first
    | refine SL.val (Val.remI rfl rfl (by omega)) rfl rfl ?_
    | refine SL.val (Val.remT rfl rfl (by omega)) rfl rfl ?_
  first
    | refine SL.val (Val.convI rfl Try.underlying3 (by kernel_rfl) (by simp only [InR, lo, hi]; omega)) rfl rfl ?_
    | refine SL.val (Val.convW rfl Try.underlying3 (by kernel_rfl)) rfl rfl ?_
  first
    | refine SL.val (Val.addI rfl rfl (by simp only [InR, lo, hi]; omega)) rfl rfl ?_
    | refine SL.val (Val.addW rfl rfl) rfl rfl ?_
  refine SL.val (Val.assign rfl) rfl rfl ?_
  refine SL.nil (SE.seq ?_)
  refine SC.seq (SC.region ?_)
  refine SL.val (Val.move rfl) rfl rfl ?_
  first
    | refine SL.val (Val.mulI rfl rfl (by simp only [InR, lo, hi]; omega)) rfl rfl ?_
    | refine SL.val (Val.mulW rfl rfl) rfl rfl ?_
  first
    | refine SL.val (Val.addI rfl rfl (by simp only [InR, lo, hi]; omega)) rfl rfl ?_
    | refine SL.val (Val.addW rfl rfl) rfl rfl ?_
  refine SL.val (Val.assign rfl) rfl rfl ?_
  refine SL.nil (SE.seq ?_)
  refine SC.seq ?_
  refine SC.seq (SC.region ?_)
  refine SL.val (Val.move rfl) rfl rfl ?_
  first
    | refine SL.val (Val.lenSl rfl Try.underlying37 (List.length_map _)) rfl rfl ?_
    | refine SL.val (Val.lenOwn rfl (by repeat first|assumption|exact m0|apply m1) Try.underlying37 (List.length_map _)) rfl rfl ?_
    | refine SL.val (Val.lenNil rfl Try.underlying37) rfl rfl ?_
  refine SL.val (Val.move rfl) rfl rfl ?_
  refine SL.val (Val.gtI rfl rfl) rfl rfl ?_
  refine SL.val (Val.move rfl) rfl rfl ?_
  refine SL.bothP (t := 32) rfl ?_ ?_
  · intro hc32
    iterate 3 refine SL.skip rfl rfl ?_
    refine SL.val (Val.pickT rfl rfl) rfl rfl ?_
    refine SL.nil (SE.seq ?_)
    refine SC.condT rfl ?_
    refine SC.seq (SC.region ?_)
    refine SL.val (Val.assign rfl) rfl rfl ?_
    refine SL.nil (SE.seq ?_)
    refine SC.ret ?_
    refine SE.then_ (by intro h; cases h) ?_
    refine SE.fin (rs := [.tmp 6]) rfl (RV.tmp rfl RV.nil) (()) (by repeat first|exact s0 _|exact s1 _|apply s2|apply s3) (by simp [It.rids]) ?_
    exact rfl
  intro hc32
  refine SL.val (Val.move rfl) rfl rfl ?_
  first
    | refine SL.val (Val.lenSl rfl Try.underlying22 (List.length_map _)) rfl rfl ?_
    | refine SL.val (Val.lenOwn rfl (by repeat first|assumption|exact m0|apply m1) Try.underlying22 (List.length_map _)) rfl rfl ?_
    | refine SL.val (Val.lenNil rfl Try.underlying22) rfl rfl ?_
  refine SL.val (Val.gtI rfl rfl) rfl rfl ?_
  refine SL.val (Val.pickF rfl rfl) rfl rfl ?_
  refine SL.nil (SE.seq ?_)
  refine SC.condP rfl ?_ ?_
  · intro hc36
    refine SC.seq (SC.region ?_)
    refine SL.val (Val.assign rfl) rfl rfl ?_
    refine SL.nil (SE.seq ?_)
    refine SC.ret ?_
    refine SE.then_ (by intro h; cases h) ?_
    refine SE.fin (rs := [.tmp 6]) rfl (RV.tmp rfl RV.nil) (()) (by repeat first|exact s0 _|exact s1 _|apply s2|apply s3) (by simp [It.rids]) ?_
    exact rfl
  intro hc36
  refine SC.skip ?_
  refine SE.seq ?_
  refine SC.seq (SC.region ?_)
  refine SL.eff (Eff.makeMap intK tV intOk (fun ac w => by simp [execOp, Instr.makeMap, newObj, Sem.run, Sem.run_bind, Result.andThen])) rfl rfl ?_
  rintro _ _ ⟨m37, rfl, rfl⟩
  refine SL.val (Val.assign rfl) rfl rfl ?_
  refine SL.nil (SE.seq ?_)
  refine SC.seq ?_
  refine SC.seq (SC.region ?_)
  refine SL.val (Val.move rfl) rfl rfl ?_
  first
    | refine SL.val (Val.lenSl rfl Try.underlying37 (List.length_map _)) rfl rfl ?_
    | refine SL.val (Val.lenOwn rfl (by repeat first|assumption|exact m0|apply m1) Try.underlying37 (List.length_map _)) rfl rfl ?_
    | refine SL.val (Val.lenNil rfl Try.underlying37) rfl rfl ?_
  refine SL.val (Val.move rfl) rfl rfl ?_
  refine SL.nil (SE.seq ?_)
  refine SC.block ?_
  refine SC.loop (ι := Nat × Set1 Int) (fun LY => [.pc (mapPc m37 intK tV intOk (LY.2))]) (fun LY => [(2, actsA l), (7, int (1 + av % 2)), (8, int (3 * (1 + av % 2) + 1)), (9, mapV m37), (38, byt L), (39, int (L.length : Nat)), (40, int (LY.1 : Nat))]) (fun LY => LY.1 ≤ L.length ∧ LY.2.length ≤ LY.1) (fun LY => L.length - LY.1) ((0, [])) (⟨Nat.zero_le _, Nat.le_refl _⟩) (by exact ⟨rfl, rfl, rfl, rfl, rfl, rfl, rfl, trivial⟩) (by repeat first|exact s0 _|exact s1 _|apply s2|apply s3) ?_
  intro LY hLY
  refine SC.seq (SC.region ?_)
  refine SL.val (Val.ltI rfl rfl) rfl rfl ?_
  refine SL.nil (SE.seq ?_)
  refine SC.seq ?_
  refine SC.condP rfl ?_ ?_
  · intro hc41
    have hlt : LY.1 < L.length := by omega
    refine SC.skip ?_
    refine SE.seq ?_
    refine SC.seq ?_
    refine SC.block ?_
    refine SC.seq (SC.region ?_)
    refine SL.val (Val.indexSl tabOk Try.underlying37 rfl rfl rfl rfl (at_map (by omega)) rfl rfl) rfl rfl ?_
    refine SL.val (Val.to (C := .v (.int .u8 ((L[LY.1]'hlt).toNat : Int))) (Val.load1R tabOk rfl rfl rfl) rfl) rfl rfl ?_
    refine SL.val (Val.assign rfl) rfl rfl ?_
    refine SL.nil (SE.seq ?_)
    refine SC.region ?_
    refine SL.val (Val.move rfl) rfl rfl ?_
    refine SL.val (Val.move rfl) rfl rfl ?_
    have hu8 := (L[LY.1]'hlt).toNat_lt
    have hmod : InR .i64 (((L[LY.1]'hlt).toNat : Int) % (3 * (1 + av % 2) + 1)) := by
      have q1 := Int.emod_nonneg (((L[LY.1]'hlt).toNat : Int)) (show (3 * (1 + av % 2) + 1) ≠ 0 by omega)
      have q2 := Int.emod_lt_of_pos (((L[LY.1]'hlt).toNat : Int)) (show 0 < (3 * (1 + av % 2) + 1) by omega)
      simp only [InR, lo, hi]
      omega
    refine SL.val (Val.convI rfl Try.underlying3 (by kernel_rfl) (by simp only [InR, lo, hi]; omega)) rfl rfl ?_
    refine SL.val (Val.move rfl) rfl rfl ?_
    first
      | refine SL.val (Val.remI rfl rfl (by omega)) rfl rfl ?_
      | refine SL.val (Val.remT rfl rfl (by omega)) rfl rfl ?_
    refine SL.eff (Eff.mapPut (a := ((L[LY.1]'hlt).toNat : Int) % (3 * (1 + av % 2) + 1)) (v := ()) (m' := aput LY.2 (((L[LY.1]'hlt).toNat : Int) % (3 * (1 + av % 2) + 1)) ()) (int_fit Try.underlying3) Try.underlying62 rfl (by repeat first|assumption|exact Upd.here|apply Upd.there) rfl is_v hmod rfl is_v rfl) rfl rfl ?_
    rintro _ _ ⟨rfl, rfl⟩
    refine SL.nil ?_
    refine SE.inBlock ?_
    refine SE.seq ?_
    refine SC.region ?_
    first
      | refine SL.val (Val.addI rfl rfl (by simp only [InR, lo, hi]; omega)) rfl rfl ?_
      | refine SL.val (Val.addW rfl rfl) rfl rfl ?_
    refine SL.val (Val.move rfl) rfl rfl ?_
    refine SL.nil ?_
    refine SE.round ((LY.1 + 1, aput LY.2 (((L[LY.1]'hlt).toNat : Int) % (3 * (1 + av % 2) + 1)) ())) (by first | omega | (dsimp only; omega)) (⟨hlt, Nat.le_trans (lies_len _ _) (by have := hLY.2; omega)⟩) (by exact ⟨rfl, rfl, rfl, rfl, rfl, rfl, rfl, trivial⟩) (by repeat first|exact s0 _|exact s1 _|apply s2|apply s3)
  intro hc41
  refine SC.exit ?_
  refine SE.then_ (by intro h; cases h) ?_
  refine SE.then_ (by intro h; cases h) ?_
  refine SE.exit ?_
  refine SE.seq ?_
  refine SC.seq (SC.region ?_)
  refine SL.call (inew_s) Casts.refl (by kernel_rfl) rfl rfl rfl ?_
  refine After.make3 (by repeat (first | exact Reads.nil | (refine Reads.blk ?_ ?_; focus ((repeat first|assumption|exact m0|apply m1); done)) | (refine Reads.rd ?_ ?_; focus ((repeat first|assumption|exact m0|apply m1); done)) | (refine Reads.pc ?_ ?_; focus ((repeat first|assumption|exact m0|apply m1); done)) | (refine Reads.rdpc ?_ ?_; focus ((repeat first|assumption|exact m0|apply m1); done)))) (fun _ => rfl) ?_
  intro z0
  refine SL.val (Val.assign rfl) rfl rfl ?_
  refine SL.nil (SE.seq ?_)
  refine SC.seq (SC.region ?_)
  refine SL.val (Val.move rfl) rfl rfl ?_
  refine SL.val (Val.makeIface rfl (fun _ _ => by kernel_rfl)) rfl rfl ?_
  refine SL.val (Val.move rfl) rfl rfl ?_
  refine SL.val (Val.move rfl) rfl rfl ?_
  refine SL.call (new_s (q := z0.1) (n := (3 * (1 + av % 2) + 1)) (id := (3 * (1 + av % 2) + 1)) (by omega) (by omega)) Casts.refl (by kernel_rfl) rfl rfl rfl ?_
  refine After.make2 (by repeat (first | exact Reads.nil | (refine Reads.blk ?_ ?_; focus ((repeat first|assumption|exact m0|apply m1); done)) | (refine Reads.rd ?_ ?_; focus ((repeat first|assumption|exact m0|apply m1); done)) | (refine Reads.pc ?_ ?_; focus ((repeat first|assumption|exact m0|apply m1); done)) | (refine Reads.rdpc ?_ ?_; focus ((repeat first|assumption|exact m0|apply m1); done)))) (fun _ => rfl) ?_
  intro z1
  refine SL.val (Val.assign rfl) rfl rfl ?_
  refine SL.nil (SE.seq ?_)
  refine SC.seq (SC.region ?_)
  refine SL.eff (Eff.makeMap ocV tV Oc.ins (fun ac w => by simp [execOp, Instr.makeMap, newObj, Sem.run, Sem.run_bind, Result.andThen])) rfl rfl ?_
  rintro _ _ ⟨m56, rfl, rfl⟩
  refine SL.val (Val.assign rfl) rfl rfl ?_
  refine SL.nil (SE.seq ?_)
  refine SC.seq ?_
  refine SC.seq (SC.region ?_)
  refine SL.val (Val.move rfl) rfl rfl ?_
  first
    | refine SL.val (Val.lenSl rfl Try.underlying22 (List.length_map _)) rfl rfl ?_
    | refine SL.val (Val.lenOwn rfl (by repeat first|assumption|exact m0|apply m1) Try.underlying22 (List.length_map _)) rfl rfl ?_
    | refine SL.val (Val.lenNil rfl Try.underlying22) rfl rfl ?_
  refine SL.val (Val.move rfl) rfl rfl ?_
  refine SL.nil (SE.seq ?_)
  refine SC.block ?_
  have hLK : (LY.2.length : Int) ≤ (max (3 * (1 + av % 2) + 1) 1 - 1) / 3 := by have h1 := hLY.1; have h2 := hLY.2; omega
  refine SC.to (T' := St _ _ ([.pc (mapPc m37 intK tV intOk (LY.2)), .pc (mapPc m56 ocV tV Oc.ins ([]))] ++ (clP z1 z0.1 (3 * (1 + av % 2) + 1) (3 * (1 + av % 2) + 1) (⟨0, none, [], .slice none 0 0⟩) ++ hidP z0.1 z0.2.1 z0.2.2 ([]))) _) (fun a w h => (h.less (τ := (.pc (mapPc m56 ocV tV Oc.ins ([])) :: (clP z1 z0.1 (3 * (1 + av % 2) + 1) (3 * (1 + av % 2) + 1) (⟨0, none, [], .slice none 0 0⟩) ++ hidP z0.1 z0.2.1 z0.2.2 ([]))) ++ [.pc (mapPc m37 intK tV intOk (LY.2))]) (by show List.Sublist [_, _, _, _, _, _] [_, _, _, _, _, _, _]; repeat (first | exact List.nil_sublist _ | exact List.Sublist.refl _ | apply List.Sublist.cons_cons | apply List.Sublist.cons))).perm (List.perm_append_singleton _ _).symm) ?_
  refine SC.loop (ι := BSt) (fun y => [.pc (mapPc m37 intK tV intOk (LY.2)), .pc (mapPc m56 ocV tV Oc.ins (y.2.2.2.1))] ++ (clP z1 z0.1 (3 * (1 + av % 2) + 1) (3 * (1 + av % 2) + 1) (y.2.2.1) ++ hidP z0.1 z0.2.1 z0.2.2 (y.2.2.2.2))) (fun y => [(8, int (3 * (1 + av % 2) + 1)), (9, mapV m37), (12, ptr z0.1), (13, ptr z1), (14, mapV m56), (57, actsA l), (58, int (l.length : Nat)), (59, int (y.1 : Nat))]) (fun y => BelOk (3 * (1 + av % 2) + 1) LY.2 l y) (fun y => l.length - y.1) ((0, 0, ⟨0, none, [], .slice none 0 0⟩, [], [])) (BelOk.start) (by exact ⟨rfl, rfl, rfl, rfl, rfl, rfl, rfl, rfl, trivial⟩) (List.Sublist.refl _) ?_
  intro y hy
  refine SC.seq (SC.region ?_)
  refine SL.val (Val.ltI rfl rfl) rfl rfl ?_
  refine SL.nil (SE.seq ?_)
  refine SC.seq ?_
  refine SC.condP rfl ?_ ?_
  rotate_left
  · intro hc60
    have hfw9 := (hy.once.ok (by have := hy.le; omega)).few
    refine SC.exit ?_
    refine SE.then_ (by intro h; cases h) ?_
    refine SE.then_ (by intro h; cases h) ?_
    refine SE.exit ?_
    refine SE.seq ?_
    refine SC.seq ?_
    refine SC.seq (SC.region ?_)
    refine SL.val (Val.move rfl) rfl rfl ?_
    refine SL.call (accS_s (p := z1) (q := z0.1) (n := (3 * (1 + av % 2) + 1)) (id := (3 * (1 + av % 2) + 1)) (s := y.2.2.1) (by have := (hy.once.ok (by have := hy.le; omega)).few; omega)) Casts.refl (by kernel_rfl) rfl rfl rfl ?_
    refine After.mid [.pc (mapPc m37 intK tV intOk (LY.2)), .pc (mapPc m56 ocV tV Oc.ins (y.2.2.2.1))] (β := hidP z0.1 z0.2.1 z0.2.2 (y.2.2.2.2)) rfl (clP_rids _) ?_
    intro _
    first
      | refine SL.val (Val.lenSl rfl Try.underlying42 (List.length_map _)) rfl rfl ?_
      | refine SL.val (Val.lenOwn rfl (by repeat first|assumption|exact m0|apply m1) Try.underlying42 (List.length_map _)) rfl rfl ?_
      | refine SL.val (Val.lenNil rfl Try.underlying42) rfl rfl ?_
    refine SL.val (Val.move rfl) rfl rfl ?_
    refine SL.nil (SE.seq ?_)
    refine SC.block ?_
    refine SC.loop (ι := Nat) (fun v => [.pc (mapPc m37 intK tV intOk (LY.2)), .pc (mapPc m56 ocV tV Oc.ins (y.2.2.2.1))] ++ (clP z1 z0.1 (3 * (1 + av % 2) + 1) (3 * (1 + av % 2) + 1) (y.2.2.1) ++ hidP z0.1 z0.2.1 z0.2.2 (y.2.2.2.2))) (fun v => [(14, mapV m56), (129, outA y.2.2.1.acc), (130, int (y.2.2.1.acc.length : Nat)), (131, int (v : Nat))]) (fun v => v ≤ (y.2.2.1).acc.length) (fun v => (y.2.2.1).acc.length - v) (0) (Nat.zero_le _) (by exact ⟨rfl, rfl, rfl, rfl, trivial⟩) (by (try simp only [List.append_nil]); first | exact List.Sublist.refl _ | exact List.sublist_cons_self _ _ | exact List.sublist_append_right [_] _) ?_
    intro v hv
    refine SC.seq (SC.region ?_)
    refine SL.val (Val.ltI rfl rfl) rfl rfl ?_
    refine SL.nil (SE.seq ?_)
    refine SC.seq ?_
    refine SC.condP rfl ?_ ?_
    rotate_left
    · intro hc132
      refine SC.exit ?_
      refine SE.then_ (by intro h; cases h) ?_
      refine SE.then_ (by intro h; cases h) ?_
      refine SE.exit ?_
      refine SE.seq ?_
      refine SC.seq (SC.region ?_)
      refine SL.val (Val.assign rfl) rfl rfl ?_
      refine SL.nil (SE.seq ?_)
      refine SC.ret ?_
      refine SE.fin (rs := [.tmp 6]) rfl (RV.tmp rfl RV.nil) (()) (by repeat first|exact s0 _|exact s1 _|apply s2|apply s3) (by simp [It.rids]) ?_
      exact rfl
    intro hc132
    have hl2 : v < (y.2.2.1).acc.length := by omega
    refine SC.skip ?_
    refine SE.seq ?_
    refine SC.seq ?_
    refine SC.block ?_
    refine SC.seq (SC.region ?_)
    refine SL.val (Val.indexSl tabOk Try.underlying42 rfl rfl rfl rfl (at_map (by omega)) rfl rfl) rfl rfl ?_
    refine SL.val (Val.loadAR tabOk rfl rfl rfl rfl) rfl rfl ?_
    refine SL.eff (Eff.alloc tabOk rfl) rfl rfl ?_
    rintro _ _ ⟨b18, rfl, rfl⟩
    refine SL.eff (Eff.store (L' := ((y.2.2.1).acc[v]'hl2).abs) tabOk rfl rfl rfl (by repeat first|assumption|exact Upd.here|apply Upd.there) rfl (Nat.le_of_ble_eq_true (by rfl)) rfl (by exact putL_whole rfl)) rfl rfl ?_
    rintro _ _ ⟨rfl, rfl⟩
    refine SL.nil (SE.seq ?_)
    refine SC.seq (SC.region ?_)
    refine SL.val (Val.move rfl) rfl rfl ?_
    refine SL.val (Val.loadA tabOk rfl rfl rfl (by first|(apply Or.inl;(repeat first|assumption|exact m0|apply m1);done)|(apply Or.inr;(repeat first|assumption|exact m0|apply m1);done)) List.not_mem_nil rfl) rfl rfl ?_
    refine SL.val (Val.mapGet (a := ((y.2.2.1).acc[v]'hl2)) (zv := .bool false) (C := boo (aget y.2.2.2.1 ((y.2.2.1).acc[v]'hl2)).isSome) oc_fit Try.underlying63 bool_zero rfl (by first|(apply Or.inl;(repeat first|assumption|exact m0|apply m1);done)|(apply Or.inr;(repeat first|assumption|exact m0|apply m1);done)) List.not_mem_nil rfl (oc_is _) (hy.ins _ (hy.bel.acc _ (List.getElem_mem hl2))) (set_is _ _)) rfl rfl ?_
    refine SL.val (Val.notB rfl) rfl rfl ?_
    refine SL.nil (SE.seq ?_)
    refine SC.cond rfl (by intro hc138; exfalso; have h9 := hy.bel.acc _ (List.getElem_mem hl2); unfold inS at h9; rw [h9] at hc138; cases hc138) ?_
    intro hc138
    refine SC.skip ?_
    refine SE.inBlock ?_
    refine SE.seq ?_
    refine SC.region ?_
    first
      | refine SL.val (Val.addI rfl rfl (by simp only [InR, lo, hi]; omega)) rfl rfl ?_
      | refine SL.val (Val.addW rfl rfl) rfl rfl ?_
    refine SL.val (Val.move rfl) rfl rfl ?_
    refine SL.nil ?_
    refine SE.round (v + 1) (by first | omega | (dsimp only; omega)) (by first | omega | (dsimp only; omega)) (by exact ⟨rfl, rfl, rfl, rfl, trivial⟩) (by (try simp only [List.append_nil]); first | exact List.Sublist.refl _ | exact List.sublist_cons_self _ _ | exact List.sublist_append_right [_] _)
  intro hc60
  have hlt : y.1 < l.length := by have := hy.le; omega
  have hco := hy.once
  have hcf := hco.few
  have hct := hco.tags
  have hcs := hco.stamp
  have hbe := hy.bel
  refine SC.skip ?_
  refine SE.seq ?_
  refine SC.seq ?_
  refine SC.block ?_
  refine SC.seq (SC.region ?_)
  refine SL.val (Val.indexSl tabOk Try.underlying22 rfl rfl rfl rfl (at_map (by omega)) rfl rfl) rfl rfl ?_
  refine SL.val (Val.loadAR tabOk rfl rfl rfl rfl) rfl rfl ?_
  refine SL.eff (Eff.alloc tabOk rfl) rfl rfl ?_
  rintro _ _ ⟨b16, rfl, rfl⟩
  refine SL.eff (Eff.store (L' := (l[y.1]'hlt).abs) tabOk rfl rfl rfl (by repeat first|assumption|exact Upd.here|apply Upd.there) rfl (Nat.le_of_ble_eq_true (by rfl)) rfl (by exact putL_whole rfl)) rfl rfl ?_
  rintro _ _ ⟨rfl, rfl⟩
  refine SL.nil (SE.seq ?_)
  refine SC.seq ?_
  refine SC.seq (SC.region ?_)
  refine SL.val (Val.loadA tabOk rfl rfl rfl (by first|(apply Or.inl;(repeat first|assumption|exact m0|apply m1);done)|(apply Or.inr;(repeat first|assumption|exact m0|apply m1);done)) List.not_mem_nil rfl) rfl rfl ?_
  refine SL.call (few31_s (a := (l[y.1]'hlt))) Casts.refl (by kernel_rfl) rfl rfl rfl ?_
  refine After.pure (by repeat (first | exact Reads.nil | (refine Reads.blk ?_ ?_; focus ((repeat first|assumption|exact m0|apply m1); done)) | (refine Reads.rd ?_ ?_; focus ((repeat first|assumption|exact m0|apply m1); done)) | (refine Reads.pc ?_ ?_; focus ((repeat first|assumption|exact m0|apply m1); done)) | (refine Reads.rdpc ?_ ?_; focus ((repeat first|assumption|exact m0|apply m1); done)))) (fun _ => rfl) ?_
  intro _
  refine SL.val (Val.notB rfl) rfl rfl ?_
  refine SL.nil (SE.seq ?_)
  refine SC.cond rfl ?_ ?_
  · intro hc65
    refine SC.seq (SC.region ?_)
    refine SL.val (Val.assign rfl) rfl rfl ?_
    refine SL.nil (SE.seq ?_)
    refine SC.ret ?_
    refine SE.then_ (by intro h; cases h) ?_
    refine SE.ret ?_
    refine SE.then_ (by intro h; cases h) ?_
    refine SE.then_ (by intro h; cases h) ?_
    refine SE.ret ?_
    refine SE.then_ (by intro h; cases h) ?_
    refine SE.fin (rs := [.tmp 6]) rfl (RV.tmp rfl RV.nil) (()) (by repeat first|exact s0 _|exact s1 _|apply s2|apply s3) (by simp [It.rids]) ?_
    exact rfl
  intro hc65
  have hfw := Ac.few_iff.1 (show (l[y.1]'hlt).few = true by simpa using hc65)
  refine SC.skip ?_
  refine SE.seq ?_
  refine SC.block ?_
  refine SC.seq (SC.region ?_)
  refine SL.val (Val.fieldAddr tabOk rfl rfl rfl rfl rfl) rfl rfl ?_
  refine SL.val (Val.load1 tabOk rfl rfl (by first|(apply Or.inl;(repeat first|assumption|exact m0|apply m1);done)|(apply Or.inr;(repeat first|assumption|exact m0|apply m1);done)) List.not_mem_nil (by rfl)) rfl rfl ?_
  refine SL.val (Val.eqI rfl rfl) rfl rfl ?_
  refine SL.val (Val.assign rfl) rfl rfl ?_
  refine SL.nil (SE.seq ?_)
  refine SC.condP rfl ?_ ?_
  · intro hc66
    refine SC.region ?_
    refine SL.val (Val.move rfl) rfl rfl ?_
    refine SL.val (Val.move rfl) rfl rfl ?_
    refine SL.val (Val.fieldAddr tabOk rfl rfl rfl rfl rfl) rfl rfl ?_
    refine SL.val (Val.to (C := coreA (l[y.1]'hlt).core) (Val.loadP tabOk rfl rfl rfl (by first|(apply Or.inl;(repeat first|assumption|exact m0|apply m1);done)|(apply Or.inr;(repeat first|assumption|exact m0|apply m1);done)) List.not_mem_nil (Nat.le_of_ble_eq_true (by rfl))) (congrArg Abs.agg (ac_core _))) rfl rfl ?_
    refine SL.call (nextS_s (p := z1) (q := z0.1) (n := (3 * (1 + av % 2) + 1)) (id := (3 * (1 + av % 2) + 1)) (s := y.2.2.1) (x := (l[y.1]'hlt).core) (by omega) (by omega)) Casts.refl (by kernel_rfl) rfl rfl rfl ?_
    refine After.mid [.blk b16 55 (l[y.1]'hlt).abs, .pc (mapPc m37 intK tV intOk (LY.2)), .pc (mapPc m56 ocV tV Oc.ins (y.2.2.2.1))] (β := hidP z0.1 z0.2.1 z0.2.2 (y.2.2.2.2)) rfl (clP_rids _) ?_
    intro _
    have hins : Core.ins (nextC (3 * (1 + av % 2) + 1) y.2.2.1.stamp (l[y.1]'hlt).core) := ins_next (hin _ (List.getElem_mem hlt)).1 (by simp only [InR, lo, hi]; omega) ⟨by omega, by omega⟩
    refine SL.call (askS_s (p := z1) (q := z0.1) (bd := z0.2.1) (bt := z0.2.2) (n := (3 * (1 + av % 2) + 1)) (id := (3 * (1 + av % 2) + 1)) (x := (nextC (3 * (1 + av % 2) + 1) y.2.2.1.stamp (l[y.1]'hlt).core)) (T := y.2.2.2.2) (s := y.2.2.1) hins hins (by show (l[y.1]'hlt).core.letter.size ≤ _; omega) (by show (l[y.1]'hlt).core.text.size ≤ _; omega) hco.num (by omega) (by omega)) (Casts.keep (Casts.keep (Casts.nils (s := 2) Casts.refl))) (by kernel_rfl) rfl rfl rfl ?_
    refine After.mid [.blk b16 55 (l[y.1]'hlt).abs, .pc (mapPc m37 intK tV intOk (LY.2)), .pc (mapPc m56 ocV tV Oc.ins (y.2.2.2.1))] (β := []) (by first | rfl | (simp; done) | (simp [hidP]; done)) askS_rids ?_
    intro za
    refine SL.nil ?_
    refine SE.inBlock ?_
    refine SE.inBlock ?_
    refine SE.seq ?_
    refine SC.region ?_
    first
      | refine SL.val (Val.addI rfl rfl (by simp only [InR, lo, hi]; omega)) rfl rfl ?_
      | refine SL.val (Val.addW rfl rfl) rfl rfl ?_
    refine SL.val (Val.move rfl) rfl rfl ?_
    refine SL.nil ?_
    refine SE.round ((y.1 + 1, (if askSE (3 * (1 + av % 2) + 1) (3 * (1 + av % 2) + 1) y.2.2.1 (nextC (3 * (1 + av % 2) + 1) y.2.2.1.stamp (l[y.1]'hlt).core) = 0 then y.2.1 + 1 else y.2.1), askS y.2.2.2.2 (3 * (1 + av % 2) + 1) (3 * (1 + av % 2) + 1) y.2.2.1 (nextC (3 * (1 + av % 2) + 1) y.2.2.1.stamp (l[y.1]'hlt).core) za, y.2.2.2.1, askST y.2.2.2.2 (3 * (1 + av % 2) + 1) (3 * (1 + av % 2) + 1) y.2.2.1 (nextC (3 * (1 + av % 2) + 1) y.2.2.1.stamp (l[y.1]'hlt).core))) (by first | omega | (dsimp only; omega)) (⟨hlt, hco.ask (l[y.1]'hlt).core za, hbe.ask (by omega) _ _, hy.ins⟩) (by exact ⟨rfl, rfl, rfl, rfl, rfl, rfl, rfl, rfl, trivial⟩) (by (try simp only [List.append_nil]); first | exact List.Sublist.refl _ | exact List.sublist_cons_self _ _ | exact List.sublist_append_right [_] _)
  intro hc66
  refine SC.seq (SC.region ?_)
  refine SL.val (Val.fieldAddr tabOk rfl rfl rfl rfl rfl) rfl rfl ?_
  refine SL.val (Val.load1 tabOk rfl rfl (by first|(apply Or.inl;(repeat first|assumption|exact m0|apply m1);done)|(apply Or.inr;(repeat first|assumption|exact m0|apply m1);done)) List.not_mem_nil (by rfl)) rfl rfl ?_
  refine SL.val (Val.eqI rfl rfl) rfl rfl ?_
  refine SL.val (Val.move rfl) rfl rfl ?_
  refine SL.bothP (t := 80) rfl ?_ ?_
  rotate_left
  · intro hc80
    iterate 3 refine SL.skip rfl rfl ?_
    refine SL.val (Val.pickF rfl rfl) rfl rfl ?_
    refine SL.val (Val.move rfl) rfl rfl ?_
    iterate 4 refine SL.skip rfl rfl ?_
    refine SL.val (Val.pickF rfl rfl) rfl rfl ?_
    refine SL.val (Val.assign rfl) rfl rfl ?_
    refine SL.nil (SE.seq ?_)
    refine SC.condF rfl ?_
    refine SC.seq (SC.region ?_)
    refine SL.val (Val.fieldAddr tabOk rfl rfl rfl rfl rfl) rfl rfl ?_
    refine SL.val (Val.load1 tabOk rfl rfl (by first|(apply Or.inl;(repeat first|assumption|exact m0|apply m1);done)|(apply Or.inr;(repeat first|assumption|exact m0|apply m1);done)) List.not_mem_nil (by rfl)) rfl rfl ?_
    refine SL.val (Val.gtI rfl rfl) rfl rfl ?_
    refine SL.val (Val.assign rfl) rfl rfl ?_
    refine SL.nil (SE.seq ?_)
    refine SC.condP rfl ?_ ?_
    rotate_left
    · intro hc119
      refine SC.skip ?_
      refine SE.inBlock ?_
      refine SE.inBlock ?_
      refine SE.seq ?_
      refine SC.region ?_
      first
        | refine SL.val (Val.addI rfl rfl (by simp only [InR, lo, hi]; omega)) rfl rfl ?_
        | refine SL.val (Val.addW rfl rfl) rfl rfl ?_
      refine SL.val (Val.move rfl) rfl rfl ?_
      refine SL.nil ?_
      first
        | refine SE.round (y.1 + 1, y.2.1, recvS y.2.2.2.2 (3 * (1 + av % 2) + 1) (3 * (1 + av % 2) + 1) y.2.2.1 (l[y.1]'hlt).msg zr, y.2.2.2.1, y.2.2.2.2) (by first | omega | (dsimp only; omega)) (⟨hlt, (hco.recv _ _).up, hbe.recv hLK _ _, hy.ins⟩) (by exact ⟨rfl, rfl, rfl, rfl, rfl, rfl, rfl, rfl, trivial⟩) (by (try simp only [List.append_nil]); first | exact List.Sublist.refl _ | exact List.sublist_cons_self _ _ | exact List.sublist_append_right [_] _)
        | refine SE.round (y.1 + 1, y.2.1, y.2.2.1, y.2.2.2.1, y.2.2.2.2) (by first | omega | (dsimp only; omega)) (⟨hlt, hco.up, hbe, hy.ins⟩) (by exact ⟨rfl, rfl, rfl, rfl, rfl, rfl, rfl, rfl, trivial⟩) (by (try simp only [List.append_nil]); first | exact List.Sublist.refl _ | exact List.sublist_cons_self _ _ | exact List.sublist_append_right [_] _)
    intro hc119
    refine SC.region ?_
    refine SL.val (Val.move rfl) rfl rfl ?_
    refine SL.val (Val.fieldAddr tabOk rfl rfl rfl rfl rfl) rfl rfl ?_
    refine SL.val (Val.to (C := .agg (l[y.1]'hlt).msg.abs) (Val.loadP tabOk rfl rfl rfl (by first|(apply Or.inl;(repeat first|assumption|exact m0|apply m1);done)|(apply Or.inr;(repeat first|assumption|exact m0|apply m1);done)) List.not_mem_nil (Nat.le_of_ble_eq_true (by rfl))) (congrArg Abs.agg (ac_msg _))) rfl rfl ?_
    refine SL.call (recvF_s (p := z1) (q := z0.1) (bd := z0.2.1) (bt := z0.2.2) (n := (3 * (1 + av % 2) + 1)) (id := (3 * (1 + av % 2) + 1)) (m := (l[y.1]'hlt).msg) (T := y.2.2.2.2) (s := y.2.2.1) (by omega) hco.num (by have := hco.tags; omega) (hco.ok (by omega)) (by omega)) Casts.refl (by kernel_rfl) rfl rfl rfl ?_
    refine After.mid [.blk b16 55 (l[y.1]'hlt).abs, .pc (mapPc m37 intK tV intOk (LY.2)), .pc (mapPc m56 ocV tV Oc.ins (y.2.2.2.1))] (β := []) (by first | rfl | (simp; done) | (simp [hidP]; done)) askS_rids ?_
    intro zr
    refine SL.nil ?_
    refine SE.inBlock ?_
    refine SE.inBlock ?_
    refine SE.seq ?_
    refine SC.region ?_
    first
      | refine SL.val (Val.addI rfl rfl (by simp only [InR, lo, hi]; omega)) rfl rfl ?_
      | refine SL.val (Val.addW rfl rfl) rfl rfl ?_
    refine SL.val (Val.move rfl) rfl rfl ?_
    refine SL.nil ?_
    first
      | refine SE.round (y.1 + 1, y.2.1, recvS y.2.2.2.2 (3 * (1 + av % 2) + 1) (3 * (1 + av % 2) + 1) y.2.2.1 (l[y.1]'hlt).msg zr, y.2.2.2.1, y.2.2.2.2) (by first | omega | (dsimp only; omega)) (⟨hlt, (hco.recv _ _).up, hbe.recv hLK _ _, hy.ins⟩) (by exact ⟨rfl, rfl, rfl, rfl, rfl, rfl, rfl, rfl, trivial⟩) (by (try simp only [List.append_nil]); first | exact List.Sublist.refl _ | exact List.sublist_cons_self _ _ | exact List.sublist_append_right [_] _)
      | refine SE.round (y.1 + 1, y.2.1, y.2.2.1, y.2.2.2.1, y.2.2.2.2) (by first | omega | (dsimp only; omega)) (⟨hlt, hco.up, hbe, hy.ins⟩) (by exact ⟨rfl, rfl, rfl, rfl, rfl, rfl, rfl, rfl, trivial⟩) (by (try simp only [List.append_nil]); first | exact List.Sublist.refl _ | exact List.sublist_cons_self _ _ | exact List.sublist_append_right [_] _)
  intro hc80
  refine SL.val (Val.fieldAddr tabOk rfl rfl rfl rfl rfl) rfl rfl ?_
  refine SL.val (Val.load1 tabOk rfl rfl (by first|(apply Or.inl;(repeat first|assumption|exact m0|apply m1);done)|(apply Or.inr;(repeat first|assumption|exact m0|apply m1);done)) List.not_mem_nil (by rfl)) rfl rfl ?_
  refine SL.val (Val.geI rfl rfl) rfl rfl ?_
  refine SL.val (Val.pickT rfl rfl) rfl rfl ?_
  refine SL.val (Val.move rfl) rfl rfl ?_
  refine SL.bothP (t := 85) rfl ?_ ?_
  rotate_left
  · intro hc85
    iterate 4 refine SL.skip rfl rfl ?_
    refine SL.val (Val.pickF rfl rfl) rfl rfl ?_
    refine SL.val (Val.assign rfl) rfl rfl ?_
    refine SL.nil (SE.seq ?_)
    refine SC.condF rfl ?_
    refine SC.seq (SC.region ?_)
    refine SL.val (Val.fieldAddr tabOk rfl rfl rfl rfl rfl) rfl rfl ?_
    refine SL.val (Val.load1 tabOk rfl rfl (by first|(apply Or.inl;(repeat first|assumption|exact m0|apply m1);done)|(apply Or.inr;(repeat first|assumption|exact m0|apply m1);done)) List.not_mem_nil (by rfl)) rfl rfl ?_
    refine SL.val (Val.gtI rfl rfl) rfl rfl ?_
    refine SL.val (Val.assign rfl) rfl rfl ?_
    refine SL.nil (SE.seq ?_)
    refine SC.condP rfl ?_ ?_
    rotate_left
    · intro hc119
      refine SC.skip ?_
      refine SE.inBlock ?_
      refine SE.inBlock ?_
      refine SE.seq ?_
      refine SC.region ?_
      first
        | refine SL.val (Val.addI rfl rfl (by simp only [InR, lo, hi]; omega)) rfl rfl ?_
        | refine SL.val (Val.addW rfl rfl) rfl rfl ?_
      refine SL.val (Val.move rfl) rfl rfl ?_
      refine SL.nil ?_
      first
        | refine SE.round (y.1 + 1, y.2.1, recvS y.2.2.2.2 (3 * (1 + av % 2) + 1) (3 * (1 + av % 2) + 1) y.2.2.1 (l[y.1]'hlt).msg zr, y.2.2.2.1, y.2.2.2.2) (by first | omega | (dsimp only; omega)) (⟨hlt, (hco.recv _ _).up, hbe.recv hLK _ _, hy.ins⟩) (by exact ⟨rfl, rfl, rfl, rfl, rfl, rfl, rfl, rfl, trivial⟩) (by (try simp only [List.append_nil]); first | exact List.Sublist.refl _ | exact List.sublist_cons_self _ _ | exact List.sublist_append_right [_] _)
        | refine SE.round (y.1 + 1, y.2.1, y.2.2.1, y.2.2.2.1, y.2.2.2.2) (by first | omega | (dsimp only; omega)) (⟨hlt, hco.up, hbe, hy.ins⟩) (by exact ⟨rfl, rfl, rfl, rfl, rfl, rfl, rfl, rfl, trivial⟩) (by (try simp only [List.append_nil]); first | exact List.Sublist.refl _ | exact List.sublist_cons_self _ _ | exact List.sublist_append_right [_] _)
    intro hc119
    refine SC.region ?_
    refine SL.val (Val.move rfl) rfl rfl ?_
    refine SL.val (Val.fieldAddr tabOk rfl rfl rfl rfl rfl) rfl rfl ?_
    refine SL.val (Val.to (C := .agg (l[y.1]'hlt).msg.abs) (Val.loadP tabOk rfl rfl rfl (by first|(apply Or.inl;(repeat first|assumption|exact m0|apply m1);done)|(apply Or.inr;(repeat first|assumption|exact m0|apply m1);done)) List.not_mem_nil (Nat.le_of_ble_eq_true (by rfl))) (congrArg Abs.agg (ac_msg _))) rfl rfl ?_
    refine SL.call (recvF_s (p := z1) (q := z0.1) (bd := z0.2.1) (bt := z0.2.2) (n := (3 * (1 + av % 2) + 1)) (id := (3 * (1 + av % 2) + 1)) (m := (l[y.1]'hlt).msg) (T := y.2.2.2.2) (s := y.2.2.1) (by omega) hco.num (by have := hco.tags; omega) (hco.ok (by omega)) (by omega)) Casts.refl (by kernel_rfl) rfl rfl rfl ?_
    refine After.mid [.blk b16 55 (l[y.1]'hlt).abs, .pc (mapPc m37 intK tV intOk (LY.2)), .pc (mapPc m56 ocV tV Oc.ins (y.2.2.2.1))] (β := []) (by first | rfl | (simp; done) | (simp [hidP]; done)) askS_rids ?_
    intro zr
    refine SL.nil ?_
    refine SE.inBlock ?_
    refine SE.inBlock ?_
    refine SE.seq ?_
    refine SC.region ?_
    first
      | refine SL.val (Val.addI rfl rfl (by simp only [InR, lo, hi]; omega)) rfl rfl ?_
      | refine SL.val (Val.addW rfl rfl) rfl rfl ?_
    refine SL.val (Val.move rfl) rfl rfl ?_
    refine SL.nil ?_
    first
      | refine SE.round (y.1 + 1, y.2.1, recvS y.2.2.2.2 (3 * (1 + av % 2) + 1) (3 * (1 + av % 2) + 1) y.2.2.1 (l[y.1]'hlt).msg zr, y.2.2.2.1, y.2.2.2.2) (by first | omega | (dsimp only; omega)) (⟨hlt, (hco.recv _ _).up, hbe.recv hLK _ _, hy.ins⟩) (by exact ⟨rfl, rfl, rfl, rfl, rfl, rfl, rfl, rfl, trivial⟩) (by (try simp only [List.append_nil]); first | exact List.Sublist.refl _ | exact List.sublist_cons_self _ _ | exact List.sublist_append_right [_] _)
      | refine SE.round (y.1 + 1, y.2.1, y.2.2.1, y.2.2.2.1, y.2.2.2.2) (by first | omega | (dsimp only; omega)) (⟨hlt, hco.up, hbe, hy.ins⟩) (by exact ⟨rfl, rfl, rfl, rfl, rfl, rfl, rfl, rfl, trivial⟩) (by (try simp only [List.append_nil]); first | exact List.Sublist.refl _ | exact List.sublist_cons_self _ _ | exact List.sublist_append_right [_] _)
  intro hc85
  refine SL.val (Val.fieldAddr tabOk rfl rfl rfl rfl rfl) rfl rfl ?_
  refine SL.val (Val.load1 tabOk rfl rfl (by first|(apply Or.inl;(repeat first|assumption|exact m0|apply m1);done)|(apply Or.inr;(repeat first|assumption|exact m0|apply m1);done)) List.not_mem_nil (by rfl)) rfl rfl ?_
  refine SL.val (Val.move rfl) rfl rfl ?_
  refine SL.val (Val.ltI rfl rfl) rfl rfl ?_
  refine SL.val (Val.pickT rfl rfl) rfl rfl ?_
  refine SL.val (Val.assign rfl) rfl rfl ?_
  refine SL.nil (SE.seq ?_)
  refine SC.condP rfl ?_ ?_
  rotate_left
  · intro hc76
    refine SC.seq (SC.region ?_)
    refine SL.val (Val.fieldAddr tabOk rfl rfl rfl rfl rfl) rfl rfl ?_
    refine SL.val (Val.load1 tabOk rfl rfl (by first|(apply Or.inl;(repeat first|assumption|exact m0|apply m1);done)|(apply Or.inr;(repeat first|assumption|exact m0|apply m1);done)) List.not_mem_nil (by rfl)) rfl rfl ?_
    refine SL.val (Val.gtI rfl rfl) rfl rfl ?_
    refine SL.val (Val.assign rfl) rfl rfl ?_
    refine SL.nil (SE.seq ?_)
    refine SC.condP rfl ?_ ?_
    rotate_left
    · intro hc119
      refine SC.skip ?_
      refine SE.inBlock ?_
      refine SE.inBlock ?_
      refine SE.seq ?_
      refine SC.region ?_
      first
        | refine SL.val (Val.addI rfl rfl (by simp only [InR, lo, hi]; omega)) rfl rfl ?_
        | refine SL.val (Val.addW rfl rfl) rfl rfl ?_
      refine SL.val (Val.move rfl) rfl rfl ?_
      refine SL.nil ?_
      first
        | refine SE.round (y.1 + 1, y.2.1, recvS y.2.2.2.2 (3 * (1 + av % 2) + 1) (3 * (1 + av % 2) + 1) y.2.2.1 (l[y.1]'hlt).msg zr, y.2.2.2.1, y.2.2.2.2) (by first | omega | (dsimp only; omega)) (⟨hlt, (hco.recv _ _).up, hbe.recv hLK _ _, hy.ins⟩) (by exact ⟨rfl, rfl, rfl, rfl, rfl, rfl, rfl, rfl, trivial⟩) (by (try simp only [List.append_nil]); first | exact List.Sublist.refl _ | exact List.sublist_cons_self _ _ | exact List.sublist_append_right [_] _)
        | refine SE.round (y.1 + 1, y.2.1, y.2.2.1, y.2.2.2.1, y.2.2.2.2) (by first | omega | (dsimp only; omega)) (⟨hlt, hco.up, hbe, hy.ins⟩) (by exact ⟨rfl, rfl, rfl, rfl, rfl, rfl, rfl, rfl, trivial⟩) (by (try simp only [List.append_nil]); first | exact List.Sublist.refl _ | exact List.sublist_cons_self _ _ | exact List.sublist_append_right [_] _)
    intro hc119
    refine SC.region ?_
    refine SL.val (Val.move rfl) rfl rfl ?_
    refine SL.val (Val.fieldAddr tabOk rfl rfl rfl rfl rfl) rfl rfl ?_
    refine SL.val (Val.to (C := .agg (l[y.1]'hlt).msg.abs) (Val.loadP tabOk rfl rfl rfl (by first|(apply Or.inl;(repeat first|assumption|exact m0|apply m1);done)|(apply Or.inr;(repeat first|assumption|exact m0|apply m1);done)) List.not_mem_nil (Nat.le_of_ble_eq_true (by rfl))) (congrArg Abs.agg (ac_msg _))) rfl rfl ?_
    refine SL.call (recvF_s (p := z1) (q := z0.1) (bd := z0.2.1) (bt := z0.2.2) (n := (3 * (1 + av % 2) + 1)) (id := (3 * (1 + av % 2) + 1)) (m := (l[y.1]'hlt).msg) (T := y.2.2.2.2) (s := y.2.2.1) (by omega) hco.num (by have := hco.tags; omega) (hco.ok (by omega)) (by omega)) Casts.refl (by kernel_rfl) rfl rfl rfl ?_
    refine After.mid [.blk b16 55 (l[y.1]'hlt).abs, .pc (mapPc m37 intK tV intOk (LY.2)), .pc (mapPc m56 ocV tV Oc.ins (y.2.2.2.1))] (β := []) (by first | rfl | (simp; done) | (simp [hidP]; done)) askS_rids ?_
    intro zr
    refine SL.nil ?_
    refine SE.inBlock ?_
    refine SE.inBlock ?_
    refine SE.seq ?_
    refine SC.region ?_
    first
      | refine SL.val (Val.addI rfl rfl (by simp only [InR, lo, hi]; omega)) rfl rfl ?_
      | refine SL.val (Val.addW rfl rfl) rfl rfl ?_
    refine SL.val (Val.move rfl) rfl rfl ?_
    refine SL.nil ?_
    first
      | refine SE.round (y.1 + 1, y.2.1, recvS y.2.2.2.2 (3 * (1 + av % 2) + 1) (3 * (1 + av % 2) + 1) y.2.2.1 (l[y.1]'hlt).msg zr, y.2.2.2.1, y.2.2.2.2) (by first | omega | (dsimp only; omega)) (⟨hlt, (hco.recv _ _).up, hbe.recv hLK _ _, hy.ins⟩) (by exact ⟨rfl, rfl, rfl, rfl, rfl, rfl, rfl, rfl, trivial⟩) (by (try simp only [List.append_nil]); first | exact List.Sublist.refl _ | exact List.sublist_cons_self _ _ | exact List.sublist_append_right [_] _)
      | refine SE.round (y.1 + 1, y.2.1, y.2.2.1, y.2.2.2.1, y.2.2.2.2) (by first | omega | (dsimp only; omega)) (⟨hlt, hco.up, hbe, hy.ins⟩) (by exact ⟨rfl, rfl, rfl, rfl, rfl, rfl, rfl, rfl, trivial⟩) (by (try simp only [List.append_nil]); first | exact List.Sublist.refl _ | exact List.sublist_cons_self _ _ | exact List.sublist_append_right [_] _)
  intro hc76
  refine SC.seq (SC.region ?_)
  refine SL.val (Val.move rfl) rfl rfl ?_
  refine SL.val (Val.fieldAddr tabOk rfl rfl rfl rfl rfl) rfl rfl ?_
  refine SL.val (Val.fieldAddr tabOk rfl rfl rfl rfl rfl) rfl rfl ?_
  refine SL.eff (Eff.store (L' := (Ac.mk (l[y.1]'hlt).kind (l[y.1]'hlt).from_ (l[y.1]'hlt).to_ (l[y.1]'hlt).core ⟨(l[y.1]'hlt).reply.view, (3 * (1 + av % 2) + 1), (l[y.1]'hlt).reply.stamp, (l[y.1]'hlt).reply.result⟩ (l[y.1]'hlt).msg).abs) tabOk rfl rfl rfl (by repeat first|assumption|exact Upd.here|apply Upd.there) rfl (Nat.le_of_ble_eq_true (by rfl)) rfl (by rfl)) rfl rfl ?_
  rintro _ _ ⟨rfl, rfl⟩
  refine SL.nil (SE.seq ?_)
  refine SC.cutS (ι := Set1 Oc) (fun z => .blk b16 55 (Ac.mk (l[y.1]'hlt).kind (l[y.1]'hlt).from_ (l[y.1]'hlt).to_ (l[y.1]'hlt).core ⟨(l[y.1]'hlt).reply.view, (3 * (1 + av % 2) + 1), (l[y.1]'hlt).reply.stamp, (l[y.1]'hlt).reply.result⟩ (l[y.1]'hlt).msg).abs :: ([.pc (mapPc m37 intK tV intOk (LY.2)), .pc (mapPc m56 ocV tV Oc.ins (z))] ++ (clP z1 z0.1 (3 * (1 + av % 2) + 1) (3 * (1 + av % 2) + 1) (y.2.2.1) ++ hidP z0.1 z0.2.1 z0.2.2 (y.2.2.2.2)))) (fun z => [(8, int (3 * (1 + av % 2) + 1)), (9, mapV m37), (12, ptr z0.1), (13, ptr z1), (14, mapV m56), (57, actsA l), (58, int (l.length : Nat)), (59, int (y.1 : Nat)), (16, ptr b16)]) (fun z => (∀ o, inS y.2.2.2.1 o = true → inS z o = true) ∧ (∀ o, inS z o = true → o.ins) ∧ (inS LY.2 (l[y.1]'hlt).from_ = false → inS z (Oc.mk (3 * (1 + av % 2) + 1) (l[y.1]'hlt).reply.stamp ((u64 (l[y.1]'hlt).reply.result % 256 : Nat) : Int)) = true)) ?_ ?_
  · skip
    refine SC.seq (SC.region ?_)
    refine SL.val (Val.move rfl) rfl rfl ?_
    refine SL.val (Val.fieldAddr tabOk rfl rfl rfl rfl rfl) rfl rfl ?_
    refine SL.val (Val.load1 tabOk rfl rfl (by first|(apply Or.inl;(repeat first|assumption|exact m0|apply m1);done)|(apply Or.inr;(repeat first|assumption|exact m0|apply m1);done)) List.not_mem_nil (by rfl)) rfl rfl ?_
    refine SL.val (Val.mapGet (a := (l[y.1]'hlt).from_) (zv := .bool false) (C := boo (aget LY.2 (l[y.1]'hlt).from_).isSome) (int_fit Try.underlying3) Try.underlying62 bool_zero rfl (by first|(apply Or.inl;(repeat first|assumption|exact m0|apply m1);done)|(apply Or.inr;(repeat first|assumption|exact m0|apply m1);done)) List.not_mem_nil rfl is_v (by simp only [InR, lo, hi]; omega) (set_is _ _)) rfl rfl ?_
    refine SL.val (Val.notB rfl) rfl rfl ?_
    refine SL.nil (SE.seq ?_)
    refine SC.cond rfl ?_ ?_
    rotate_left
    · intro hc98
      refine SC.skip ?_
      refine SE.meet (y.2.2.2.1) (⟨fun o ho => ho, hy.ins, fun h9 => by exfalso; unfold inS at h9; rw [h9] at hc98; cases hc98⟩) (by exact ⟨rfl, rfl, rfl, rfl, rfl, rfl, rfl, rfl, rfl, trivial⟩) (by repeat first|exact s0 _|exact s1 _|apply s2|apply s3)
    intro hc98
    refine SC.region ?_
    refine SL.val (Val.move rfl) rfl rfl ?_
    refine SL.val (Val.move rfl) rfl rfl ?_
    refine SL.val (Val.fieldAddr tabOk rfl rfl rfl rfl rfl) rfl rfl ?_
    refine SL.val (Val.fieldAddr tabOk rfl rfl rfl rfl rfl) rfl rfl ?_
    refine SL.val (Val.load1 tabOk rfl rfl (by first|(apply Or.inl;(repeat first|assumption|exact m0|apply m1);done)|(apply Or.inr;(repeat first|assumption|exact m0|apply m1);done)) List.not_mem_nil (by rfl)) rfl rfl ?_
    refine SL.val (Val.fieldAddr tabOk rfl rfl rfl rfl rfl) rfl rfl ?_
    refine SL.val (Val.fieldAddr tabOk rfl rfl rfl rfl rfl) rfl rfl ?_
    refine SL.val (Val.load1 tabOk rfl rfl (by first|(apply Or.inl;(repeat first|assumption|exact m0|apply m1);done)|(apply Or.inr;(repeat first|assumption|exact m0|apply m1);done)) List.not_mem_nil (by rfl)) rfl rfl ?_
    refine SL.val (Val.to (C := .v (.int .u8 ((u64 (l[y.1]'hlt).reply.result % 256 : Nat) : Int))) (Val.convW rfl Try.underlying5 (by kernel_rfl)) (congrArg (fun k => Abs.v (Value.int .u8 k)) (u8_of _))) rfl rfl ?_
    first
      | refine SL.val (Val.convI rfl Try.underlying29 (by kernel_rfl) (by simp only [InR, lo, hi]; omega)) rfl rfl ?_
      | refine SL.val (Val.convW rfl Try.underlying29 (by kernel_rfl)) rfl rfl ?_
    refine SL.val (Val.buildS (L := (Oc.mk (3 * (1 + av % 2) + 1) (l[y.1]'hlt).reply.stamp ((u64 (l[y.1]'hlt).reply.result % 256 : Nat) : Int)).abs) tabOk rfl rfl rfl (by rfl)) rfl rfl ?_
    have hoi : (Oc.mk (3 * (1 + av % 2) + 1) (l[y.1]'hlt).reply.stamp ((u64 (l[y.1]'hlt).reply.result % 256 : Nat) : Int)).ins := ⟨by show InR .i64 (3 * (1 + av % 2) + 1); simp only [InR, lo, hi]; omega, (hin _ (List.getElem_mem hlt)).2, by show InR .i64 ((u64 (l[y.1]'hlt).reply.result % 256 : Nat) : Int); simp only [InR, lo, hi]; omega⟩
    refine SL.eff (Eff.mapPut (a := (Oc.mk (3 * (1 + av % 2) + 1) (l[y.1]'hlt).reply.stamp ((u64 (l[y.1]'hlt).reply.result % 256 : Nat) : Int))) (v := ()) (m' := aput y.2.2.2.1 (Oc.mk (3 * (1 + av % 2) + 1) (l[y.1]'hlt).reply.stamp ((u64 (l[y.1]'hlt).reply.result % 256 : Nat) : Int)) ()) oc_fit Try.underlying63 rfl (by repeat first|assumption|exact Upd.here|apply Upd.there) rfl (oc_is _) hoi rfl is_v rfl) rfl rfl ?_
    rintro _ _ ⟨rfl, rfl⟩
    refine SL.nil ?_
    refine SE.meet (aput y.2.2.2.1 (Oc.mk (3 * (1 + av % 2) + 1) (l[y.1]'hlt).reply.stamp ((u64 (l[y.1]'hlt).reply.result % 256 : Nat) : Int)) ()) (⟨fun o ho => by rw [inS_put, ho, Bool.or_true], fun o ho => by
        rw [inS_put, Bool.or_eq_true] at ho
        rcases ho with ho | ho
        · rw [of_decide_eq_true ho]; exact hoi
        · exact hy.ins o ho, fun _ => by rw [inS_put, decide_eq_true rfl, Bool.true_or]⟩) (by exact ⟨rfl, rfl, rfl, rfl, rfl, rfl, rfl, rfl, rfl, trivial⟩) (by repeat first|exact s0 _|exact s1 _|apply s2|apply s3)
  · intro z hz
    refine SC.region ?_
    refine SL.val (Val.move rfl) rfl rfl ?_
    refine SL.val (Val.move rfl) rfl rfl ?_
    refine SL.val (Val.fieldAddr tabOk rfl rfl rfl rfl rfl) rfl rfl ?_
    refine SL.val (Val.load1 tabOk rfl rfl (by first|(apply Or.inl;(repeat first|assumption|exact m0|apply m1);done)|(apply Or.inr;(repeat first|assumption|exact m0|apply m1);done)) List.not_mem_nil (by rfl)) rfl rfl ?_
    refine SL.val (Val.move rfl) rfl rfl ?_
    refine SL.val (Val.fieldAddr tabOk rfl rfl rfl rfl rfl) rfl rfl ?_
    refine SL.val (Val.to (C := .agg (Rp.mk (l[y.1]'hlt).reply.view (3 * (1 + av % 2) + 1) (l[y.1]'hlt).reply.stamp (l[y.1]'hlt).reply.result).abs) (Val.loadP tabOk rfl rfl rfl (by first|(apply Or.inl;(repeat first|assumption|exact m0|apply m1);done)|(apply Or.inr;(repeat first|assumption|exact m0|apply m1);done)) List.not_mem_nil (Nat.le_of_ble_eq_true (by rfl))) (congrArg Abs.agg (ac_reply (Ac.mk (l[y.1]'hlt).kind (l[y.1]'hlt).from_ (l[y.1]'hlt).to_ (l[y.1]'hlt).core ⟨(l[y.1]'hlt).reply.view, (3 * (1 + av % 2) + 1), (l[y.1]'hlt).reply.stamp, (l[y.1]'hlt).reply.result⟩ (l[y.1]'hlt).msg)))) rfl rfl ?_
    refine SL.call (reply_s (q := z0.1) (bd := z0.2.1) (bt := z0.2.2) (a := (l[y.1]'hlt).from_) (b := (3 * (1 + av % 2) + 1)) (r := (Rp.mk (l[y.1]'hlt).reply.view (3 * (1 + av % 2) + 1) (l[y.1]'hlt).reply.stamp (l[y.1]'hlt).reply.result)) (T := y.2.2.2.2) hco.num (by omega)) Casts.refl (by kernel_rfl) rfl rfl rfl ?_
    refine After.mid ([.blk b16 55 (Ac.mk (l[y.1]'hlt).kind (l[y.1]'hlt).from_ (l[y.1]'hlt).to_ (l[y.1]'hlt).core ⟨(l[y.1]'hlt).reply.view, (3 * (1 + av % 2) + 1), (l[y.1]'hlt).reply.stamp, (l[y.1]'hlt).reply.result⟩ (l[y.1]'hlt).msg).abs, .pc (mapPc m37 intK tV intOk (LY.2)), .pc (mapPc m56 ocV tV Oc.ins (z))] ++ clP z1 z0.1 (3 * (1 + av % 2) + 1) (3 * (1 + av % 2) + 1) (y.2.2.1)) (β := []) (by first | rfl | (simp; done) | (simp [hidP]; done)) (by simp [hidP, It.rids]) ?_
    intro _
    have hcm := hco.more (gI (l[y.1]'hlt).from_ (textV 12 (Rp.mk (l[y.1]'hlt).reply.view (3 * (1 + av % 2) + 1) (l[y.1]'hlt).reply.stamp (l[y.1]'hlt).reply.result).bytes)) (3 * (1 + av % 2) + 1)
    refine SL.call (recvF_s (p := z1) (q := z0.1) (bd := z0.2.1) (bt := z0.2.2) (n := (3 * (1 + av % 2) + 1)) (id := (3 * (1 + av % 2) + 1)) (m := (Msg.mk 12 (l[y.1]'hlt).from_ (Rp.mk (l[y.1]'hlt).reply.view (3 * (1 + av % 2) + 1) (l[y.1]'hlt).reply.stamp (l[y.1]'hlt).reply.result).bytes (tagsG (gI (l[y.1]'hlt).from_ (textV 12 (Rp.mk (l[y.1]'hlt).reply.view (3 * (1 + av % 2) + 1) (l[y.1]'hlt).reply.stamp (l[y.1]'hlt).reply.result).bytes)) y.2.2.2.2 [(3 * (1 + av % 2) + 1)]))) (T := (tmG (gI (l[y.1]'hlt).from_ (textV 12 (Rp.mk (l[y.1]'hlt).reply.view (3 * (1 + av % 2) + 1) (l[y.1]'hlt).reply.stamp (l[y.1]'hlt).reply.result).bytes)) y.2.2.2.2 [(3 * (1 + av % 2) + 1)])) (s := y.2.2.1) (by show (Rp.mk (l[y.1]'hlt).reply.view (3 * (1 + av % 2) + 1) (l[y.1]'hlt).reply.stamp (l[y.1]'hlt).reply.result).bytes.length ≤ _; rw [Rp.bytes_length]; omega) hcm.num (by have := hcm.tags; omega) (hco.ok (by omega)) (by omega)) Casts.refl (by kernel_rfl) rfl rfl rfl ?_
    refine After.mid [.blk b16 55 (Ac.mk (l[y.1]'hlt).kind (l[y.1]'hlt).from_ (l[y.1]'hlt).to_ (l[y.1]'hlt).core ⟨(l[y.1]'hlt).reply.view, (3 * (1 + av % 2) + 1), (l[y.1]'hlt).reply.stamp, (l[y.1]'hlt).reply.result⟩ (l[y.1]'hlt).msg).abs, .pc (mapPc m37 intK tV intOk (LY.2)), .pc (mapPc m56 ocV tV Oc.ins (z))] (β := []) (by first | rfl | (simp; done) | (simp [hidP]; done)) askS_rids ?_
    intro zr
    refine SL.nil ?_
    refine SE.inBlock ?_
    refine SE.inBlock ?_
    refine SE.seq ?_
    refine SC.region ?_
    first
      | refine SL.val (Val.addI rfl rfl (by simp only [InR, lo, hi]; omega)) rfl rfl ?_
      | refine SL.val (Val.addW rfl rfl) rfl rfl ?_
    refine SL.val (Val.move rfl) rfl rfl ?_
    refine SL.nil ?_
    have hb2 := Bel.reply (r := (Rp.mk (l[y.1]'hlt).reply.view (3 * (1 + av % 2) + 1) (l[y.1]'hlt).reply.stamp (l[y.1]'hlt).reply.result)) (hbe.grow hz.1) (by omega) (f := (l[y.1]'hlt).from_) (by omega) (hin _ (List.getElem_mem hlt)).2 hz.2.2 [(3 * (1 + av % 2) + 1)]
    have hb3 := hb2.recv hLK (Msg.mk 12 (l[y.1]'hlt).from_ (Rp.mk (l[y.1]'hlt).reply.view (3 * (1 + av % 2) + 1) (l[y.1]'hlt).reply.stamp (l[y.1]'hlt).reply.result).bytes (tagsG (gI (l[y.1]'hlt).from_ (textV 12 (Rp.mk (l[y.1]'hlt).reply.view (3 * (1 + av % 2) + 1) (l[y.1]'hlt).reply.stamp (l[y.1]'hlt).reply.result).bytes)) y.2.2.2.2 [(3 * (1 + av % 2) + 1)])) zr
    have hc3 := hcm.recv (Msg.mk 12 (l[y.1]'hlt).from_ (Rp.mk (l[y.1]'hlt).reply.view (3 * (1 + av % 2) + 1) (l[y.1]'hlt).reply.stamp (l[y.1]'hlt).reply.result).bytes (tagsG (gI (l[y.1]'hlt).from_ (textV 12 (Rp.mk (l[y.1]'hlt).reply.view (3 * (1 + av % 2) + 1) (l[y.1]'hlt).reply.stamp (l[y.1]'hlt).reply.result).bytes)) y.2.2.2.2 [(3 * (1 + av % 2) + 1)])) zr
    refine SE.round ((y.1 + 1, y.2.1, recvS (tmG (gI (l[y.1]'hlt).from_ (textV 12 (Rp.mk (l[y.1]'hlt).reply.view (3 * (1 + av % 2) + 1) (l[y.1]'hlt).reply.stamp (l[y.1]'hlt).reply.result).bytes)) y.2.2.2.2 [(3 * (1 + av % 2) + 1)]) (3 * (1 + av % 2) + 1) (3 * (1 + av % 2) + 1) y.2.2.1 (Msg.mk 12 (l[y.1]'hlt).from_ (Rp.mk (l[y.1]'hlt).reply.view (3 * (1 + av % 2) + 1) (l[y.1]'hlt).reply.stamp (l[y.1]'hlt).reply.result).bytes (tagsG (gI (l[y.1]'hlt).from_ (textV 12 (Rp.mk (l[y.1]'hlt).reply.view (3 * (1 + av % 2) + 1) (l[y.1]'hlt).reply.stamp (l[y.1]'hlt).reply.result).bytes)) y.2.2.2.2 [(3 * (1 + av % 2) + 1)])) zr, z, (tmG (gI (l[y.1]'hlt).from_ (textV 12 (Rp.mk (l[y.1]'hlt).reply.view (3 * (1 + av % 2) + 1) (l[y.1]'hlt).reply.stamp (l[y.1]'hlt).reply.result).bytes)) y.2.2.2.2 [(3 * (1 + av % 2) + 1)]))) (by first | omega | (dsimp only; omega)) (⟨hlt, hc3, hb3, hz.2.1⟩) (by exact ⟨rfl, rfl, rfl, rfl, rfl, rfl, rfl, rfl, trivial⟩) (by (try simp only [List.append_nil]); first | exact List.Sublist.refl _ | exact List.sublist_cons_self _ _ | exact List.sublist_append_right [_] _)
end
end Go.Proofs.Ytmkijjmbiiiicaa.A
