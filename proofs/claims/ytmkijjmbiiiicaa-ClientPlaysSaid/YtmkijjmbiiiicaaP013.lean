/-
  Packed out of the texts: L20.
-/
import Derived.Test.YtmkijjmbiiiicaaP012
/-
  ClientPlays: the walk.
-/
set_option maxRecDepth 100000
set_option linter.unusedSimpArgs false
set_option linter.unusedVariables false
namespace Go.Proofs.Ytmkijjmbiiiicaa.A
open Go.RowKit

section
variable {l : List Ac} {n id : Int} {p r q bd bt : Nat} {d : DS} {s : CS} {m : Msg} {T : List (ByteArray × Nat)} {x : Core}
set_option maxHeartbeats 16000000 in
theorem plays_s (hfix : Spec Try.prog 6 [] [] (fun _ : Unit => []) (fun _ => boo true)) (hin : ∀ a ∈ l, Core.ins a.core) (h7 : 1 ≤ n ∧ n ≤ 7) (hidn : n ≤ id ∧ id ≤ n + 3) : Spec Try.prog 3 [int n, int id, actsA l] [] (fun _ : Unit => []) (fun _ => boo true) := by
  have hid : InR .i64 id := by simp only [InR, lo, hi]; omega
  have hal9 := allN_le n
  refine spec_of Try.func3 rfl Try.ntmps3 rfl fun G w => ?_
  refine SC.seq (SC.region ?_)
  refine SL.val (Val.assign rfl) rfl rfl ?_
  refine SL.nil (SE.seq ?_)
  refine SC.seq ?_
  refine SC.seq (SC.region ?_)
  refine SL.call (hfix) Casts.refl (by kernel_rfl) rfl rfl rfl ?_
  refine After.pure (by repeat first|exact .nil|refine .blk (by repeat first|assumption|exact m0|apply m1) ?_|refine .rd (by repeat first|assumption|exact m0|apply m1) ?_|refine .pc (by repeat first|assumption|exact m0|apply m1) ?_|refine .rdpc (by repeat first|assumption|exact m0|apply m1) ?_) (fun _ => rfl) ?_
  intro _
  refine SL.val (Val.notT rfl) rfl rfl ?_
  refine SL.nil (SE.seq ?_)
  refine SC.condF rfl ?_
  refine SC.skip ?_
  refine SE.seq ?_
  refine SC.seq ?_
  refine SC.seq (SC.region ?_)
  refine SL.val (Val.move rfl) rfl rfl ?_
  first
    | refine SL.val (Val.lenSl rfl Try.underlying22 (List.length_map _)) rfl rfl ?_
    | refine SL.val (Val.lenOwn rfl (by repeat first|assumption|exact m0|apply m1) Try.underlying22 (List.length_map _)) rfl rfl ?_
    | refine SL.val (Val.lenNil rfl Try.underlying22) rfl rfl ?_
  refine SL.val (Val.gtI rfl rfl) rfl rfl ?_
  refine SL.nil (SE.seq ?_)
  refine SC.condP rfl ?_ ?_
  · intro hc31
    refine SC.seq (SC.region ?_)
    refine SL.val (Val.assign rfl) rfl rfl ?_
    refine SL.nil (SE.seq ?_)
    refine SC.ret ?_
    refine SE.then_ (by intro h; cases h) ?_
    refine SE.fin (rs := [.tmp 6]) rfl (RV.tmp rfl RV.nil) (()) (by repeat first|exact s0 _|exact s1 _|apply s2|apply s3) (by simp [It.rids]) ?_
    exact rfl
  intro hc31
  refine SC.skip ?_
  refine SE.seq ?_
  refine SC.seq (SC.region ?_)
  refine SL.call (inew_s) Casts.refl (by kernel_rfl) rfl rfl rfl ?_
  refine After.make3 (by repeat (first | exact Reads.nil | (refine Reads.blk ?_ ?_; focus ((repeat first|assumption|exact m0|apply m1); done)) | (refine Reads.rd ?_ ?_; focus ((repeat first|assumption|exact m0|apply m1); done)) | (refine Reads.pc ?_ ?_; focus ((repeat first|assumption|exact m0|apply m1); done)) | (refine Reads.rdpc ?_ ?_; focus ((repeat first|assumption|exact m0|apply m1); done)))) (fun _ => rfl) ?_
  intro z0
  refine SL.val (Val.assign rfl) rfl rfl ?_
  refine SL.nil (SE.seq ?_)
  refine SC.seq (SC.region ?_)
  refine SL.val (Val.move rfl) rfl rfl ?_
  refine SL.val (Val.makeIface rfl (fun _ _ => by kernel_rfl)) rfl rfl ?_
  refine SL.val (Val.move rfl) rfl rfl ?_
  refine SL.val (Val.move rfl) rfl rfl ?_
  refine SL.call (new_s (q := z0.1) (n := n) (id := id) h7 hidn) Casts.refl (by kernel_rfl) rfl rfl rfl ?_
  refine After.make2 (by repeat (first | exact Reads.nil | (refine Reads.blk ?_ ?_; focus ((repeat first|assumption|exact m0|apply m1); done)) | (refine Reads.rd ?_ ?_; focus ((repeat first|assumption|exact m0|apply m1); done)) | (refine Reads.pc ?_ ?_; focus ((repeat first|assumption|exact m0|apply m1); done)) | (refine Reads.rdpc ?_ ?_; focus ((repeat first|assumption|exact m0|apply m1); done)))) (fun _ => rfl) ?_
  intro z1
  refine SL.val (Val.assign rfl) rfl rfl ?_
  refine SL.nil (SE.seq ?_)
  refine SC.seq ?_
  refine SC.seq (SC.region ?_)
  refine SL.val (Val.move rfl) rfl rfl ?_
  refine SL.val (Val.ltI rfl rfl) rfl rfl ?_
  refine SL.val (Val.move rfl) rfl rfl ?_
  refine SL.bothP (t := 40) rfl (by intro hc40; exfalso; omega) ?_
  intro hc40
  refine SL.val (Val.move rfl) rfl rfl ?_
  refine SL.val (Val.gtI rfl rfl) rfl rfl ?_
  refine SL.val (Val.pickF rfl rfl) rfl rfl ?_
  refine SL.val (Val.move rfl) rfl rfl ?_
  refine SL.bothP (t := 44) rfl (by intro hc44; exfalso; omega) ?_
  intro hc44
  refine SL.val (Val.move rfl) rfl rfl ?_
  refine SL.val (Val.move rfl) rfl rfl ?_
  refine SL.val (Val.ltI rfl rfl) rfl rfl ?_
  refine SL.val (Val.pickF rfl rfl) rfl rfl ?_
  refine SL.val (Val.move rfl) rfl rfl ?_
  refine SL.bothP (t := 49) rfl (by intro hc49; exfalso; omega) ?_
  intro hc49
  refine SL.val (Val.move rfl) rfl rfl ?_
  refine SL.val (Val.move rfl) rfl rfl ?_
  first
    | refine SL.val (Val.addI rfl rfl (by simp only [InR, lo, hi]; omega)) rfl rfl ?_
    | refine SL.val (Val.addW rfl rfl) rfl rfl ?_
  refine SL.val (Val.gtI rfl rfl) rfl rfl ?_
  refine SL.val (Val.pickF rfl rfl) rfl rfl ?_
  refine SL.nil (SE.seq ?_)
  refine SC.condP rfl (by intro hc54; exfalso; omega) ?_
  intro hc54
  refine SC.skip ?_
  refine SE.seq ?_
  refine SC.seq (SC.region ?_)
  refine SL.val (Val.move rfl) rfl rfl ?_
  refine SL.val (Val.move rfl) rfl rfl ?_
  refine SL.val (Val.move rfl) rfl rfl ?_
  refine SL.val (Val.buildS (L := [ptr z0.1, int n, int id, int 0, boo false] ++ (Wn.none_.cells.map .v ++ [.v (.slice none 0 0), .v (.slice none 0 0), .v (.slice none 0 0)])) tabOk rfl rfl rfl (by rfl)) rfl rfl ?_
  refine SL.cast (t := 102) (.agg (DS.cells z0.1 n id ⟨0, false, Wn.none_, [], []⟩)) rfl (cast_agg (by refine Casts.keep ?_; refine Casts.keep ?_; refine Casts.keep ?_; refine Casts.keep ?_; refine Casts.keep ?_; refine Casts.keep ?_; refine Casts.keep ?_; refine Casts.keep ?_; refine Casts.keep ?_; refine Casts.keep ?_; refine Casts.keep ?_; refine Casts.keep ?_; exact Casts.nils (s := 2) (Casts.nils (s := 2) (Casts.nils (s := 3) Casts.refl)))) ?_
  refine SL.eff (Eff.boxA (cs := DS.cells z0.1 n id ⟨0, false, Wn.none_, [], []⟩) rfl) rfl rfl ?_
  rintro _ _ ⟨b103, rfl, rfl⟩
  refine SL.val (Val.assign rfl) rfl rfl ?_
  refine SL.nil (SE.seq ?_)
  refine SC.seq ?_
  refine SC.seq (SC.region ?_)
  refine SL.val (Val.move rfl) rfl rfl ?_
  first
    | refine SL.val (Val.lenSl rfl Try.underlying22 (List.length_map _)) rfl rfl ?_
    | refine SL.val (Val.lenOwn rfl (by repeat first|assumption|exact m0|apply m1) Try.underlying22 (List.length_map _)) rfl rfl ?_
    | refine SL.val (Val.lenNil rfl Try.underlying22) rfl rfl ?_
  refine SL.val (Val.move rfl) rfl rfl ?_
  refine SL.nil (SE.seq ?_)
  refine SC.block ?_
  refine SC.to (T' := St _ _ (clP z1 z0.1 n id (⟨0, none, [], .slice none 0 0⟩) ++ (.blk b103 51 (DS.cells z0.1 n id (⟨0, false, Wn.none_, [], []⟩)) :: hidP z0.1 z0.2.1 z0.2.2 ([]))) _) (fun a w h => (h.less (τ := .blk b103 51 (DS.cells z0.1 n id (⟨0, false, Wn.none_, [], []⟩)) :: (clP z1 z0.1 n id (⟨0, none, [], .slice none 0 0⟩) ++ hidP z0.1 z0.2.1 z0.2.2 ([]))) (by show List.Sublist [_, _, _, _, _] [_, _, _, _, _, _]; repeat (first | exact List.nil_sublist _ | exact List.Sublist.refl _ | apply List.Sublist.cons_cons | apply List.Sublist.cons))).perm List.perm_middle) ?_
  refine SC.loop (ι := PSt) (fun y => clP z1 z0.1 n id (y.2.1) ++ (.blk b103 51 (DS.cells z0.1 n id (y.2.2.1)) :: hidP z0.1 z0.2.1 z0.2.2 (y.2.2.2))) (fun y => [(7, ptr z0.1), (8, ptr z1), (13, ptr b103), (104, actsA l), (105, int (l.length : Nat)), (106, int (y.1 : Nat))]) (fun y => PlaysOk n id l y) (fun y => l.length - y.1) ((0, ⟨0, none, [], .slice none 0 0⟩, ⟨0, false, Wn.none_, [], []⟩, [])) (⟨Nat.zero_le _, PlayIn.start⟩) (by exact ⟨rfl, rfl, rfl, rfl, rfl, rfl, trivial⟩) (List.Sublist.refl _) ?_
  intro y hy
  refine SC.seq (SC.region ?_)
  refine SL.val (Val.ltI rfl rfl) rfl rfl ?_
  refine SL.nil (SE.seq ?_)
  refine SC.seq ?_
  refine SC.condP rfl ?_ ?_
  rotate_left
  · intro hc107
    refine SC.exit ?_
    refine SE.then_ (by intro h; cases h) ?_
    refine SE.then_ (by intro h; cases h) ?_
    refine SE.exit ?_
    refine SE.seq ?_
    refine SC.seq (SC.region ?_)
    refine SL.val (Val.assign rfl) rfl rfl ?_
    refine SL.nil (SE.seq ?_)
    refine SC.ret ?_
    refine SE.fin (rs := [.tmp 6]) rfl (RV.tmp rfl RV.nil) (()) (by repeat first|exact s0 _|exact s1 _|apply s2|apply s3) (by simp [It.rids]) ?_
    exact rfl
  intro hc107
  have hlt : y.1 < l.length := by have := hy.le; omega
  have hco := hy.in_
  have hok := hco.ok
  have hlo := hok.lo
  have hhi := hok.hi
  have htg := hok.tags
  have hsd := hco.said
  have hfw9 := hok.few
  refine SC.skip ?_
  refine SE.seq ?_
  refine SC.seq ?_
  refine SC.block ?_
  refine SC.seq (SC.region ?_)
  refine SL.val (Val.indexSl tabOk Try.underlying22 rfl rfl rfl rfl (at_map (by omega)) rfl rfl) rfl rfl ?_
  refine SL.val (Val.loadAR tabOk rfl rfl rfl rfl) rfl rfl ?_
  refine SL.eff (Eff.alloc tabOk rfl) rfl rfl ?_
  rintro _ _ ⟨b15, rfl, rfl⟩
  refine SL.eff (Eff.store (L' := (l[y.1]'hlt).abs) tabOk rfl rfl rfl (by repeat first|assumption|exact Upd.here|apply Upd.there) rfl (Nat.le_of_ble_eq_true (by rfl)) rfl (by exact putL_whole rfl)) rfl rfl ?_
  rintro _ _ ⟨rfl, rfl⟩
  refine SL.nil (SE.seq ?_)
  refine SC.seq ?_
  refine SC.seq (SC.region ?_)
  refine SL.val (Val.loadA tabOk rfl rfl rfl (by first|(apply Or.inl;(repeat first|assumption|exact m0|apply m1);done)|(apply Or.inr;(repeat first|assumption|exact m0|apply m1);done)) List.not_mem_nil rfl) rfl rfl ?_
  refine SL.call (few31_s (a := (l[y.1]'hlt))) Casts.refl (by kernel_rfl) rfl rfl rfl ?_
  refine After.pure (by repeat (first | exact Reads.nil | (refine Reads.blk ?_ ?_; focus ((repeat first|assumption|exact m0|apply m1); done)) | (refine Reads.rd ?_ ?_; focus ((repeat first|assumption|exact m0|apply m1); done)) | (refine Reads.pc ?_ ?_; focus ((repeat first|assumption|exact m0|apply m1); done)) | (refine Reads.rdpc ?_ ?_; focus ((repeat first|assumption|exact m0|apply m1); done)))) (fun _ => rfl) ?_
  intro _
  refine SL.val (Val.notB rfl) rfl rfl ?_
  refine SL.nil (SE.seq ?_)
  refine SC.cond rfl ?_ ?_
  · intro hc112
    refine SC.seq (SC.region ?_)
    refine SL.val (Val.assign rfl) rfl rfl ?_
    refine SL.nil (SE.seq ?_)
    refine SC.ret ?_
    refine SE.then_ (by intro h; cases h) ?_
    refine SE.ret ?_
    refine SE.then_ (by intro h; cases h) ?_
    refine SE.then_ (by intro h; cases h) ?_
    refine SE.ret ?_
    refine SE.then_ (by intro h; cases h) ?_
    refine SE.fin (rs := [.tmp 6]) rfl (RV.tmp rfl RV.nil) (()) (by repeat first|exact s0 _|exact s1 _|apply s2|apply s3) (by simp [It.rids]) ?_
    exact rfl
  intro hc112
  have hfw := Ac.few_iff.1 (show (l[y.1]'hlt).few = true by simpa using hc112)
  refine SC.skip ?_
  refine SE.seq ?_
  refine SC.cutS (ι := CS × DS × List (ByteArray × Nat)) (fun z => clP z1 z0.1 n id (z.1) ++ (.blk b103 51 (DS.cells z0.1 n id (z.2.1)) :: hidP z0.1 z0.2.1 z0.2.2 (z.2.2))) (fun z => [(7, ptr z0.1), (8, ptr z1), (13, ptr b103), (104, actsA l), (105, int (l.length : Nat)), (106, int (y.1 : Nat))]) (fun z => PlayIn n id (2 * y.1 + 2) z.1 z.2.1 z.2.2) ?_ ?_
  · skip
    refine SC.seq (SC.region ?_)
    refine SL.val (Val.fieldAddr tabOk rfl rfl rfl rfl rfl) rfl rfl ?_
    refine SL.val (Val.load1 tabOk rfl rfl (by first|(apply Or.inl;(repeat first|assumption|exact m0|apply m1);done)|(apply Or.inr;(repeat first|assumption|exact m0|apply m1);done)) List.not_mem_nil (by rfl)) rfl rfl ?_
    refine SL.nil (SE.seq ?_)
    refine SC.block ?_
    refine SC.cutS (ι := Unit) (fun z => .blk b15 55 (l[y.1]'hlt).abs :: (clP z1 z0.1 n id (y.2.1) ++ (.blk b103 51 (DS.cells z0.1 n id (y.2.2.1)) :: hidP z0.1 z0.2.1 z0.2.2 (y.2.2.2)))) (fun z => [(7, ptr z0.1), (8, ptr z1), (13, ptr b103), (104, actsA l), (105, int (l.length : Nat)), (106, int (y.1 : Nat)), (15, ptr b15), (114, int (l[y.1]'hlt).kind), (124, boo (decide ((l[y.1]'hlt).kind = 0 ∨ (l[y.1]'hlt).kind = 1)))]) (fun z => True) ?_ ?_
    · skip
      refine SC.seq (SC.region ?_)
      refine SL.val (Val.eqI rfl rfl) rfl rfl ?_
      refine SL.val (Val.assign rfl) rfl rfl ?_
      refine SL.nil (SE.seq ?_)
      refine SC.condP rfl ?_ ?_
      · intro hc124
        refine SC.skip ?_
        refine SE.meet (()) (trivial) (by exact ⟨rfl, rfl, rfl, rfl, rfl, rfl, rfl, rfl, congrArg (fun b => some (Abs.v (Value.bool b))) (by rw [decide_eq_decide]; omega), trivial⟩) (by repeat first|exact s0 _|exact s1 _|apply s2|apply s3)
      intro hc124
      refine SC.region ?_
      refine SL.val (Val.eqI rfl rfl) rfl rfl ?_
      refine SL.val (Val.assign rfl) rfl rfl ?_
      refine SL.nil ?_
      refine SE.meet (()) (trivial) (by exact ⟨rfl, rfl, rfl, rfl, rfl, rfl, rfl, rfl, congrArg (fun b => some (Abs.v (Value.bool b))) (by rw [decide_eq_decide]; omega), trivial⟩) (by repeat first|exact s0 _|exact s1 _|apply s2|apply s3)
    · intro z hz
      refine SC.condP rfl ?_ ?_
      rotate_left
      · intro hc124
        refine SC.seq (SC.region ?_)
        refine SL.val (Val.eqI rfl rfl) rfl rfl ?_
        refine SL.val (Val.assign rfl) rfl rfl ?_
        refine SL.nil (SE.seq ?_)
        refine SC.condP rfl ?_ ?_
        · intro hc167
          refine SC.seq (SC.region ?_)
          refine SL.val (Val.move rfl) rfl rfl ?_
          refine SL.call (againS_s (p := z1) (q := z0.1) (n := n) (id := id) (s := y.2.1)) Casts.refl (by kernel_rfl) rfl rfl rfl ?_
          refine After.mid [.blk b15 55 (l[y.1]'hlt).abs] (β := .blk b103 51 (DS.cells z0.1 n id (y.2.2.1)) :: hidP z0.1 z0.2.1 z0.2.2 (y.2.2.2)) rfl (clP_rids _) ?_
          intro _
          refine SL.val (Val.move rfl) rfl rfl ?_
          refine SL.call (dagainP_s (r := b103) (q := z0.1) (bd := z0.2.1) (bt := z0.2.2) (n := n) (id := id) (d := y.2.2.1) (s := y.2.1) (T := y.2.2.2) hok.rel h7 hco.let_ hco.txt hok.num (by omega)) Casts.refl (by kernel_rfl) rfl rfl rfl ?_
          refine After.last [.blk b15 55 (l[y.1]'hlt).abs] (clP z1 z0.1 n id (y.2.1)) rfl (by simp [hidP, It.rids]) ?_
          intro _
          refine SL.call (sameP_s (againL_parc hok.rel)) Casts.refl (by kernel_rfl) rfl rfl rfl ?_
          refine After.pure Reads.nil (fun _ => rfl) ?_
          intro _
          refine SL.val (Val.notT rfl) rfl rfl ?_
          refine SL.nil (SE.seq ?_)
          refine SC.condF rfl ?_
          refine SC.skip ?_
          refine SE.inBlock ?_
          refine SE.meet ((y.2.1, y.2.2.1, y.2.2.2)) (hco.next.next) (by exact ⟨rfl, rfl, rfl, rfl, rfl, rfl, trivial⟩) (by first | exact List.Sublist.refl _ | exact List.sublist_append_right [_] _ | exact List.sublist_append_right [_, _] _)
        intro hc167
        refine SC.seq (SC.region ?_)
        refine SL.val (Val.eqI rfl rfl) rfl rfl ?_
        refine SL.val (Val.assign rfl) rfl rfl ?_
        refine SL.nil (SE.seq ?_)
        refine SC.condP rfl ?_ ?_
        rotate_left
        · intro hc175
          refine SC.seq ?_
          refine SC.known (p := b15 ∉ (mids (clP z1 z0.1 n id (y.2.1) ++ (.blk b103 51 (DS.cells z0.1 n id (y.2.2.1)) :: hidP z0.1 z0.2.1 z0.2.2 (y.2.2.2))))) (fun _ _ h => (List.nodup_cons.1 h.mem.nodup).1) fun hX => ?_
          refine SC.draw (mids (clP z1 z0.1 n id (y.2.1) ++ (.blk b103 51 (DS.cells z0.1 n id (y.2.2.1)) :: hidP z0.1 z0.2.1 z0.2.2 (y.2.2.2)))) (.q 0 (.q 1 (.q 2 (.q 4 (.q 5 (.q 6 (.e 3 (.e 7 (.q 8 .nil))))))))) (by kernel_rfl) (by kernel_rfl) ?_
          refine SX.val rfl (Val.move rfl) (by first | exact fun k hk => List.mem_cons_of_mem _ hk | exact fun k hk => List.mem_cons_of_mem _ (List.mem_cons_of_mem _ hk) | (simp [mids, It.mids, ownPc, mapPc]; done) | (intro k hk; simp [mids, It.mids, ownPc, mapPc] at hk ⊢; grind)) rfl rfl ?_
          refine SX.val rfl (Val.fieldAddr tabOk rfl rfl rfl rfl rfl) (by first | exact fun k hk => List.mem_cons_of_mem _ hk | exact fun k hk => List.mem_cons_of_mem _ (List.mem_cons_of_mem _ hk) | (simp [mids, It.mids, ownPc, mapPc]; done) | (intro k hk; simp [mids, It.mids, ownPc, mapPc] at hk ⊢; grind)) rfl rfl ?_
          refine SX.val rfl (Val.to (C := .agg (l[y.1]'hlt).msg.abs) (Val.loadP tabOk rfl rfl rfl (by first|(apply Or.inl;(repeat first|assumption|exact m0|apply m1);done)|(apply Or.inr;(repeat first|assumption|exact m0|apply m1);done)) hX (Nat.le_of_ble_eq_true (by rfl))) (congrArg Abs.agg (ac_msg _))) (by first | exact fun k hk => List.mem_cons_of_mem _ hk | exact fun k hk => List.mem_cons_of_mem _ (List.mem_cons_of_mem _ hk) | (simp [mids, It.mids, ownPc, mapPc]; done) | (intro k hk; simp [mids, It.mids, ownPc, mapPc] at hk ⊢; grind)) rfl rfl ?_
          refine SX.val rfl (Val.move rfl) (by first | exact fun k hk => List.mem_cons_of_mem _ hk | exact fun k hk => List.mem_cons_of_mem _ (List.mem_cons_of_mem _ hk) | (simp [mids, It.mids, ownPc, mapPc]; done) | (intro k hk; simp [mids, It.mids, ownPc, mapPc] at hk ⊢; grind)) rfl rfl ?_
          refine SX.val rfl (Val.fieldAddr tabOk rfl rfl rfl rfl rfl) (by first | exact fun k hk => List.mem_cons_of_mem _ hk | exact fun k hk => List.mem_cons_of_mem _ (List.mem_cons_of_mem _ hk) | (simp [mids, It.mids, ownPc, mapPc]; done) | (intro k hk; simp [mids, It.mids, ownPc, mapPc] at hk ⊢; grind)) rfl rfl ?_
          refine SX.val rfl (Val.to (C := .agg (l[y.1]'hlt).msg.abs) (Val.loadP tabOk rfl rfl rfl (by first|(apply Or.inl;(repeat first|assumption|exact m0|apply m1);done)|(apply Or.inr;(repeat first|assumption|exact m0|apply m1);done)) hX (Nat.le_of_ble_eq_true (by rfl))) (congrArg Abs.agg (ac_msg _))) (by first | exact fun k hk => List.mem_cons_of_mem _ hk | exact fun k hk => List.mem_cons_of_mem _ (List.mem_cons_of_mem _ hk) | (simp [mids, It.mids, ownPc, mapPc]; done) | (intro k hk; simp [mids, It.mids, ownPc, mapPc] at hk ⊢; grind)) rfl rfl ?_
          refine SX.callX ((mids (.blk b103 51 (DS.cells z0.1 n id (y.2.2.1)) :: hidP z0.1 z0.2.1 z0.2.2 (y.2.2.2)))) rfl (recvF_s (p := z1) (q := z0.1) (bd := z0.2.1) (bt := z0.2.2) (n := n) (id := id) (m := (l[y.1]'hlt).msg) (T := y.2.2.2) (s := y.2.1) (by omega) hok.num (by have := hok.tags; omega) (hok.ok (by omega)) h7) (fun k hk => by simp only [mids_append, mids_cons, List.mem_append] at hk ⊢; rcases hk with h | h; exact .inl h; exact .inr (.inr h)) (fun k hk => by rw [mids_append]; exact List.mem_append_right _ hk) Casts.refl (by kernel_rfl) rfl rfl rfl ?_
          refine After.around [.blk b15 55 (l[y.1]'hlt).abs] (α := clP z1 z0.1 n id (y.2.1)) (β := hidP z0.1 z0.2.1 z0.2.2 (y.2.2.2)) rfl rfl (fun _ => rfl) askS_rids ?_
          intro zr
          refine SX.callX ([]) rfl (drecvP_s (r := b103) (q := z0.1) (bd := z0.2.1) (bt := z0.2.2) (n := n) (id := id) (d := y.2.2.1) (s := y.2.1) (m := (l[y.1]'hlt).msg) (T := y.2.2.2) hok.rel (by omega) (by have := hok.few; omega) (by omega) hok.num (by have := hok.tags; omega)) (fun k hk => hk) (by simp) Casts.refl (by kernel_rfl) rfl rfl rfl ?_
          refine After.last [.blk b15 55 (l[y.1]'hlt).abs] (clP z1 z0.1 n id (recvS y.2.2.2 n id y.2.1 (l[y.1]'hlt).msg zr)) rfl (by simp [hidP, It.rids]) ?_
          intro _
          refine SX.val rfl (Val.to (C := boo false) (Val.neI rfl rfl) (congrArg (fun b => Abs.v (Value.bool b)) (decide_eq_false (fun h => h rfl)))) (by first | exact fun k hk => List.mem_cons_of_mem _ hk | exact fun k hk => List.mem_cons_of_mem _ (List.mem_cons_of_mem _ hk) | (simp [mids, It.mids, ownPc, mapPc]; done) | (intro k hk; simp [mids, It.mids, ownPc, mapPc] at hk ⊢; grind)) rfl rfl ?_
          refine SX.nil (SE.seq ?_)
          refine SC.condF rfl ?_
          refine SC.skip ?_
          refine SE.inBlock ?_
          refine SE.meet ((recvS y.2.2.2 n id y.2.1 (l[y.1]'hlt).msg zr, drecvS y.2.2.2 n id y.2.2.1 (l[y.1]'hlt).msg, y.2.2.2)) ((hco.recv (by omega) hid _ _).next) (by exact ⟨rfl, rfl, rfl, rfl, rfl, rfl, trivial⟩) (by first | exact List.Sublist.refl _ | exact List.sublist_append_right [_] _ | exact List.sublist_append_right [_, _] _)
        intro hc175
        refine SC.seq (SC.region ?_)
        refine SL.val (Val.move rfl) rfl rfl ?_
        refine SL.val (Val.fieldAddr tabOk rfl rfl rfl rfl rfl) rfl rfl ?_
        refine SL.val (Val.load1 tabOk rfl rfl (by first|(apply Or.inl;(repeat first|assumption|exact m0|apply m1);done)|(apply Or.inr;(repeat first|assumption|exact m0|apply m1);done)) List.not_mem_nil (by rfl)) rfl rfl ?_
        refine SL.val (Val.fieldAddr tabOk rfl rfl rfl rfl rfl) rfl rfl ?_
        refine SL.val (Val.load1 tabOk rfl rfl (by first|(apply Or.inl;(repeat first|assumption|exact m0|apply m1);done)|(apply Or.inr;(repeat first|assumption|exact m0|apply m1);done)) List.not_mem_nil (by rfl)) rfl rfl ?_
        refine SL.val (Val.fieldAddr tabOk rfl rfl rfl rfl rfl) rfl rfl ?_
        refine SL.val (Val.to (C := .agg (l[y.1]'hlt).reply.abs) (Val.loadP tabOk rfl rfl rfl (by first|(apply Or.inl;(repeat first|assumption|exact m0|apply m1);done)|(apply Or.inr;(repeat first|assumption|exact m0|apply m1);done)) List.not_mem_nil (Nat.le_of_ble_eq_true (by rfl))) (congrArg Abs.agg (ac_reply _))) rfl rfl ?_
        refine SL.call (reply_s (q := z0.1) (bd := z0.2.1) (bt := z0.2.2) (a := (l[y.1]'hlt).from_) (b := (l[y.1]'hlt).to_) (r := (l[y.1]'hlt).reply) (T := y.2.2.2) hok.num (by omega)) Casts.refl (by kernel_rfl) rfl rfl rfl ?_
        refine After.deep [.blk b15 55 (l[y.1]'hlt).abs] (clP z1 z0.1 n id (y.2.1)) (.blk b103 51 (DS.cells z0.1 n id (y.2.2.1))) rfl (by simp [hidP, It.rids]) ?_
        intro _
        refine SL.eff (Eff.alloc tabOk rfl) rfl rfl ?_
        rintro _ _ ⟨b21, rfl, rfl⟩
        refine SL.eff (Eff.store (L' := (Msg.mk 12 (l[y.1]'hlt).from_ (l[y.1]'hlt).reply.bytes (tagsG (gI (l[y.1]'hlt).from_ (textV 12 (l[y.1]'hlt).reply.bytes)) y.2.2.2 [(l[y.1]'hlt).to_])).abs) tabOk rfl rfl rfl (by repeat first|assumption|exact Upd.here|apply Upd.there) rfl (Nat.le_of_ble_eq_true (by rfl)) rfl (by exact putL_whole rfl)) rfl rfl ?_
        rintro _ _ ⟨rfl, rfl⟩
        refine SL.nil (SE.seq ?_)
        refine SC.seq ?_
        refine SC.known (p := b21 ∉ (mids (clP z1 z0.1 n id (y.2.1) ++ (.blk b103 51 (DS.cells z0.1 n id (y.2.2.1)) :: hidP z0.1 z0.2.1 z0.2.2 ((tmG (gI (l[y.1]'hlt).from_ (textV 12 (l[y.1]'hlt).reply.bytes)) y.2.2.2 [(l[y.1]'hlt).to_])))))) (fun _ _ h => fun hm => (List.nodup_cons.1 h.mem.nodup).1 (List.mem_cons_of_mem _ hm)) fun hX => ?_
        refine SC.draw (mids (clP z1 z0.1 n id (y.2.1) ++ (.blk b103 51 (DS.cells z0.1 n id (y.2.2.1)) :: hidP z0.1 z0.2.1 z0.2.2 ((tmG (gI (l[y.1]'hlt).from_ (textV 12 (l[y.1]'hlt).reply.bytes)) y.2.2.2 [(l[y.1]'hlt).to_]))))) (.q 0 (.q 1 (.q 3 (.q 4 (.e 2 (.e 5 (.q 6 .nil))))))) (by kernel_rfl) (by kernel_rfl) ?_
        refine SX.val rfl (Val.move rfl) (by first | exact fun k hk => List.mem_cons_of_mem _ hk | exact fun k hk => List.mem_cons_of_mem _ (List.mem_cons_of_mem _ hk) | (simp [mids, It.mids, ownPc, mapPc]; done) | (intro k hk; simp [mids, It.mids, ownPc, mapPc] at hk ⊢; grind)) rfl rfl ?_
        refine SX.val rfl (Val.loadA tabOk rfl rfl rfl (by first|(apply Or.inl;(repeat first|assumption|exact m0|apply m1);done)|(apply Or.inr;(repeat first|assumption|exact m0|apply m1);done)) hX rfl) (by first | exact fun k hk => List.mem_cons_of_mem _ hk | exact fun k hk => List.mem_cons_of_mem _ (List.mem_cons_of_mem _ hk) | (simp [mids, It.mids, ownPc, mapPc]; done) | (intro k hk; simp [mids, It.mids, ownPc, mapPc] at hk ⊢; grind)) rfl rfl ?_
        refine SX.val rfl (Val.move rfl) (by first | exact fun k hk => List.mem_cons_of_mem _ hk | exact fun k hk => List.mem_cons_of_mem _ (List.mem_cons_of_mem _ hk) | (simp [mids, It.mids, ownPc, mapPc]; done) | (intro k hk; simp [mids, It.mids, ownPc, mapPc] at hk ⊢; grind)) rfl rfl ?_
        refine SX.val rfl (Val.loadA tabOk rfl rfl rfl (by first|(apply Or.inl;(repeat first|assumption|exact m0|apply m1);done)|(apply Or.inr;(repeat first|assumption|exact m0|apply m1);done)) hX rfl) (by first | exact fun k hk => List.mem_cons_of_mem _ hk | exact fun k hk => List.mem_cons_of_mem _ (List.mem_cons_of_mem _ hk) | (simp [mids, It.mids, ownPc, mapPc]; done) | (intro k hk; simp [mids, It.mids, ownPc, mapPc] at hk ⊢; grind)) rfl rfl ?_
        refine SX.callX ((mids (.blk b103 51 (DS.cells z0.1 n id (y.2.2.1)) :: hidP z0.1 z0.2.1 z0.2.2 ((tmG (gI (l[y.1]'hlt).from_ (textV 12 (l[y.1]'hlt).reply.bytes)) y.2.2.2 [(l[y.1]'hlt).to_]))))) rfl (recvF_s (p := z1) (q := z0.1) (bd := z0.2.1) (bt := z0.2.2) (n := n) (id := id) (m := (Msg.mk 12 (l[y.1]'hlt).from_ (l[y.1]'hlt).reply.bytes (tagsG (gI (l[y.1]'hlt).from_ (textV 12 (l[y.1]'hlt).reply.bytes)) y.2.2.2 [(l[y.1]'hlt).to_]))) (T := (tmG (gI (l[y.1]'hlt).from_ (textV 12 (l[y.1]'hlt).reply.bytes)) y.2.2.2 [(l[y.1]'hlt).to_])) (s := y.2.1) (by show (l[y.1]'hlt).reply.bytes.length ≤ _; rw [Rp.bytes_length]; omega) (hco.more (gI (l[y.1]'hlt).from_ (textV 12 (l[y.1]'hlt).reply.bytes)) (l[y.1]'hlt).to_).ok.num (by have := (hco.more (gI (l[y.1]'hlt).from_ (textV 12 (l[y.1]'hlt).reply.bytes)) (l[y.1]'hlt).to_).ok.tags; omega) ((hco.more (gI (l[y.1]'hlt).from_ (textV 12 (l[y.1]'hlt).reply.bytes)) (l[y.1]'hlt).to_).ok.ok (by omega)) h7) (fun k hk => by simp only [mids_append, mids_cons, List.mem_append] at hk ⊢; rcases hk with h | h; exact .inl h; exact .inr (.inr h)) (fun k hk => by rw [mids_append]; exact List.mem_append_right _ hk) Casts.refl (by kernel_rfl) rfl rfl rfl ?_
        refine After.around [.blk b21 40 (Msg.mk 12 (l[y.1]'hlt).from_ (l[y.1]'hlt).reply.bytes (tagsG (gI (l[y.1]'hlt).from_ (textV 12 (l[y.1]'hlt).reply.bytes)) y.2.2.2 [(l[y.1]'hlt).to_])).abs, .blk b15 55 (l[y.1]'hlt).abs] (α := clP z1 z0.1 n id (y.2.1)) (β := hidP z0.1 z0.2.1 z0.2.2 ((tmG (gI (l[y.1]'hlt).from_ (textV 12 (l[y.1]'hlt).reply.bytes)) y.2.2.2 [(l[y.1]'hlt).to_]))) rfl rfl (fun _ => rfl) askS_rids ?_
        intro zr
        refine SX.callX ([]) rfl (drecvP_s (r := b103) (q := z0.1) (bd := z0.2.1) (bt := z0.2.2) (n := n) (id := id) (d := y.2.2.1) (s := y.2.1) (m := (Msg.mk 12 (l[y.1]'hlt).from_ (l[y.1]'hlt).reply.bytes (tagsG (gI (l[y.1]'hlt).from_ (textV 12 (l[y.1]'hlt).reply.bytes)) y.2.2.2 [(l[y.1]'hlt).to_]))) (T := (tmG (gI (l[y.1]'hlt).from_ (textV 12 (l[y.1]'hlt).reply.bytes)) y.2.2.2 [(l[y.1]'hlt).to_])) (hco.more (gI (l[y.1]'hlt).from_ (textV 12 (l[y.1]'hlt).reply.bytes)) (l[y.1]'hlt).to_).ok.rel (by omega) (by have := (hco.more (gI (l[y.1]'hlt).from_ (textV 12 (l[y.1]'hlt).reply.bytes)) (l[y.1]'hlt).to_).ok.few; omega) (by show (l[y.1]'hlt).reply.bytes.length ≤ _; rw [Rp.bytes_length]; omega) (hco.more (gI (l[y.1]'hlt).from_ (textV 12 (l[y.1]'hlt).reply.bytes)) (l[y.1]'hlt).to_).ok.num (by have := (hco.more (gI (l[y.1]'hlt).from_ (textV 12 (l[y.1]'hlt).reply.bytes)) (l[y.1]'hlt).to_).ok.tags; omega)) (fun k hk => hk) (by simp) Casts.refl (by kernel_rfl) rfl rfl rfl ?_
        refine After.last [.blk b21 40 (Msg.mk 12 (l[y.1]'hlt).from_ (l[y.1]'hlt).reply.bytes (tagsG (gI (l[y.1]'hlt).from_ (textV 12 (l[y.1]'hlt).reply.bytes)) y.2.2.2 [(l[y.1]'hlt).to_])).abs, .blk b15 55 (l[y.1]'hlt).abs] (clP z1 z0.1 n id (recvS (tmG (gI (l[y.1]'hlt).from_ (textV 12 (l[y.1]'hlt).reply.bytes)) y.2.2.2 [(l[y.1]'hlt).to_]) n id y.2.1 (Msg.mk 12 (l[y.1]'hlt).from_ (l[y.1]'hlt).reply.bytes (tagsG (gI (l[y.1]'hlt).from_ (textV 12 (l[y.1]'hlt).reply.bytes)) y.2.2.2 [(l[y.1]'hlt).to_])) zr)) rfl (by simp [hidP, It.rids]) ?_
        intro _
        refine SX.val rfl (Val.to (C := boo false) (Val.neI rfl rfl) (congrArg (fun b => Abs.v (Value.bool b)) (decide_eq_false (fun h => h rfl)))) (by first | exact fun k hk => List.mem_cons_of_mem _ hk | exact fun k hk => List.mem_cons_of_mem _ (List.mem_cons_of_mem _ hk) | (simp [mids, It.mids, ownPc, mapPc]; done) | (intro k hk; simp [mids, It.mids, ownPc, mapPc] at hk ⊢; grind)) rfl rfl ?_
        refine SX.nil (SE.seq ?_)
        refine SC.condF rfl ?_
        refine SC.skip ?_
        refine SE.inBlock ?_
        refine SE.meet ((recvS (tmG (gI (l[y.1]'hlt).from_ (textV 12 (l[y.1]'hlt).reply.bytes)) y.2.2.2 [(l[y.1]'hlt).to_]) n id y.2.1 (Msg.mk 12 (l[y.1]'hlt).from_ (l[y.1]'hlt).reply.bytes (tagsG (gI (l[y.1]'hlt).from_ (textV 12 (l[y.1]'hlt).reply.bytes)) y.2.2.2 [(l[y.1]'hlt).to_])) zr, drecvS (tmG (gI (l[y.1]'hlt).from_ (textV 12 (l[y.1]'hlt).reply.bytes)) y.2.2.2 [(l[y.1]'hlt).to_]) n id y.2.2.1 (Msg.mk 12 (l[y.1]'hlt).from_ (l[y.1]'hlt).reply.bytes (tagsG (gI (l[y.1]'hlt).from_ (textV 12 (l[y.1]'hlt).reply.bytes)) y.2.2.2 [(l[y.1]'hlt).to_])), (tmG (gI (l[y.1]'hlt).from_ (textV 12 (l[y.1]'hlt).reply.bytes)) y.2.2.2 [(l[y.1]'hlt).to_]))) ((hco.more _ _).recv (by omega) hid _ _) (by exact ⟨rfl, rfl, rfl, rfl, rfl, rfl, trivial⟩) (by first | exact List.Sublist.refl _ | exact List.sublist_append_right [_] _ | exact List.sublist_append_right [_, _] _)
      intro hc124
      refine SC.seq (SC.region ?_)
      refine SL.val (Val.fieldAddr tabOk rfl rfl rfl rfl rfl) rfl rfl ?_
      refine SL.val (Val.to (C := coreA (l[y.1]'hlt).core) (Val.loadP tabOk rfl rfl rfl (by first|(apply Or.inl;(repeat first|assumption|exact m0|apply m1);done)|(apply Or.inr;(repeat first|assumption|exact m0|apply m1);done)) List.not_mem_nil (Nat.le_of_ble_eq_true (by rfl))) (congrArg Abs.agg (ac_core _))) rfl rfl ?_
      refine SL.eff (Eff.alloc tabOk rfl) rfl rfl ?_
      rintro _ _ ⟨b16, rfl, rfl⟩
      refine SL.eff (Eff.store (L' := (l[y.1]'hlt).core.cells.map .v) tabOk rfl rfl rfl (by repeat first|assumption|exact Upd.here|apply Upd.there) rfl (Nat.le_of_ble_eq_true (by rfl)) rfl (by exact putL_whole rfl)) rfl rfl ?_
      rintro _ _ ⟨rfl, rfl⟩
      refine SL.nil (SE.seq ?_)
      refine SC.cutS (ι := Core) (fun z => .blk b16 33 (z.cells.map .v) :: .blk b15 55 (l[y.1]'hlt).abs :: (clP z1 z0.1 n id (y.2.1) ++ (.blk b103 51 (DS.cells z0.1 n id (y.2.2.1)) :: hidP z0.1 z0.2.1 z0.2.2 (y.2.2.2)))) (fun z => [(7, ptr z0.1), (8, ptr z1), (13, ptr b103), (104, actsA l), (105, int (l.length : Nat)), (106, int (y.1 : Nat)), (15, ptr b15), (16, ptr b16)]) (fun z => Core.ins z ∧ z.letter.size ≤ 100 ∧ z.text.size ≤ 300) ?_ ?_
      · skip
        refine SC.seq (SC.region ?_)
        refine SL.val (Val.fieldAddr tabOk rfl rfl rfl rfl rfl) rfl rfl ?_
        refine SL.val (Val.load1 tabOk rfl rfl (by first|(apply Or.inl;(repeat first|assumption|exact m0|apply m1);done)|(apply Or.inr;(repeat first|assumption|exact m0|apply m1);done)) List.not_mem_nil (by rfl)) rfl rfl ?_
        refine SL.val (Val.eqI rfl rfl) rfl rfl ?_
        refine SL.nil (SE.seq ?_)
        refine SC.condP rfl ?_ ?_
        rotate_left
        · intro hc131
          refine SC.skip ?_
          refine SE.meet ((l[y.1]'hlt).core) (⟨hin _ (List.getElem_mem hlt), by omega, by omega⟩) (by exact ⟨rfl, rfl, rfl, rfl, rfl, rfl, rfl, rfl, trivial⟩) (List.Sublist.refl _)
        intro hc131
        refine SC.region ?_
        refine SL.val (Val.move rfl) rfl rfl ?_
        refine SL.val (Val.loadA tabOk rfl rfl rfl (by first|(apply Or.inl;(repeat first|assumption|exact m0|apply m1);done)|(apply Or.inr;(repeat first|assumption|exact m0|apply m1);done)) List.not_mem_nil rfl) rfl rfl ?_
        refine SL.call (nextS_s (p := z1) (q := z0.1) (n := n) (id := id) (s := y.2.1) (x := (l[y.1]'hlt).core) (by omega) (by omega)) Casts.refl (by kernel_rfl) rfl rfl rfl ?_
        refine After.mid [.blk b16 33 ((l[y.1]'hlt).core.cells.map .v), .blk b15 55 (l[y.1]'hlt).abs] (β := .blk b103 51 (DS.cells z0.1 n id (y.2.2.1)) :: hidP z0.1 z0.2.1 z0.2.2 (y.2.2.2)) rfl (clP_rids _) ?_
        intro _
        refine SL.eff (Eff.store (L' := (nextC id (y.2.1).stamp (l[y.1]'hlt).core).cells.map .v) tabOk rfl rfl rfl (by repeat first|assumption|exact Upd.here|apply Upd.there) rfl (Nat.le_of_ble_eq_true (by rfl)) rfl (by exact putL_whole rfl)) rfl rfl ?_
        rintro _ _ ⟨rfl, rfl⟩
        refine SL.nil ?_
        refine SE.meet (nextC id (y.2.1).stamp (l[y.1]'hlt).core) (⟨ins_next (hin _ (List.getElem_mem hlt)) hid ⟨by omega, by omega⟩, by show (l[y.1]'hlt).core.letter.size ≤ _; omega, by show (l[y.1]'hlt).core.text.size ≤ _; omega⟩) (by exact ⟨rfl, rfl, rfl, rfl, rfl, rfl, rfl, rfl, trivial⟩) (List.Sublist.refl _)
      · intro z hz
        have hcx := hz.1
        have hins : Core.ins (nextC id (y.2.1).stamp z) := ins_next hcx hid ⟨by omega, by omega⟩
        have hak := fun za => hco.ask (x := z) hcx (by omega) (by omega) za
        have hkl := fun za => (hak za).ok.lo
        have hkh := fun za => (hak za).ok.hi
        have hkt := fun za => (hak za).ok.tags
        refine SC.seq (SC.region ?_)
        refine SL.val (Val.move rfl) rfl rfl ?_
        refine SL.val (Val.loadA tabOk rfl rfl rfl (by first|(apply Or.inl;(repeat first|assumption|exact m0|apply m1);done)|(apply Or.inr;(repeat first|assumption|exact m0|apply m1);done)) List.not_mem_nil rfl) rfl rfl ?_
        refine SL.call (askS_s (p := z1) (q := z0.1) (bd := z0.2.1) (bt := z0.2.2) (n := n) (id := id) (x := z) (T := y.2.2.2) (s := y.2.1) hcx hins (by omega) (by omega) hok.num (by omega) ⟨by omega, by omega⟩) (Casts.keep (Casts.keep (Casts.nils (s := 2) Casts.refl))) (by kernel_rfl) rfl rfl rfl ?_
        refine After.around [.blk b16 33 (z.cells.map .v), .blk b15 55 (l[y.1]'hlt).abs] (α := clP z1 z0.1 n id (y.2.1)) (β := hidP z0.1 z0.2.1 z0.2.2 (y.2.2.2)) rfl rfl (fun _ => rfl) askS_rids ?_
        intro za
        have hin1 := hak za
        have hkl1 := hkl za
        have hkh1 := hkh za
        have hkt1 := hkt za
        refine SL.val (Val.move rfl) rfl rfl ?_
        refine SL.val (Val.extract rfl rfl) rfl rfl ?_
        refine SL.val (Val.extract rfl rfl) rfl rfl ?_
        refine SL.val (Val.assign rfl) rfl rfl ?_
        refine SL.val (Val.assign rfl) rfl rfl ?_
        refine SL.nil (SE.seq ?_)
        refine SC.seq (SC.region ?_)
        refine SL.val (Val.move rfl) rfl rfl ?_
        refine SL.val (Val.loadA tabOk rfl rfl rfl (by first|(apply Or.inl;(repeat first|assumption|exact m0|apply m1);done)|(apply Or.inr;(repeat first|assumption|exact m0|apply m1);done)) List.not_mem_nil rfl) rfl rfl ?_
        refine SL.call (daskP_s (r := b103) (q := z0.1) (bd := z0.2.1) (bt := z0.2.2) (n := n) (id := id) (x := z) (d := y.2.2.1) (s := y.2.1) (T := y.2.2.2) hok.rel h7 hcx hins (by omega) (by omega) hin1.ok.num (by omega) ⟨by omega, by omega⟩) (Casts.keep (Casts.keep (Casts.nils (s := 2) Casts.refl))) (by kernel_rfl) rfl rfl rfl ?_
        refine After.last [.blk b16 33 (z.cells.map .v), .blk b15 55 (l[y.1]'hlt).abs] (clP z1 z0.1 n id ((askS y.2.2.2 n id y.2.1 z za))) rfl (by simp [hidP, It.rids]) ?_
        intro _
        refine SL.val (Val.move rfl) rfl rfl ?_
        refine SL.val (Val.extract rfl rfl) rfl rfl ?_
        refine SL.val (Val.extract rfl rfl) rfl rfl ?_
        refine SL.val (Val.assign rfl) rfl rfl ?_
        refine SL.val (Val.assign rfl) rfl rfl ?_
        refine SL.nil (SE.seq ?_)
        refine SC.seq ?_
        refine SC.known (p := b15 ∉ (mids (clP z1 z0.1 n id ((askS y.2.2.2 n id y.2.1 z za)) ++ (.blk b103 51 (DS.cells z0.1 n id ((daskS n id y.2.2.1 z))) :: hidP z0.1 z0.2.1 z0.2.2 ((askST y.2.2.2 n id y.2.1 z)))))) (fun _ _ h => (List.nodup_cons.1 (List.nodup_cons.1 h.mem.nodup).2).1) fun hX => ?_
        refine SC.draw (mids (clP z1 z0.1 n id ((askS y.2.2.2 n id y.2.1 z za)) ++ (.blk b103 51 (DS.cells z0.1 n id ((daskS n id y.2.2.1 z))) :: hidP z0.1 z0.2.1 z0.2.2 ((askST y.2.2.2 n id y.2.1 z))))) (.q 0 (.q 1 (.q 2 (.q 3 (.q 4 (.q 5 (.e 6 (.q 7 (.q 8 (.q 9 (.q 10 (.q 11 (.q 12 (.q 14 (.q 15 (.q 16 (.e 13 (.e 17 (.q 18 (.q 19 .nil)))))))))))))))))))) (by kernel_rfl) (by kernel_rfl) ?_
        refine SX.val rfl (Val.move rfl) (by first | exact fun k hk => List.mem_cons_of_mem _ hk | exact fun k hk => List.mem_cons_of_mem _ (List.mem_cons_of_mem _ hk) | (simp [mids, It.mids, ownPc, mapPc]; done) | (intro k hk; simp [mids, It.mids, ownPc, mapPc] at hk ⊢; grind)) rfl rfl ?_
        refine SX.val rfl (Val.move rfl) (by first | exact fun k hk => List.mem_cons_of_mem _ hk | exact fun k hk => List.mem_cons_of_mem _ (List.mem_cons_of_mem _ hk) | (simp [mids, It.mids, ownPc, mapPc]; done) | (intro k hk; simp [mids, It.mids, ownPc, mapPc] at hk ⊢; grind)) rfl rfl ?_
        refine SX.val rfl (Val.to (C := boo false) (Val.neI rfl rfl) (congrArg (fun b => Abs.v (Value.bool b)) (decide_eq_false (fun h => h rfl)))) (by first | exact fun k hk => List.mem_cons_of_mem _ hk | exact fun k hk => List.mem_cons_of_mem _ (List.mem_cons_of_mem _ hk) | (simp [mids, It.mids, ownPc, mapPc]; done) | (intro k hk; simp [mids, It.mids, ownPc, mapPc] at hk ⊢; grind)) rfl rfl ?_
        refine SX.val rfl (Val.move rfl) (by first | exact fun k hk => List.mem_cons_of_mem _ hk | exact fun k hk => List.mem_cons_of_mem _ (List.mem_cons_of_mem _ hk) | (simp [mids, It.mids, ownPc, mapPc]; done) | (intro k hk; simp [mids, It.mids, ownPc, mapPc] at hk ⊢; grind)) rfl rfl ?_
        refine SX.val rfl (Val.move rfl) (by first | exact fun k hk => List.mem_cons_of_mem _ hk | exact fun k hk => List.mem_cons_of_mem _ (List.mem_cons_of_mem _ hk) | (simp [mids, It.mids, ownPc, mapPc]; done) | (intro k hk; simp [mids, It.mids, ownPc, mapPc] at hk ⊢; grind)) rfl rfl ?_
        refine SX.val rfl (Val.move rfl) (by first | exact fun k hk => List.mem_cons_of_mem _ hk | exact fun k hk => List.mem_cons_of_mem _ (List.mem_cons_of_mem _ hk) | (simp [mids, It.mids, ownPc, mapPc]; done) | (intro k hk; simp [mids, It.mids, ownPc, mapPc] at hk ⊢; grind)) rfl rfl ?_
        refine SX.call rfl (sameP_s askSL_parc) (by simp [mids, It.mids]) Casts.refl (by kernel_rfl) rfl rfl rfl ?_
        refine After.pure Reads.nil (fun _ => rfl) ?_
        intro _
        refine SX.val rfl (Val.notT rfl) (by first | exact fun k hk => List.mem_cons_of_mem _ hk | exact fun k hk => List.mem_cons_of_mem _ (List.mem_cons_of_mem _ hk) | (simp [mids, It.mids, ownPc, mapPc]; done) | (intro k hk; simp [mids, It.mids, ownPc, mapPc] at hk ⊢; grind)) rfl rfl ?_
        refine SX.val rfl (Val.pickF rfl rfl) (by first | exact fun k hk => List.mem_cons_of_mem _ hk | exact fun k hk => List.mem_cons_of_mem _ (List.mem_cons_of_mem _ hk) | (simp [mids, It.mids, ownPc, mapPc]; done) | (intro k hk; simp [mids, It.mids, ownPc, mapPc] at hk ⊢; grind)) rfl rfl ?_
        refine SX.val rfl (Val.move rfl) (by first | exact fun k hk => List.mem_cons_of_mem _ hk | exact fun k hk => List.mem_cons_of_mem _ (List.mem_cons_of_mem _ hk) | (simp [mids, It.mids, ownPc, mapPc]; done) | (intro k hk; simp [mids, It.mids, ownPc, mapPc] at hk ⊢; grind)) rfl rfl ?_
        refine SX.val rfl (Val.move rfl) (by first | exact fun k hk => List.mem_cons_of_mem _ hk | exact fun k hk => List.mem_cons_of_mem _ (List.mem_cons_of_mem _ hk) | (simp [mids, It.mids, ownPc, mapPc]; done) | (intro k hk; simp [mids, It.mids, ownPc, mapPc] at hk ⊢; grind)) rfl rfl ?_
        refine SX.val rfl (Val.fieldAddr tabOk rfl rfl rfl rfl rfl) (by first | exact fun k hk => List.mem_cons_of_mem _ hk | exact fun k hk => List.mem_cons_of_mem _ (List.mem_cons_of_mem _ hk) | (simp [mids, It.mids, ownPc, mapPc]; done) | (intro k hk; simp [mids, It.mids, ownPc, mapPc] at hk ⊢; grind)) rfl rfl ?_
        refine SX.val rfl (Val.to (C := coreA (l[y.1]'hlt).core) (Val.loadP tabOk rfl rfl rfl (by first|(apply Or.inl;(repeat first|assumption|exact m0|apply m1);done)|(apply Or.inr;(repeat first|assumption|exact m0|apply m1);done)) hX (Nat.le_of_ble_eq_true (by rfl))) (congrArg Abs.agg (ac_core _))) (by first | exact fun k hk => List.mem_cons_of_mem _ hk | exact fun k hk => List.mem_cons_of_mem _ (List.mem_cons_of_mem _ hk) | (simp [mids, It.mids, ownPc, mapPc]; done) | (intro k hk; simp [mids, It.mids, ownPc, mapPc] at hk ⊢; grind)) rfl rfl ?_
        refine SX.val rfl (Val.move rfl) (by first | exact fun k hk => List.mem_cons_of_mem _ hk | exact fun k hk => List.mem_cons_of_mem _ (List.mem_cons_of_mem _ hk) | (simp [mids, It.mids, ownPc, mapPc]; done) | (intro k hk; simp [mids, It.mids, ownPc, mapPc] at hk ⊢; grind)) rfl rfl ?_
        refine SX.val rfl (Val.fieldAddr tabOk rfl rfl rfl rfl rfl) (by first | exact fun k hk => List.mem_cons_of_mem _ hk | exact fun k hk => List.mem_cons_of_mem _ (List.mem_cons_of_mem _ hk) | (simp [mids, It.mids, ownPc, mapPc]; done) | (intro k hk; simp [mids, It.mids, ownPc, mapPc] at hk ⊢; grind)) rfl rfl ?_
        refine SX.val rfl (Val.to (C := coreA (l[y.1]'hlt).core) (Val.loadP tabOk rfl rfl rfl (by first|(apply Or.inl;(repeat first|assumption|exact m0|apply m1);done)|(apply Or.inr;(repeat first|assumption|exact m0|apply m1);done)) hX (Nat.le_of_ble_eq_true (by rfl))) (congrArg Abs.agg (ac_core _))) (by first | exact fun k hk => List.mem_cons_of_mem _ hk | exact fun k hk => List.mem_cons_of_mem _ (List.mem_cons_of_mem _ hk) | (simp [mids, It.mids, ownPc, mapPc]; done) | (intro k hk; simp [mids, It.mids, ownPc, mapPc] at hk ⊢; grind)) rfl rfl ?_
        refine SX.call rfl (nextS_s (p := z1) (q := z0.1) (n := n) (id := id) (s := (askS y.2.2.2 n id y.2.1 z za)) (x := (l[y.1]'hlt).core) (by omega) (by omega)) (fun k hk => by rw [mids_append]; exact List.mem_append_left _ hk) Casts.refl (by kernel_rfl) rfl rfl rfl ?_
        refine After.mid [.blk b16 33 (z.cells.map .v), .blk b15 55 (l[y.1]'hlt).abs] (β := .blk b103 51 (DS.cells z0.1 n id ((daskS n id y.2.2.1 z))) :: hidP z0.1 z0.2.1 z0.2.2 ((askST y.2.2.2 n id y.2.1 z))) rfl (clP_rids _) ?_
        intro _
        refine SX.call rfl (dnextP_s (r := b103) (q := z0.1) (n := n) (id := id) (x := (l[y.1]'hlt).core) (d := (daskS n id y.2.2.1 z)) (s := (askS y.2.2.2 n id y.2.1 z za)) (T := (askST y.2.2.2 n id y.2.1 z)) hin1.ok.rel ⟨by omega, by omega⟩) (by simp [mids, It.mids]) Casts.refl (by kernel_rfl) rfl rfl rfl ?_
        refine After.pure (Reads.blk (by simp) Reads.nil) (fun _ => rfl) ?_
        intro _
        refine SX.val rfl (Val.neA rfl rfl (core_plains _) (core_plains _) (by kernel_rfl) (Core.get_neq (ins_next (hin _ (List.getElem_mem hlt)) hid ⟨by omega, by omega⟩))) (by first | exact fun k hk => List.mem_cons_of_mem _ hk | exact fun k hk => List.mem_cons_of_mem _ (List.mem_cons_of_mem _ hk) | (simp [mids, It.mids, ownPc, mapPc]; done) | (intro k hk; simp [mids, It.mids, ownPc, mapPc] at hk ⊢; grind)) rfl rfl ?_
        refine SX.val rfl (Val.pickF rfl rfl) (by first | exact fun k hk => List.mem_cons_of_mem _ hk | exact fun k hk => List.mem_cons_of_mem _ (List.mem_cons_of_mem _ hk) | (simp [mids, It.mids, ownPc, mapPc]; done) | (intro k hk; simp [mids, It.mids, ownPc, mapPc] at hk ⊢; grind)) rfl rfl ?_
        refine SX.nil (SE.seq ?_)
        refine SC.condF rfl ?_
        refine SC.skip ?_
        refine SE.inBlock ?_
        refine SE.meet (((askS y.2.2.2 n id y.2.1 z za), (daskS n id y.2.2.1 z), (askST y.2.2.2 n id y.2.1 z))) (hin1.next) (by exact ⟨rfl, rfl, rfl, rfl, rfl, rfl, trivial⟩) (by first | exact List.Sublist.refl _ | exact List.sublist_append_right [_] _ | exact List.sublist_append_right [_, _] _)
  · intro z hz
    have hzr := hz.ok.rel
    have hzw := hzr.waits
    have hza := hzr.acc
    have hzf := hz.ok.few
    refine SC.seq (SC.region ?_)
    refine SL.val (Val.move rfl) rfl rfl ?_
    refine SL.call (waitS_s (p := z1) (q := z0.1) (n := n) (id := id) (s := z.1)) Casts.refl (by kernel_rfl) rfl rfl rfl ?_
    refine After.mid [] (β := .blk b103 51 (DS.cells z0.1 n id (z.2.1)) :: hidP z0.1 z0.2.1 z0.2.2 (z.2.2)) rfl (clP_rids _) ?_
    intro _
    refine SL.val (Val.move rfl) rfl rfl ?_
    refine SL.val (Val.extract rfl rfl) rfl rfl ?_
    refine SL.val (Val.extract rfl rfl) rfl rfl ?_
    refine SL.eff (Eff.alloc tabOk rfl) rfl rfl ?_
    rintro _ _ ⟨b22, rfl, rfl⟩
    refine SL.eff (Eff.store (L' := (CS.core z.1).cells.map .v) tabOk rfl rfl rfl (by repeat first|assumption|exact Upd.here|apply Upd.there) rfl (Nat.le_of_ble_eq_true (by rfl)) rfl (by exact putL_whole rfl)) rfl rfl ?_
    rintro _ _ ⟨rfl, rfl⟩
    refine SL.val (Val.assign rfl) rfl rfl ?_
    refine SL.nil (SE.seq ?_)
    refine SC.seq (SC.region ?_)
    refine SL.val (Val.move rfl) rfl rfl ?_
    refine SL.call (accS_s (p := z1) (q := z0.1) (n := n) (id := id) (s := z.1) (by omega)) Casts.refl (by kernel_rfl) rfl rfl rfl ?_
    refine After.mid [_] (β := .blk b103 51 (DS.cells z0.1 n id (z.2.1)) :: hidP z0.1 z0.2.1 z0.2.2 (z.2.2)) rfl (clP_rids _) ?_
    intro _
    refine SL.val (Val.assign rfl) rfl rfl ?_
    refine SL.nil (SE.seq ?_)
    refine SC.seq ?_
    refine SC.seq ?_
    refine SC.draw [] (.q 0 (.q 1 (.q 2 (.q 3 (.q 4 (.q 5 (.q 6 (.q 7 (.q 8 (.q 9 (.q 10 (.q 11 (.q 12 (.q 13 (.q 14 (.q 15 (.q 16 (.q 17 (.q 18 (.q 19 (.q 20 (.q 21 (.q 22 (.q 23 (.q 24 (.q 25 (.q 26 (.q 27 .nil)))))))))))))))))))))))))))) (by kernel_rfl) (by kernel_rfl) ?_
    refine SX.val rfl (Val.move rfl) (by simp) rfl rfl ?_
    refine SX.val rfl (Val.move rfl) (by simp) rfl rfl ?_
    refine SX.val rfl (Val.nilCheck rfl) (by simp) rfl rfl ?_
    refine SX.val rfl (Val.fieldAddr tabOk rfl rfl rfl rfl rfl) (by simp) rfl rfl ?_
    refine SX.val rfl (Val.to (C := boo z.2.1.waits) (Val.load1 tabOk rfl rfl (Or.inl (show It.blk b103 51 (DS.cells z0.1 n id (z.2.1)) ∈ _ from by simp)) List.not_mem_nil (by rfl)) rfl) (by first | exact fun k hk => List.mem_cons_of_mem _ hk | exact fun k hk => List.mem_cons_of_mem _ (List.mem_cons_of_mem _ hk) | (simp [mids, It.mids, ownPc, mapPc]; done) | (intro k hk; simp [mids, It.mids, ownPc, mapPc] at hk ⊢; grind)) rfl rfl ?_
    refine SX.val rfl (Val.to (C := boo false) (Val.neB rfl rfl (by kernel_rfl)) (congrArg (fun b => Abs.v (Value.bool b)) (by rw [hzw]; simp))) (by first | exact fun k hk => List.mem_cons_of_mem _ hk | exact fun k hk => List.mem_cons_of_mem _ (List.mem_cons_of_mem _ hk) | (simp [mids, It.mids, ownPc, mapPc]; done) | (intro k hk; simp [mids, It.mids, ownPc, mapPc] at hk ⊢; grind)) rfl rfl ?_
    refine SX.val rfl (Val.move rfl) (by simp) rfl rfl ?_
    refine SX.val rfl (Val.move rfl) (by simp) rfl rfl ?_
    refine SX.val rfl (Val.move rfl) (by simp) rfl rfl ?_
    refine SX.both (t := 207) rfl ?_ ?_
    · intro hc207
      refine SX.val rfl (Val.to (C := coreA z.2.1.req) (Val.loadA tabOk rfl rfl rfl (by first|(apply Or.inl;(repeat first|assumption|exact m0|apply m1);done)|(apply Or.inr;(repeat first|assumption|exact m0|apply m1);done)) List.not_mem_nil rfl) (congrArg coreA (hzr.core hc207))) (by first | exact fun k hk => List.mem_cons_of_mem _ hk | exact fun k hk => List.mem_cons_of_mem _ (List.mem_cons_of_mem _ hk) | (simp [mids, It.mids, ownPc, mapPc]; done) | (intro k hk; simp [mids, It.mids, ownPc, mapPc] at hk ⊢; grind)) rfl rfl ?_
      refine SX.val rfl (Val.move rfl) (by simp) rfl rfl ?_
      refine SX.val rfl (Val.nilCheck rfl) (by simp) rfl rfl ?_
      refine SX.val rfl (Val.fieldAddr tabOk rfl rfl rfl rfl rfl) (by simp) rfl rfl ?_
      refine SX.val rfl (Val.fieldAddr tabOk rfl rfl rfl rfl rfl) (by simp) rfl rfl ?_
      refine SX.val rfl (Val.to (C := coreA z.2.1.req) (Val.loadP tabOk rfl rfl rfl (Or.inl (show It.blk b103 51 (DS.cells z0.1 n id (z.2.1)) ∈ _ from by simp)) List.not_mem_nil (Nat.le_of_ble_eq_true (by rfl))) (congrArg Abs.agg (ds_core _ _ _ _))) (by first | exact fun k hk => List.mem_cons_of_mem _ hk | exact fun k hk => List.mem_cons_of_mem _ (List.mem_cons_of_mem _ hk) | (simp [mids, It.mids, ownPc, mapPc]; done) | (intro k hk; simp [mids, It.mids, ownPc, mapPc] at hk ⊢; grind)) rfl rfl ?_
      refine SX.val rfl (Val.neA rfl rfl (core_plains _) (core_plains _) (by kernel_rfl) (Core.get_neq hz.req)) (by first | exact fun k hk => List.mem_cons_of_mem _ hk | exact fun k hk => List.mem_cons_of_mem _ (List.mem_cons_of_mem _ hk) | (simp [mids, It.mids, ownPc, mapPc]; done) | (intro k hk; simp [mids, It.mids, ownPc, mapPc] at hk ⊢; grind)) rfl rfl ?_
      refine SX.val rfl (Val.pickT rfl rfl) (by simp) rfl rfl ?_
      refine SX.val rfl (Val.pickF rfl rfl) (by simp) rfl rfl ?_
      refine SX.val rfl (Val.move rfl) (by simp) rfl rfl ?_
      refine SX.val rfl (Val.move rfl) (by simp) rfl rfl ?_
      first
        | refine SX.val rfl (Val.lenSl rfl Try.underlying42 (List.length_map _)) (by simp) rfl rfl ?_
        | refine SX.val rfl (Val.lenOwn rfl (by repeat first|assumption|exact m0|apply m1) Try.underlying42 (List.length_map _)) (by simp) rfl rfl ?_
        | refine SX.val rfl (Val.lenNil rfl Try.underlying42) (by simp) rfl rfl ?_
      refine SX.val rfl (Val.move rfl) (by simp) rfl rfl ?_
      refine SX.val rfl (Val.nilCheck rfl) (by simp) rfl rfl ?_
      refine SX.val rfl (Val.fieldAddr tabOk rfl rfl rfl rfl rfl) (by simp) rfl rfl ?_
      refine SX.val rfl (Val.to (C := outA z.1.acc) (Val.load1 tabOk rfl rfl (Or.inl (show It.blk b103 51 (DS.cells z0.1 n id (z.2.1)) ∈ _ from by simp)) List.not_mem_nil (by rfl)) (congrArg outA hza)) (by first | exact fun k hk => List.mem_cons_of_mem _ hk | exact fun k hk => List.mem_cons_of_mem _ (List.mem_cons_of_mem _ hk) | (simp [mids, It.mids, ownPc, mapPc]; done) | (intro k hk; simp [mids, It.mids, ownPc, mapPc] at hk ⊢; grind)) rfl rfl ?_
      first
        | refine SX.val rfl (Val.lenSl rfl Try.underlying42 (List.length_map _)) (by simp) rfl rfl ?_
        | refine SX.val rfl (Val.lenOwn rfl (by repeat first|assumption|exact m0|apply m1) Try.underlying42 (List.length_map _)) (by simp) rfl rfl ?_
        | refine SX.val rfl (Val.lenNil rfl Try.underlying42) (by simp) rfl rfl ?_
      refine SX.val rfl (Val.to (C := boo false) (Val.neI rfl rfl) (congrArg (fun b => Abs.v (Value.bool b)) (decide_eq_false (fun h => h rfl)))) (by first | exact fun k hk => List.mem_cons_of_mem _ hk | exact fun k hk => List.mem_cons_of_mem _ (List.mem_cons_of_mem _ hk) | (simp [mids, It.mids, ownPc, mapPc]; done) | (intro k hk; simp [mids, It.mids, ownPc, mapPc] at hk ⊢; grind)) rfl rfl ?_
      refine SX.val rfl (Val.pickF rfl rfl) (by simp) rfl rfl ?_
      refine SX.nil (SE.seq ?_)
      refine SC.condF rfl ?_
      refine SC.skip ?_
      refine SE.seq ?_
      refine SC.seq (SC.region ?_)
      refine SL.val (Val.move rfl) rfl rfl ?_
      first
        | refine SL.val (Val.lenSl rfl Try.underlying42 (List.length_map _)) rfl rfl ?_
        | refine SL.val (Val.lenOwn rfl (by repeat first|assumption|exact m0|apply m1) Try.underlying42 (List.length_map _)) rfl rfl ?_
        | refine SL.val (Val.lenNil rfl Try.underlying42) rfl rfl ?_
      refine SL.val (Val.move rfl) rfl rfl ?_
      refine SL.nil (SE.seq ?_)
      refine SC.block ?_
      refine SC.loop (ι := Nat) (fun v => clP z1 z0.1 n id (z.1) ++ (.blk b103 51 (DS.cells z0.1 n id (z.2.1)) :: hidP z0.1 z0.2.1 z0.2.2 (z.2.2))) (fun v => [(7, ptr z0.1), (8, ptr z1), (13, ptr b103), (104, actsA l), (105, int (l.length : Nat)), (106, int (y.1 : Nat)), (24, outA z.1.acc), (227, outA z.1.acc), (228, int (z.1.acc.length : Nat)), (229, int (v : Nat))]) (fun v => v ≤ (z.1).acc.length) (fun v => (z.1).acc.length - v) (0) (Nat.zero_le _) (by exact ⟨rfl, rfl, rfl, rfl, rfl, rfl, rfl, rfl, rfl, rfl, trivial⟩) (by first | exact List.Sublist.refl _ | exact List.sublist_append_right [_] _ | exact List.sublist_append_right [_, _] _) ?_
      intro v hv
      refine SC.seq (SC.region ?_)
      refine SL.val (Val.ltI rfl rfl) rfl rfl ?_
      refine SL.nil (SE.seq ?_)
      refine SC.seq ?_
      refine SC.condP rfl ?_ ?_
      rotate_left
      · intro hc230
        refine SC.exit ?_
        refine SE.then_ (by intro h; cases h) ?_
        refine SE.then_ (by intro h; cases h) ?_
        refine SE.exit ?_
        refine SE.inBlock ?_
        refine SE.seq ?_
        refine SC.region ?_
        first
          | refine SL.val (Val.addI rfl rfl (by simp only [InR, lo, hi]; omega)) rfl rfl ?_
          | refine SL.val (Val.addW rfl rfl) rfl rfl ?_
        refine SL.val (Val.move rfl) rfl rfl ?_
        refine SL.nil ?_
        refine SE.round ((y.1 + 1, z.1, z.2.1, z.2.2)) (by first | omega | (dsimp only; omega)) (⟨hlt, hz⟩) (by exact ⟨rfl, rfl, rfl, rfl, rfl, rfl, trivial⟩) (by first | exact List.Sublist.refl _ | exact List.sublist_append_right [_] _ | exact List.sublist_append_right [_, _] _)
      intro hc230
      have hl2 : v < (z.1).acc.length := by omega
      refine SC.skip ?_
      refine SE.seq ?_
      refine SC.seq ?_
      refine SC.block ?_
      refine SC.seq (SC.region ?_)
      refine SL.val (Val.move rfl) rfl rfl ?_
      refine SL.val (Val.indexSl tabOk Try.underlying42 rfl rfl rfl rfl (at_map (by omega)) rfl rfl) rfl rfl ?_
      refine SL.val (Val.loadAR tabOk rfl rfl rfl rfl) rfl rfl ?_
      refine SL.eff (Eff.alloc tabOk rfl) rfl rfl ?_
      rintro _ _ ⟨b26, rfl, rfl⟩
      refine SL.val (Val.assign rfl) rfl rfl ?_
      refine SL.eff (Eff.store (L' := ((z.1).acc[v]'hl2).abs) tabOk rfl rfl rfl (by repeat first|assumption|exact Upd.here|apply Upd.there) rfl (Nat.le_of_ble_eq_true (by rfl)) rfl (by exact putL_whole rfl)) rfl rfl ?_
      rintro _ _ ⟨rfl, rfl⟩
      refine SL.nil (SE.seq ?_)
      refine SC.seq ?_
      refine SC.draw [] (.q 0 (.q 1 (.q 2 (.q 3 (.q 4 (.q 5 (.q 6 (.q 7 (.q 8 .nil))))))))) (by kernel_rfl) (by kernel_rfl) ?_
      refine SX.val rfl (Val.loadA tabOk rfl rfl rfl (by first|(apply Or.inl;(repeat first|assumption|exact m0|apply m1);done)|(apply Or.inr;(repeat first|assumption|exact m0|apply m1);done)) List.not_mem_nil rfl) (by first | exact fun k hk => List.mem_cons_of_mem _ hk | exact fun k hk => List.mem_cons_of_mem _ (List.mem_cons_of_mem _ hk) | (simp [mids, It.mids, ownPc, mapPc]; done) | (intro k hk; simp [mids, It.mids, ownPc, mapPc] at hk ⊢; grind)) rfl rfl ?_
      refine SX.val rfl (Val.move rfl) (by simp) rfl rfl ?_
      refine SX.val rfl (Val.nilCheck rfl) (by simp) rfl rfl ?_
      refine SX.val rfl (Val.fieldAddr tabOk rfl rfl rfl rfl rfl) (by simp) rfl rfl ?_
      refine SX.val rfl (Val.to (C := outA z.1.acc) (Val.load1 tabOk rfl rfl (Or.inl (show It.blk b103 51 (DS.cells z0.1 n id (z.2.1)) ∈ _ from by simp)) List.not_mem_nil (by rfl)) (congrArg outA hza)) (by first | exact fun k hk => List.mem_cons_of_mem _ hk | exact fun k hk => List.mem_cons_of_mem _ (List.mem_cons_of_mem _ hk) | (simp [mids, It.mids, ownPc, mapPc]; done) | (intro k hk; simp [mids, It.mids, ownPc, mapPc] at hk ⊢; grind)) rfl rfl ?_
      refine SX.val rfl (Val.move rfl) (by simp) rfl rfl ?_
      refine SX.val rfl (Val.indexSl (q := v) tabOk Try.underlying42 rfl rfl rfl rfl (at_map hl2) rfl rfl) (by first | exact fun k hk => List.mem_cons_of_mem _ hk | exact fun k hk => List.mem_cons_of_mem _ (List.mem_cons_of_mem _ hk) | (simp [mids, It.mids, ownPc, mapPc]; done) | (intro k hk; simp [mids, It.mids, ownPc, mapPc] at hk ⊢; grind)) rfl rfl ?_
      refine SX.val rfl (Val.loadAR tabOk rfl rfl rfl rfl) (by first | exact fun k hk => List.mem_cons_of_mem _ hk | exact fun k hk => List.mem_cons_of_mem _ (List.mem_cons_of_mem _ hk) | (simp [mids, It.mids, ownPc, mapPc]; done) | (intro k hk; simp [mids, It.mids, ownPc, mapPc] at hk ⊢; grind)) rfl rfl ?_
      refine SX.val rfl (Val.neA rfl rfl (oc_plains _) (oc_plains _) (by kernel_rfl) (Oc.get_neq (hz.accs _ (List.getElem_mem hl2)))) (by first | exact fun k hk => List.mem_cons_of_mem _ hk | exact fun k hk => List.mem_cons_of_mem _ (List.mem_cons_of_mem _ hk) | (simp [mids, It.mids, ownPc, mapPc]; done) | (intro k hk; simp [mids, It.mids, ownPc, mapPc] at hk ⊢; grind)) rfl rfl ?_
      refine SX.nil (SE.seq ?_)
      refine SC.condF rfl ?_
      refine SC.skip ?_
      refine SE.inBlock ?_
      refine SE.seq ?_
      refine SC.region ?_
      first
        | refine SL.val (Val.addI rfl rfl (by simp only [InR, lo, hi]; omega)) rfl rfl ?_
        | refine SL.val (Val.addW rfl rfl) rfl rfl ?_
      refine SL.val (Val.move rfl) rfl rfl ?_
      refine SL.nil ?_
      refine SE.round (v + 1) (by first | omega | (dsimp only; omega)) (by first | omega | (dsimp only; omega)) (by exact ⟨rfl, rfl, rfl, rfl, rfl, rfl, rfl, rfl, rfl, rfl, trivial⟩) (by first | exact List.Sublist.refl _ | exact List.sublist_append_right [_] _ | exact List.sublist_append_right [_, _] _)
    intro hc207
    iterate 7 refine SX.skip rfl rfl rfl ?_
    refine SX.val rfl (Val.pickF rfl rfl) (by simp) rfl rfl ?_
    refine SX.val rfl (Val.pickF rfl rfl) (by simp) rfl rfl ?_
    refine SX.val rfl (Val.move rfl) (by simp) rfl rfl ?_
    refine SX.val rfl (Val.move rfl) (by simp) rfl rfl ?_
    first
      | refine SX.val rfl (Val.lenSl rfl Try.underlying42 (List.length_map _)) (by simp) rfl rfl ?_
      | refine SX.val rfl (Val.lenOwn rfl (by repeat first|assumption|exact m0|apply m1) Try.underlying42 (List.length_map _)) (by simp) rfl rfl ?_
      | refine SX.val rfl (Val.lenNil rfl Try.underlying42) (by simp) rfl rfl ?_
    refine SX.val rfl (Val.move rfl) (by simp) rfl rfl ?_
    refine SX.val rfl (Val.nilCheck rfl) (by simp) rfl rfl ?_
    refine SX.val rfl (Val.fieldAddr tabOk rfl rfl rfl rfl rfl) (by simp) rfl rfl ?_
    refine SX.val rfl (Val.to (C := outA z.1.acc) (Val.load1 tabOk rfl rfl (Or.inl (show It.blk b103 51 (DS.cells z0.1 n id (z.2.1)) ∈ _ from by simp)) List.not_mem_nil (by rfl)) (congrArg outA hza)) (by first | exact fun k hk => List.mem_cons_of_mem _ hk | exact fun k hk => List.mem_cons_of_mem _ (List.mem_cons_of_mem _ hk) | (simp [mids, It.mids, ownPc, mapPc]; done) | (intro k hk; simp [mids, It.mids, ownPc, mapPc] at hk ⊢; grind)) rfl rfl ?_
    first
      | refine SX.val rfl (Val.lenSl rfl Try.underlying42 (List.length_map _)) (by simp) rfl rfl ?_
      | refine SX.val rfl (Val.lenOwn rfl (by repeat first|assumption|exact m0|apply m1) Try.underlying42 (List.length_map _)) (by simp) rfl rfl ?_
      | refine SX.val rfl (Val.lenNil rfl Try.underlying42) (by simp) rfl rfl ?_
    refine SX.val rfl (Val.to (C := boo false) (Val.neI rfl rfl) (congrArg (fun b => Abs.v (Value.bool b)) (decide_eq_false (fun h => h rfl)))) (by first | exact fun k hk => List.mem_cons_of_mem _ hk | exact fun k hk => List.mem_cons_of_mem _ (List.mem_cons_of_mem _ hk) | (simp [mids, It.mids, ownPc, mapPc]; done) | (intro k hk; simp [mids, It.mids, ownPc, mapPc] at hk ⊢; grind)) rfl rfl ?_
    refine SX.val rfl (Val.pickF rfl rfl) (by simp) rfl rfl ?_
    refine SX.nil (SE.seq ?_)
    refine SC.condF rfl ?_
    refine SC.skip ?_
    refine SE.seq ?_
    refine SC.seq (SC.region ?_)
    refine SL.val (Val.move rfl) rfl rfl ?_
    first
      | refine SL.val (Val.lenSl rfl Try.underlying42 (List.length_map _)) rfl rfl ?_
      | refine SL.val (Val.lenOwn rfl (by repeat first|assumption|exact m0|apply m1) Try.underlying42 (List.length_map _)) rfl rfl ?_
      | refine SL.val (Val.lenNil rfl Try.underlying42) rfl rfl ?_
    refine SL.val (Val.move rfl) rfl rfl ?_
    refine SL.nil (SE.seq ?_)
    refine SC.block ?_
    refine SC.loop (ι := Nat) (fun v => clP z1 z0.1 n id (z.1) ++ (.blk b103 51 (DS.cells z0.1 n id (z.2.1)) :: hidP z0.1 z0.2.1 z0.2.2 (z.2.2))) (fun v => [(7, ptr z0.1), (8, ptr z1), (13, ptr b103), (104, actsA l), (105, int (l.length : Nat)), (106, int (y.1 : Nat)), (24, outA z.1.acc), (227, outA z.1.acc), (228, int (z.1.acc.length : Nat)), (229, int (v : Nat))]) (fun v => v ≤ (z.1).acc.length) (fun v => (z.1).acc.length - v) (0) (Nat.zero_le _) (by exact ⟨rfl, rfl, rfl, rfl, rfl, rfl, rfl, rfl, rfl, rfl, trivial⟩) (by first | exact List.Sublist.refl _ | exact List.sublist_append_right [_] _ | exact List.sublist_append_right [_, _] _) ?_
    intro v hv
    refine SC.seq (SC.region ?_)
    refine SL.val (Val.ltI rfl rfl) rfl rfl ?_
    refine SL.nil (SE.seq ?_)
    refine SC.seq ?_
    refine SC.condP rfl ?_ ?_
    rotate_left
    · intro hc230
      refine SC.exit ?_
      refine SE.then_ (by intro h; cases h) ?_
      refine SE.then_ (by intro h; cases h) ?_
      refine SE.exit ?_
      refine SE.inBlock ?_
      refine SE.seq ?_
      refine SC.region ?_
      first
        | refine SL.val (Val.addI rfl rfl (by simp only [InR, lo, hi]; omega)) rfl rfl ?_
        | refine SL.val (Val.addW rfl rfl) rfl rfl ?_
      refine SL.val (Val.move rfl) rfl rfl ?_
      refine SL.nil ?_
      refine SE.round ((y.1 + 1, z.1, z.2.1, z.2.2)) (by first | omega | (dsimp only; omega)) (⟨hlt, hz⟩) (by exact ⟨rfl, rfl, rfl, rfl, rfl, rfl, trivial⟩) (by first | exact List.Sublist.refl _ | exact List.sublist_append_right [_] _ | exact List.sublist_append_right [_, _] _)
    intro hc230
    have hl2 : v < (z.1).acc.length := by omega
    refine SC.skip ?_
    refine SE.seq ?_
    refine SC.seq ?_
    refine SC.block ?_
    refine SC.seq (SC.region ?_)
    refine SL.val (Val.move rfl) rfl rfl ?_
    refine SL.val (Val.indexSl tabOk Try.underlying42 rfl rfl rfl rfl (at_map (by omega)) rfl rfl) rfl rfl ?_
    refine SL.val (Val.loadAR tabOk rfl rfl rfl rfl) rfl rfl ?_
    refine SL.eff (Eff.alloc tabOk rfl) rfl rfl ?_
    rintro _ _ ⟨b26, rfl, rfl⟩
    refine SL.val (Val.assign rfl) rfl rfl ?_
    refine SL.eff (Eff.store (L' := ((z.1).acc[v]'hl2).abs) tabOk rfl rfl rfl (by repeat first|assumption|exact Upd.here|apply Upd.there) rfl (Nat.le_of_ble_eq_true (by rfl)) rfl (by exact putL_whole rfl)) rfl rfl ?_
    rintro _ _ ⟨rfl, rfl⟩
    refine SL.nil (SE.seq ?_)
    refine SC.seq ?_
    refine SC.draw [] (.q 0 (.q 1 (.q 2 (.q 3 (.q 4 (.q 5 (.q 6 (.q 7 (.q 8 .nil))))))))) (by kernel_rfl) (by kernel_rfl) ?_
    refine SX.val rfl (Val.loadA tabOk rfl rfl rfl (by first|(apply Or.inl;(repeat first|assumption|exact m0|apply m1);done)|(apply Or.inr;(repeat first|assumption|exact m0|apply m1);done)) List.not_mem_nil rfl) (by first | exact fun k hk => List.mem_cons_of_mem _ hk | exact fun k hk => List.mem_cons_of_mem _ (List.mem_cons_of_mem _ hk) | (simp [mids, It.mids, ownPc, mapPc]; done) | (intro k hk; simp [mids, It.mids, ownPc, mapPc] at hk ⊢; grind)) rfl rfl ?_
    refine SX.val rfl (Val.move rfl) (by simp) rfl rfl ?_
    refine SX.val rfl (Val.nilCheck rfl) (by simp) rfl rfl ?_
    refine SX.val rfl (Val.fieldAddr tabOk rfl rfl rfl rfl rfl) (by simp) rfl rfl ?_
    refine SX.val rfl (Val.to (C := outA z.1.acc) (Val.load1 tabOk rfl rfl (Or.inl (show It.blk b103 51 (DS.cells z0.1 n id (z.2.1)) ∈ _ from by simp)) List.not_mem_nil (by rfl)) (congrArg outA hza)) (by first | exact fun k hk => List.mem_cons_of_mem _ hk | exact fun k hk => List.mem_cons_of_mem _ (List.mem_cons_of_mem _ hk) | (simp [mids, It.mids, ownPc, mapPc]; done) | (intro k hk; simp [mids, It.mids, ownPc, mapPc] at hk ⊢; grind)) rfl rfl ?_
    refine SX.val rfl (Val.move rfl) (by simp) rfl rfl ?_
    refine SX.val rfl (Val.indexSl (q := v) tabOk Try.underlying42 rfl rfl rfl rfl (at_map hl2) rfl rfl) (by first | exact fun k hk => List.mem_cons_of_mem _ hk | exact fun k hk => List.mem_cons_of_mem _ (List.mem_cons_of_mem _ hk) | (simp [mids, It.mids, ownPc, mapPc]; done) | (intro k hk; simp [mids, It.mids, ownPc, mapPc] at hk ⊢; grind)) rfl rfl ?_
    refine SX.val rfl (Val.loadAR tabOk rfl rfl rfl rfl) (by first | exact fun k hk => List.mem_cons_of_mem _ hk | exact fun k hk => List.mem_cons_of_mem _ (List.mem_cons_of_mem _ hk) | (simp [mids, It.mids, ownPc, mapPc]; done) | (intro k hk; simp [mids, It.mids, ownPc, mapPc] at hk ⊢; grind)) rfl rfl ?_
    refine SX.val rfl (Val.neA rfl rfl (oc_plains _) (oc_plains _) (by kernel_rfl) (Oc.get_neq (hz.accs _ (List.getElem_mem hl2)))) (by first | exact fun k hk => List.mem_cons_of_mem _ hk | exact fun k hk => List.mem_cons_of_mem _ (List.mem_cons_of_mem _ hk) | (simp [mids, It.mids, ownPc, mapPc]; done) | (intro k hk; simp [mids, It.mids, ownPc, mapPc] at hk ⊢; grind)) rfl rfl ?_
    refine SX.nil (SE.seq ?_)
    refine SC.condF rfl ?_
    refine SC.skip ?_
    refine SE.inBlock ?_
    refine SE.seq ?_
    refine SC.region ?_
    first
      | refine SL.val (Val.addI rfl rfl (by simp only [InR, lo, hi]; omega)) rfl rfl ?_
      | refine SL.val (Val.addW rfl rfl) rfl rfl ?_
    refine SL.val (Val.move rfl) rfl rfl ?_
    refine SL.nil ?_
    refine SE.round (v + 1) (by first | omega | (dsimp only; omega)) (by first | omega | (dsimp only; omega)) (by exact ⟨rfl, rfl, rfl, rfl, rfl, rfl, rfl, rfl, rfl, rfl, trivial⟩) (by first | exact List.Sublist.refl _ | exact List.sublist_append_right [_] _ | exact List.sublist_append_right [_, _] _)
end
end Go.Proofs.Ytmkijjmbiiiicaa.A
