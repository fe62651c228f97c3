/-
  Packed out of the texts: L10, L11, Cli4, L12, L13, Cli5, L14, AOpenL, CliD, L15, L16, CliE, L17, L18, L19, L20, CliF.
-/
import Derived.Test.YtmkijjmbiiiicaaB08
import Derived.DataShut
/-
  The program's client as one state: Ask.
-/
set_option maxRecDepth 100000
set_option linter.unusedSimpArgs false
set_option linter.unusedVariables false
namespace Go.Proofs.Ytmkijjmbiiiicaa.A
open Go.RowKit

noncomputable def askS (T : List (ByteArray × Nat)) (n id : Int) (s : CS) (x : Core) (z : Nat × Nat × Nat × Nat) : CS := match s with
  | ⟨stamp, none, acc, av⟩ => if askE n id stamp x = 0 then ⟨x.stamp, some ⟨x, askM T n id x, [], [], z.1, z.2.1, z.2.2.1, z.2.2.2⟩, acc, av⟩ else ⟨stamp, none, acc, av⟩
  | ⟨stamp, some w, acc, av⟩ => ⟨stamp, some w, acc, av⟩
noncomputable def askSE (n id : Int) (s : CS) (x : Core) : Int := match s.wait with
  | none => askE n id s.stamp x
  | some _ => 15
noncomputable def askST (T : List (ByteArray × Nat)) (n id : Int) (s : CS) (x : Core) : List (ByteArray × Nat) := if askSE n id s x = 0 then askT T n id x else T
noncomputable def askSL (T : List (ByteArray × Nat)) (n id : Int) (s : CS) (x : Core) : List (List Abs) := if askSE n id s x = 0 then parcels (askM T n id x) (allN n) else []
def hidP (q bd bt : Nat) (T : List (ByteArray × Nat)) : Blks := [.blk q 68 [mapV bd, mapV bt], .pc (mapPc bt Value.string cntV sOk T)]
theorem askS_rids {p q bd bt : Nat} {n id : Int} {s : CS} {T : List (ByteArray × Nat)} : ∀ y ∈ clP p q n id s ++ hidP q bd bt T, y.rids = [] := by
  intro y hy
  rcases List.mem_append.1 hy with hy | hy
  · exact clP_rids s y hy
  · simp only [hidP, List.mem_cons, List.not_mem_nil, or_false] at hy
    rcases hy with rfl | rfl <;> rfl
section
variable {p q bd bt : Nat} {n id stamp : Int} {av : Value} {x c : Core} {m mw : Msg} {acc : List Oc} {T : List (ByteArray × Nat)} {s : CS} {ww : Wn}
theorem askw_s  : Spec Try.prog 9 [ptr p, coreA x, .sl 2 []] [.blk p 73 (clA q n id stamp (ptrV ww.wb) av), own 60 3 av (acc.map Oc.abs), .blk ww.wb 82 (wtA ww.core ww.msg ww.t), .blk ww.t 114 [mapV ww.bv, mapV ww.bn], .pc (mapPc ww.bv intK intK intOk ww.m), .pc (mapPc ww.bn intK cntV intOk ww.c), .blk q 68 [mapV bd, mapV bt], .pc (mapPc bt Value.string cntV sOk (T))] (fun z : Nat × Nat × Nat × Nat => clP p q n id (askS T n id (CS.mk stamp (some ww) acc av) x z) ++ hidP q bd bt (askST T n id (CS.mk stamp (some ww) acc av) x)) (fun _ => .tup [.sl 5 (askSL T n id (CS.mk stamp (some ww) acc av) x), int (askSE n id (CS.mk stamp (some ww) acc av) x)]) := by
  refine spec_of Try.func9 rfl Try.ntmps9 rfl fun G w => ?_
  refine SC.seq (SC.region ?_)
  refine SL.eff (Eff.boxA (cs := x.cells.map .v) rfl) rfl rfl ?_
  rintro _ _ ⟨b4, rfl, rfl⟩
  refine SL.val (Val.assign rfl) rfl rfl ?_
  refine SL.val (Val.assign rfl) rfl rfl ?_
  refine SL.nil (SE.seq ?_)
  refine SC.seq ?_
  refine SC.block ?_
  refine SC.seq (SC.region ?_)
  refine SL.val (Val.move rfl) rfl rfl ?_
  refine SL.val (Val.eqP rfl rfl (by kernel_rfl)) rfl rfl ?_
  refine SL.val (Val.assign rfl) rfl rfl ?_
  refine SL.nil (SE.seq ?_)
  refine SC.condF rfl ?_
  refine SC.seq (SC.region ?_)
  refine SL.val (Val.move rfl) rfl rfl ?_
  refine SL.val (Val.nilCheck rfl) rfl rfl ?_
  refine SL.val (Val.fieldAddr tabOk rfl rfl rfl rfl rfl) rfl rfl ?_
  refine SL.val (Val.to (C := ptr ww.wb) (Val.load1 tabOk rfl rfl (by first|(apply Or.inl;(repeat first|assumption|exact m0|apply m1);done)|(apply Or.inr;(repeat first|assumption|exact m0|apply m1);done)) List.not_mem_nil (by rfl)) rfl) rfl rfl ?_
  refine SL.val (Val.neP rfl rfl (by kernel_rfl)) rfl rfl ?_
  refine SL.val (Val.assign rfl) rfl rfl ?_
  refine SL.nil (SE.seq ?_)
  refine SC.condT rfl ?_
  refine SC.seq (SC.region ?_)
  refine SL.val (Val.assign rfl) rfl rfl ?_
  refine SL.val (Val.assign rfl) rfl rfl ?_
  refine SL.nil (SE.seq ?_)
  refine SC.ret ?_
  refine SE.ret ?_
  refine SE.then_ (by intro h; cases h) ?_
  have hE : askSE n id (CS.mk stamp (some ww) acc av) x = 15 := rfl
  have hT9 : askST T n id (CS.mk stamp (some ww) acc av) x = T := if_neg (by rw [hE]; decide)
  have hL9 : askSL T n id (CS.mk stamp (some ww) acc av) x = [] := if_neg (by rw [hE]; decide)
  refine SE.finC (rs := [.tmp 6, .tmp 7]) rfl (RV.tmp rfl (RV.tmp rfl RV.nil)) (Casts.nils (s := 5) Casts.refl) (0, 0, 0, 0) (by rw [hT9]; show List.Sublist [_, _, _, _, _, _, _, _] _; repeat (first | exact List.nil_sublist _ | exact List.Sublist.refl _ | apply List.Sublist.cons_cons | apply List.Sublist.cons)) askS_rids ?_
  rw [hL9]
  rfl
set_option maxHeartbeats 8000000 in
theorem askn_s (hc : Core.ins x) (hd : Core.ins (nextC id stamp x)) (h1 : x.letter.size ≤ 1000) (h2 : x.text.size ≤ 1000) (hn : Num1 T) (hT : T.length ≤ 900000) (hs : 0 ≤ stamp ∧ stamp ≤ 1000000000) : Spec Try.prog 9 [ptr p, coreA x, .sl 2 []] [.blk p 73 (clA q n id stamp (.pointer none) av), own 60 3 av (acc.map Oc.abs), .blk q 68 [mapV bd, mapV bt], .pc (mapPc bt Value.string cntV sOk (T))] (fun z : Nat × Nat × Nat × Nat => clP p q n id (askS T n id (CS.mk stamp none acc av) x z) ++ hidP q bd bt (askST T n id (CS.mk stamp none acc av) x)) (fun _ => .tup [.sl 5 (askSL T n id (CS.mk stamp none acc av) x), int (askSE n id (CS.mk stamp none acc av) x)]) := by
  have hal := allN_le n
  have hab := askB_length x
  have hcl := core_len (c := x)
  refine spec_of Try.func9 rfl Try.ntmps9 rfl fun G w => ?_
  refine SC.seq (SC.region ?_)
  refine SL.eff (Eff.boxA (cs := x.cells.map .v) rfl) rfl rfl ?_
  rintro _ _ ⟨b4, rfl, rfl⟩
  refine SL.val (Val.assign rfl) rfl rfl ?_
  refine SL.val (Val.assign rfl) rfl rfl ?_
  refine SL.nil (SE.seq ?_)
  refine SC.seq ?_
  refine SC.block ?_
  refine SC.seq (SC.region ?_)
  refine SL.val (Val.move rfl) rfl rfl ?_
  refine SL.val (Val.eqP rfl rfl (by kernel_rfl)) rfl rfl ?_
  refine SL.val (Val.assign rfl) rfl rfl ?_
  refine SL.nil (SE.seq ?_)
  refine SC.condF rfl ?_
  refine SC.seq (SC.region ?_)
  refine SL.val (Val.move rfl) rfl rfl ?_
  refine SL.val (Val.nilCheck rfl) rfl rfl ?_
  refine SL.val (Val.fieldAddr tabOk rfl rfl rfl rfl rfl) rfl rfl ?_
  refine SL.val (Val.to (C := .v (.pointer none)) (Val.load1 tabOk rfl rfl (by first|(apply Or.inl;(repeat first|assumption|exact m0|apply m1);done)|(apply Or.inr;(repeat first|assumption|exact m0|apply m1);done)) List.not_mem_nil (by rfl)) rfl) rfl rfl ?_
  refine SL.val (Val.neP rfl rfl (by kernel_rfl)) rfl rfl ?_
  refine SL.val (Val.assign rfl) rfl rfl ?_
  refine SL.nil (SE.seq ?_)
  refine SC.condF rfl ?_
  refine SC.seq ?_
  refine SC.draw [] (.q 0 (.q 1 (.q 2 (.e 3 (.q 4 (.q 5 .nil)))))) (by kernel_rfl) (by kernel_rfl) ?_
  refine SX.val rfl (Val.loadA tabOk rfl rfl rfl (by first|(apply Or.inl;(repeat first|assumption|exact m0|apply m1);done)|(apply Or.inr;(repeat first|assumption|exact m0|apply m1);done)) List.not_mem_nil rfl) (by first | (simp [mids, It.mids, ownPc, mapPc]; done) | (intro k hk; simp [mids, It.mids, ownPc, mapPc] at hk ⊢; grind)) rfl rfl ?_
  refine SX.val rfl (Val.move rfl) (by simp) rfl rfl ?_
  refine SX.val rfl (Val.loadA tabOk rfl rfl rfl (by first|(apply Or.inl;(repeat first|assumption|exact m0|apply m1);done)|(apply Or.inr;(repeat first|assumption|exact m0|apply m1);done)) List.not_mem_nil rfl) (by first | (simp [mids, It.mids, ownPc, mapPc]; done) | (intro k hk; simp [mids, It.mids, ownPc, mapPc] at hk ⊢; grind)) rfl rfl ?_
  refine SX.call rfl (next_s (p := p) (q := q) (n := n) (id := id) (stamp := stamp) (w := .pointer none) (av := av) (x := x) (by omega) (by omega)) (by simp [mids, It.mids]) Casts.refl (by kernel_rfl) rfl rfl rfl ?_
  refine After.pure (by repeat (first | exact Reads.nil | (refine Reads.blk ?_ ?_; focus ((repeat first|assumption|exact m0|apply m1); done)) | (refine Reads.rd ?_ ?_; focus ((repeat first|assumption|exact m0|apply m1); done)) | (refine Reads.pc ?_ ?_; focus ((repeat first|assumption|exact m0|apply m1); done)) | (refine Reads.rdpc ?_ ?_; focus ((repeat first|assumption|exact m0|apply m1); done)))) (fun _ => rfl) ?_
  intro _
  refine SX.val rfl (Val.neA rfl rfl (core_plains _) (core_plains _) (by kernel_rfl) (neqCo hc hd)) (by first | (simp [mids, It.mids, ownPc, mapPc]; done) | (intro k hk; simp [mids, It.mids, ownPc, mapPc] at hk ⊢; grind)) rfl rfl ?_
  refine SX.val rfl (Val.assign rfl) (by simp) rfl rfl ?_
  refine SX.nil (SE.seq ?_)
  refine SC.condP rfl ?_ ?_
  · intro hc19
    have hE : askE n id stamp x = 1 := if_neg (by simpa using hc19)
    refine SC.seq (SC.region ?_)
    refine SL.val (Val.assign rfl) rfl rfl ?_
    refine SL.val (Val.assign rfl) rfl rfl ?_
    refine SL.nil (SE.seq ?_)
    refine SC.ret ?_
    refine SE.ret ?_
    refine SE.then_ (by intro h; cases h) ?_
    have hE9 : askSE n id (CS.mk stamp none acc av) x = askE n id stamp x := rfl
    have hne : askE n id stamp x ≠ 0 := by rw [hE]; first | assumption | decide
    have hT9 : askST T n id (CS.mk stamp none acc av) x = T := if_neg (by rw [hE9]; exact hne)
    have hL9 : askSL T n id (CS.mk stamp none acc av) x = [] := if_neg (by rw [hE9]; exact hne)
    have hS9 : ∀ z, askS T n id (CS.mk stamp none acc av) x z = (CS.mk stamp none acc av) := fun z => if_neg hne
    refine SE.finC (rs := [.tmp 6, .tmp 7]) rfl (RV.tmp rfl (RV.tmp rfl RV.nil)) (Casts.nils (s := 5) Casts.refl) (0, 0, 0, 0) (by rw [hT9, hS9]; show List.Sublist [_, _, _, _] _; repeat (first | exact List.nil_sublist _ | exact List.Sublist.refl _ | apply List.Sublist.cons_cons | apply List.Sublist.cons)) askS_rids ?_
    rw [hL9, hE9, hE]
    rfl
  intro hc19
  have hx : x = nextC id stamp x := Classical.byContradiction fun h => hc19 h
  have hE : askE n id stamp x = x.check n := if_pos hx
  refine SC.skip ?_
  refine SE.inBlock ?_
  refine SE.seq ?_
  refine SC.seq ?_
  refine SC.seq ?_
  refine SC.draw [] (.q 0 (.q 1 (.q 2 (.q 3 (.q 4 (.e 5 (.q 6 .nil))))))) (by kernel_rfl) (by kernel_rfl) ?_
  refine SX.val rfl (Val.loadA tabOk rfl rfl rfl (by first|(apply Or.inl;(repeat first|assumption|exact m0|apply m1);done)|(apply Or.inr;(repeat first|assumption|exact m0|apply m1);done)) List.not_mem_nil rfl) (by first | (simp [mids, It.mids, ownPc, mapPc]; done) | (intro k hk; simp [mids, It.mids, ownPc, mapPc] at hk ⊢; grind)) rfl rfl ?_
  refine SX.val rfl (Val.move rfl) (by simp) rfl rfl ?_
  refine SX.val rfl (Val.nilCheck rfl) (by simp) rfl rfl ?_
  refine SX.val rfl (Val.fieldAddr tabOk rfl rfl rfl rfl rfl) (by simp) rfl rfl ?_
  refine SX.val rfl (Val.load1 tabOk rfl rfl (by first|(apply Or.inl;(repeat first|assumption|exact m0|apply m1);done)|(apply Or.inr;(repeat first|assumption|exact m0|apply m1);done)) List.not_mem_nil (by rfl)) (by simp) rfl rfl ?_
  refine SX.call rfl (ccheck_s (c := x) (n := n)) (by simp [mids, It.mids]) Casts.refl (by kernel_rfl) rfl rfl rfl ?_
  refine After.pure (by repeat (first | exact Reads.nil | (refine Reads.blk ?_ ?_; focus ((repeat first|assumption|exact m0|apply m1); done)) | (refine Reads.rd ?_ ?_; focus ((repeat first|assumption|exact m0|apply m1); done)) | (refine Reads.pc ?_ ?_; focus ((repeat first|assumption|exact m0|apply m1); done)) | (refine Reads.rdpc ?_ ?_; focus ((repeat first|assumption|exact m0|apply m1); done)))) (fun _ => rfl) ?_
  intro _
  refine SX.val rfl (Val.assign rfl) (by simp) rfl rfl ?_
  refine SX.nil (SE.seq ?_)
  refine SC.seq (SC.region ?_)
  refine SL.val (Val.move rfl) rfl rfl ?_
  refine SL.val (Val.neI rfl rfl) rfl rfl ?_
  refine SL.nil (SE.seq ?_)
  refine SC.condP rfl ?_ ?_
  · intro hc32
    refine SC.seq (SC.region ?_)
    refine SL.val (Val.move rfl) rfl rfl ?_
    refine SL.val (Val.assign rfl) rfl rfl ?_
    refine SL.val (Val.assign rfl) rfl rfl ?_
    refine SL.nil (SE.seq ?_)
    refine SC.ret ?_
    refine SE.then_ (by intro h; cases h) ?_
    have hE9 : askSE n id (CS.mk stamp none acc av) x = askE n id stamp x := rfl
    have hne : askE n id stamp x ≠ 0 := by rw [hE]; first | assumption | decide
    have hT9 : askST T n id (CS.mk stamp none acc av) x = T := if_neg (by rw [hE9]; exact hne)
    have hL9 : askSL T n id (CS.mk stamp none acc av) x = [] := if_neg (by rw [hE9]; exact hne)
    have hS9 : ∀ z, askS T n id (CS.mk stamp none acc av) x z = (CS.mk stamp none acc av) := fun z => if_neg hne
    refine SE.finC (rs := [.tmp 6, .tmp 7]) rfl (RV.tmp rfl (RV.tmp rfl RV.nil)) (Casts.nils (s := 5) Casts.refl) (0, 0, 0, 0) (by rw [hT9, hS9]; show List.Sublist [_, _, _, _] _; repeat (first | exact List.nil_sublist _ | exact List.Sublist.refl _ | apply List.Sublist.cons_cons | apply List.Sublist.cons)) askS_rids ?_
    rw [hL9, hE9, hE]
    rfl
  intro hc32
  have hE0 : askE n id stamp x = 0 := by rw [hE]; omega
  refine SC.skip ?_
  refine SE.seq ?_
  refine SC.seq (SC.region ?_)
  refine SL.val (Val.loadA tabOk rfl rfl rfl (by first|(apply Or.inl;(repeat first|assumption|exact m0|apply m1);done)|(apply Or.inr;(repeat first|assumption|exact m0|apply m1);done)) List.not_mem_nil rfl) rfl rfl ?_
  refine SL.val (Val.move rfl) rfl rfl ?_
  refine SL.val (Val.buildS (L := (Rq.mk x []).abs) tabOk rfl rfl rfl (by rfl)) rfl rfl ?_
  refine SL.call (ask_s (c := x) (by omega) (by omega)) Casts.refl (by kernel_rfl) rfl rfl rfl ?_
  refine After.pure (by repeat (first | exact Reads.nil | (refine Reads.blk ?_ ?_; focus ((repeat first|assumption|exact m0|apply m1); done)) | (refine Reads.rd ?_ ?_; focus ((repeat first|assumption|exact m0|apply m1); done)) | (refine Reads.pc ?_ ?_; focus ((repeat first|assumption|exact m0|apply m1); done)) | (refine Reads.rdpc ?_ ?_; focus ((repeat first|assumption|exact m0|apply m1); done)))) (fun _ => rfl) ?_
  intro _
  refine SL.val (Val.assign rfl) rfl rfl ?_
  refine SL.nil (SE.seq ?_)
  refine SC.seq (SC.region ?_)
  refine SL.val (Val.move rfl) rfl rfl ?_
  refine SL.val (Val.fieldAddr tabOk rfl rfl rfl rfl rfl) rfl rfl ?_
  refine SL.val (Val.load1 tabOk rfl rfl (by first|(apply Or.inl;(repeat first|assumption|exact m0|apply m1);done)|(apply Or.inr;(repeat first|assumption|exact m0|apply m1);done)) List.not_mem_nil (by rfl)) rfl rfl ?_
  refine SL.val (Val.nilCheck rfl) rfl rfl ?_
  refine SL.val (Val.fieldAddr tabOk rfl rfl rfl rfl rfl) rfl rfl ?_
  refine SL.eff (Eff.store tabOk rfl rfl rfl (by repeat first|assumption|exact Upd.here|apply Upd.there) (by rfl) (Nat.le_of_ble_eq_true (by rfl)) (by rfl) (by rfl)) rfl rfl ?_
  rintro _ _ ⟨rfl, rfl⟩
  refine SL.nil (SE.seq ?_)
  refine SC.seq ?_
  refine SC.known (p := p ∉ [q, bt] ∧ b4 ∉ [q, bt]) (fun _ _ h => by
      have h1 := h.mem.nodup
      simp [mids, It.mids, ownPc, mapPc] at h1 ⊢
      grind) fun hX => ?_
  refine SC.drawZ [q, bt] (.q 0 (.q 1 (.q 2 (.q 3 (.q 4 (.q 5 (.q 6 (.q 7 (.q 8 (.q 9 (.q 10 (.q 11 (.q 12 (.q 13 (.q 14 (.e 15 (.e 16 (.e 17 (.q 18 (.e 19 (.q 20 (.q 21 .nil)))))))))))))))))))))) (by kernel_rfl) (by kernel_rfl) ?_
  refine SX.val rfl (Val.move rfl) (by first | (simp [mids, It.mids, ownPc, mapPc]; done) | (intro k hk; simp [mids, It.mids, ownPc, mapPc] at hk ⊢; grind)) rfl rfl ?_
  refine SX.val rfl (Val.loadA tabOk rfl rfl rfl (by first|(apply Or.inl;(repeat first|assumption|exact m0|apply m1);done)|(apply Or.inr;(repeat first|assumption|exact m0|apply m1);done)) (by first | exact hX.1 | exact hX.2) rfl) (by first | (simp [mids, It.mids, ownPc, mapPc]; done) | (intro k hk; simp [mids, It.mids, ownPc, mapPc] at hk ⊢; grind)) rfl rfl ?_
  refine SX.val rfl (Val.move rfl) (by first | (simp [mids, It.mids, ownPc, mapPc]; done) | (intro k hk; simp [mids, It.mids, ownPc, mapPc] at hk ⊢; grind)) rfl rfl ?_
  refine SX.val rfl (Val.nilCheck rfl) (by first | (simp [mids, It.mids, ownPc, mapPc]; done) | (intro k hk; simp [mids, It.mids, ownPc, mapPc] at hk ⊢; grind)) rfl rfl ?_
  refine SX.val rfl (Val.fieldAddr tabOk rfl rfl rfl rfl rfl) (by first | (simp [mids, It.mids, ownPc, mapPc]; done) | (intro k hk; simp [mids, It.mids, ownPc, mapPc] at hk ⊢; grind)) rfl rfl ?_
  refine SX.val rfl (Val.load1 tabOk rfl rfl (by first|(apply Or.inl;(repeat first|assumption|exact m0|apply m1);done)|(apply Or.inr;(repeat first|assumption|exact m0|apply m1);done)) (by first | exact hX.1 | exact hX.2) (by rfl)) (by first | (simp [mids, It.mids, ownPc, mapPc]; done) | (intro k hk; simp [mids, It.mids, ownPc, mapPc] at hk ⊢; grind)) rfl rfl ?_
  refine SX.val rfl (Val.move rfl) (by first | (simp [mids, It.mids, ownPc, mapPc]; done) | (intro k hk; simp [mids, It.mids, ownPc, mapPc] at hk ⊢; grind)) rfl rfl ?_
  refine SX.val rfl (Val.nilCheck rfl) (by first | (simp [mids, It.mids, ownPc, mapPc]; done) | (intro k hk; simp [mids, It.mids, ownPc, mapPc] at hk ⊢; grind)) rfl rfl ?_
  refine SX.val rfl (Val.fieldAddr tabOk rfl rfl rfl rfl rfl) (by first | (simp [mids, It.mids, ownPc, mapPc]; done) | (intro k hk; simp [mids, It.mids, ownPc, mapPc] at hk ⊢; grind)) rfl rfl ?_
  refine SX.val rfl (Val.load1 tabOk rfl rfl (by first|(apply Or.inl;(repeat first|assumption|exact m0|apply m1);done)|(apply Or.inr;(repeat first|assumption|exact m0|apply m1);done)) (by first | exact hX.1 | exact hX.2) (by rfl)) (by first | (simp [mids, It.mids, ownPc, mapPc]; done) | (intro k hk; simp [mids, It.mids, ownPc, mapPc] at hk ⊢; grind)) rfl rfl ?_
  refine SX.val rfl (Val.move rfl) (by first | (simp [mids, It.mids, ownPc, mapPc]; done) | (intro k hk; simp [mids, It.mids, ownPc, mapPc] at hk ⊢; grind)) rfl rfl ?_
  refine SX.val rfl (Val.move rfl) (by first | (simp [mids, It.mids, ownPc, mapPc]; done) | (intro k hk; simp [mids, It.mids, ownPc, mapPc] at hk ⊢; grind)) rfl rfl ?_
  refine SX.val rfl (Val.nilCheck rfl) (by first | (simp [mids, It.mids, ownPc, mapPc]; done) | (intro k hk; simp [mids, It.mids, ownPc, mapPc] at hk ⊢; grind)) rfl rfl ?_
  refine SX.val rfl (Val.fieldAddr tabOk rfl rfl rfl rfl rfl) (by first | (simp [mids, It.mids, ownPc, mapPc]; done) | (intro k hk; simp [mids, It.mids, ownPc, mapPc] at hk ⊢; grind)) rfl rfl ?_
  refine SX.val rfl (Val.load1 tabOk rfl rfl (by first|(apply Or.inl;(repeat first|assumption|exact m0|apply m1);done)|(apply Or.inr;(repeat first|assumption|exact m0|apply m1);done)) (by first | exact hX.1 | exact hX.2) (by rfl)) (by first | (simp [mids, It.mids, ownPc, mapPc]; done) | (intro k hk; simp [mids, It.mids, ownPc, mapPc] at hk ⊢; grind)) rfl rfl ?_
  refine SX.call rfl (all_s (n := n)) (by simp [mids, It.mids]) Casts.refl (by kernel_rfl) rfl rfl rfl ?_
  refine After.pure (by repeat (first | exact Reads.nil | (refine Reads.blk ?_ ?_; focus ((repeat first|assumption|exact m0|apply m1); done)) | (refine Reads.rd ?_ ?_; focus ((repeat first|assumption|exact m0|apply m1); done)) | (refine Reads.pc ?_ ?_; focus ((repeat first|assumption|exact m0|apply m1); done)) | (refine Reads.rdpc ?_ ?_; focus ((repeat first|assumption|exact m0|apply m1); done)))) (fun _ => rfl) ?_
  intro _
  refine SX.call rfl (signi_s (q := q) (bd := bd) (bt := bt) (k := 1) (f := id) (body := askB x) (to := allN n) (T := T) (by omega) hn hT (by omega)) (by simp [mids, It.mids, mapPc]) Casts.refl (by kernel_rfl) rfl rfl rfl ?_
  first
    | refine After.mid [_, _, _] (β := []) rfl (by intro x hx; simp only [List.mem_cons, List.not_mem_nil, or_false] at hx; rcases hx with rfl | rfl <;> rfl) ?_
    | refine After.mid [_, _, _, _, _, _] (β := []) rfl (by intro x hx; simp only [List.mem_cons, List.not_mem_nil, or_false] at hx; rcases hx with rfl | rfl <;> rfl) ?_
  intro _
  refine SX.call rfl (er_new_s) (by simp [mids, It.mids]) Casts.refl (by kernel_rfl) rfl rfl rfl ?_
  refine After.make3 (by repeat (first | exact Reads.nil | (refine Reads.blk ?_ ?_; focus ((repeat first|assumption|exact m0|apply m1); done)) | (refine Reads.rd ?_ ?_; focus ((repeat first|assumption|exact m0|apply m1); done)) | (refine Reads.pc ?_ ?_; focus ((repeat first|assumption|exact m0|apply m1); done)) | (refine Reads.rdpc ?_ ?_; focus ((repeat first|assumption|exact m0|apply m1); done)))) (fun _ => rfl) ?_
  intro z60
  refine SX.val rfl (Val.buildS (L := wtA x (askM T n id x) z60.1) tabOk rfl rfl rfl (by rfl)) (by first | (simp [mids, It.mids, ownPc, mapPc]; done) | (intro k hk; simp [mids, It.mids, ownPc, mapPc] at hk ⊢; grind)) rfl rfl ?_
  refine SX.eff rfl (Eff.boxA (cs := wtA x (askM T n id x) z60.1) rfl) (by simp) rfl rfl ?_
  rintro _ _ ⟨b62, rfl, rfl⟩
  refine SX.val rfl (Val.nilCheck rfl) (by first | (simp [mids, It.mids, ownPc, mapPc]; done) | (intro k hk; simp [mids, It.mids, ownPc, mapPc] at hk ⊢; grind)) rfl rfl ?_
  refine SX.val rfl (Val.fieldAddr tabOk rfl rfl rfl rfl rfl) (by first | (simp [mids, It.mids, ownPc, mapPc]; done) | (intro k hk; simp [mids, It.mids, ownPc, mapPc] at hk ⊢; grind)) rfl rfl ?_
  refine SX.nil ?_
  refine SE.effZ rfl (Eff.store tabOk rfl rfl rfl (by repeat first|assumption|exact Upd.here|apply Upd.there) (by rfl) (Nat.le_of_ble_eq_true (by rfl)) (by rfl) (by rfl)) rfl rfl ?_
  rintro _ _ ⟨rfl, rfl⟩
  refine SE.seq ?_
  refine SC.seq (SC.region ?_)
  refine SL.val (Val.move rfl) rfl rfl ?_
  refine SL.call (againw_s (p := p) (q := q) (wb := b62) (t := z60.1) (n := n) (id := id) (stamp := x.stamp) (av := av) (c := x) (m := (askM T n id x))) Casts.refl (by kernel_rfl) rfl rfl rfl ?_
  refine After.pure (by repeat (first | exact Reads.nil | (refine Reads.blk ?_ ?_; focus ((repeat first|assumption|exact m0|apply m1); done)) | (refine Reads.rd ?_ ?_; focus ((repeat first|assumption|exact m0|apply m1); done)) | (refine Reads.pc ?_ ?_; focus ((repeat first|assumption|exact m0|apply m1); done)) | (refine Reads.rdpc ?_ ?_; focus ((repeat first|assumption|exact m0|apply m1); done)))) (fun _ => rfl) ?_
  intro _
  refine SL.val (Val.assign rfl) rfl rfl ?_
  refine SL.val (Val.assign rfl) rfl rfl ?_
  refine SL.nil (SE.seq ?_)
  refine SC.ret ?_
  have hE9 : askSE n id (CS.mk stamp none acc av) x = askE n id stamp x := rfl
  have hT9 : askST T n id (CS.mk stamp none acc av) x = askT T n id x := if_pos (by rw [hE9]; exact hE0)
  have hL9 : askSL T n id (CS.mk stamp none acc av) x = parcels (askM T n id x) (allN n) := if_pos (by rw [hE9]; exact hE0)
  have hS9 : ∀ z, askS T n id (CS.mk stamp none acc av) x z = ⟨x.stamp, some ⟨x, askM T n id x, [], [], z.1, z.2.1, z.2.2.1, z.2.2.2⟩, acc, av⟩ := fun z => if_pos hE0
  refine SE.perm (List.perm_append_comm_assoc [_, _] [_, _, _, _, _] [_, _]) ?_
  refine SE.fin (rs := [.tmp 6, .tmp 7]) rfl (RV.tmp rfl (RV.tmp rfl RV.nil)) (b62, z60.1, z60.2.1, z60.2.2) (by rw [hT9, hS9]; show List.Sublist [_, _, _, _, _, _, _, _] _; repeat (first | exact List.nil_sublist _ | exact List.Sublist.refl _ | apply List.Sublist.cons_cons | apply List.Sublist.cons)) askS_rids ?_
  rw [hL9, hE9, hE0]
  rfl
end
end Go.Proofs.Ytmkijjmbiiiicaa.A
/-
  The program's client as one state: what it tells; acts.
-/
set_option maxRecDepth 100000
set_option linter.unusedSimpArgs false
set_option linter.unusedVariables false
namespace Go.Proofs.Ytmkijjmbiiiicaa.A
open Go.RowKit

theorem Spec.keep {P : Program} {f : FuncId} {args : List Abs} {σ σr : Blks} {r : Abs} (h : Spec P f args σr (fun _ : Unit => []) (fun _ => r)) (hr : Reads σ σr) (hro : ∀ x ∈ σ, x.rids = []) : Spec P f args σ (fun _ : Unit => σ) (fun _ => r) := fun G w vals hm hv =>
  (h.after hm hv (After.pure hr (fun _ => rfl) (K := fun ν _ => ν = σ) (fun _ => rfl))).mono fun e w' ⟨z, u, ν, he, hx, ho, hm', hc, hr', hk⟩ => by
    subst hk
    exact ⟨(), u, he, hro, hm', hr'⟩
def Wn.none_ : Core := ⟨0, 0, 0, ⟨#[]⟩, 0, 0, ⟨#[]⟩⟩
def CS.core (s : CS) : Core := match s.wait with
  | none => Wn.none_
  | some w => w.core
/-- An act of a client's laws. -/
structure Ac where
  kind : Int
  from_ : Int
  to_ : Int
  core : Core
  reply : Rp
  msg : Msg
def Ac.abs (a : Ac) : List Abs := [int a.kind, int a.from_, int a.to_] ++ (a.core.cells.map .v ++ (a.reply.abs ++ a.msg.abs))
def Ac.few (a : Ac) : Bool := decide ((a.core.letter.size : Int) ≤ 100) && (decide ((a.core.text.size : Int) ≤ 300) && (decide ((a.msg.body.length : Int) ≤ 300) && decide ((a.msg.tags.length : Int) ≤ 20)))
theorem Ac.few_iff {a : Ac} : a.few = true ↔ a.core.letter.size ≤ 100 ∧ a.core.text.size ≤ 300 ∧ a.msg.body.length ≤ 300 ∧ a.msg.tags.length ≤ 20 := by
  unfold Ac.few
  simp only [Bool.and_eq_true, decide_eq_true_iff]
  omega
section
variable {p q bd bt : Nat} {n id : Int} {x : Core} {m : Msg} {T : List (ByteArray × Nat)} {s : CS} {a : Ac}
theorem nextS_s (h0 : s.stamp ≤ 1000000000) (h1 : 0 ≤ s.stamp) : Spec Try.prog 14 [ptr p, coreA x] (clP p q n id s) (fun _ : Unit => clP p q n id s) (fun _ => coreA (nextC id s.stamp x)) := by
  obtain ⟨stamp, wait, acc, av⟩ := s
  cases wait with
  | none => exact (next_s (p := p) (q := q) (n := n) (id := id) (stamp := stamp) (w := .pointer none) (av := av) (x := x) h0 h1).keep (by repeat (first | exact Reads.nil | (refine Reads.blk ?_ ?_; focus ((simp [clP]; done))) | (refine Reads.pc ?_ ?_; focus ((simp [clP, own]; done))))) (clP_rids _)
  | some w => exact (next_s (p := p) (q := q) (n := n) (id := id) (stamp := stamp) (w := ptrV w.wb) (av := av) (x := x) h0 h1).keep (by repeat (first | exact Reads.nil | (refine Reads.blk ?_ ?_; focus ((simp [clP]; done))) | (refine Reads.pc ?_ ?_; focus ((simp [clP, own]; done))))) (clP_rids _)
theorem waitS_s : Spec Try.prog 10 [ptr p] (clP p q n id s) (fun _ : Unit => clP p q n id s) (fun _ => .tup [coreA s.core, boo s.wait.isSome]) := by
  obtain ⟨stamp, wait, acc, av⟩ := s
  cases wait with
  | none => exact (waiting0_s (p := p) (q := q) (n := n) (id := id) (stamp := stamp) (av := av)).keep (by repeat (first | exact Reads.nil | (refine Reads.blk ?_ ?_; focus ((simp [clP]; done))) | (refine Reads.pc ?_ ?_; focus ((simp [clP, own]; done))))) (clP_rids _)
  | some w => exact (waitingw_s (p := p) (q := q) (n := n) (id := id) (stamp := stamp) (av := av) (wb := w.wb) (c := w.core) (m := w.msg) (t := w.t)).keep (by repeat (first | exact Reads.nil | (refine Reads.blk ?_ ?_; focus ((simp [clP]; done))) | (refine Reads.pc ?_ ?_; focus ((simp [clP, own]; done))))) (clP_rids _)
theorem accS_s (h : s.acc.length ≤ 1000000) : Spec Try.prog 13 [ptr p] (clP p q n id s) (fun _ : Unit => clP p q n id s) (fun _ => outA s.acc) := by
  obtain ⟨stamp, wait, acc, av⟩ := s
  cases wait with
  | none => exact (accepted_s (p := p) (q := q) (n := n) (id := id) (stamp := stamp) (w := .pointer none) (av := av) (acc := acc) h).keep (by repeat (first | exact Reads.nil | (refine Reads.blk ?_ ?_; focus ((simp [clP]; done))) | (refine Reads.pc ?_ ?_; focus ((simp [clP, own]; done))))) (clP_rids _)
  | some w => exact (accepted_s (p := p) (q := q) (n := n) (id := id) (stamp := stamp) (w := ptrV w.wb) (av := av) (acc := acc) h).keep (by repeat (first | exact Reads.nil | (refine Reads.blk ?_ ?_; focus ((simp [clP]; done))) | (refine Reads.pc ?_ ?_; focus ((simp [clP, own]; done))))) (clP_rids _)
theorem askS_s (hc : Core.ins x) (hd : Core.ins (nextC id s.stamp x)) (h1 : x.letter.size ≤ 1000) (h2 : x.text.size ≤ 1000) (hn : Num1 T) (hT : T.length ≤ 900000) (hs : 0 ≤ s.stamp ∧ s.stamp ≤ 1000000000) :
    Spec Try.prog 9 [ptr p, coreA x, .sl 2 []] (clP p q n id s ++ hidP q bd bt T) (fun z : Nat × Nat × Nat × Nat => clP p q n id (askS T n id s x z) ++ hidP q bd bt (askST T n id s x)) (fun _ => .tup [.sl 5 (askSL T n id s x), int (askSE n id s x)]) := by
  obtain ⟨stamp, wait, acc, av⟩ := s
  cases wait with
  | none => exact askn_s (p := p) (q := q) (bd := bd) (bt := bt) (n := n) (id := id) (stamp := stamp) (av := av) (x := x) (acc := acc) (T := T) hc hd h1 h2 hn hT hs
  | some w => exact askw_s (p := p) (q := q) (bd := bd) (bt := bt) (n := n) (id := id) (stamp := stamp) (av := av) (x := x) (acc := acc) (T := T) (ww := w)
theorem few31_s  : Spec Try.prog 15 [.agg a.abs] [] (fun _ : Unit => []) (fun _ => boo a.few) := by
  refine spec_of Try.func15 rfl Try.ntmps15 rfl fun G w => ?_
  refine SC.seq (SC.region ?_)
  refine SL.eff (Eff.boxA (cs := a.abs) rfl) rfl rfl ?_
  rintro _ _ ⟨b1, rfl, rfl⟩
  refine SL.val (Val.assign rfl) rfl rfl ?_
  refine SL.nil (SE.seq ?_)
  refine SC.seq (SC.region ?_)
  refine SL.val (Val.fieldAddr tabOk rfl rfl rfl rfl rfl) rfl rfl ?_
  refine SL.val (Val.fieldAddr tabOk rfl rfl rfl rfl rfl) rfl rfl ?_
  refine SL.val (Val.load1 tabOk rfl rfl (by first|(apply Or.inl;(repeat first|assumption|exact m0|apply m1);done)|(apply Or.inr;(repeat first|assumption|exact m0|apply m1);done)) List.not_mem_nil (by rfl)) rfl rfl ?_
  refine SL.val (Val.lenSt rfl Try.underlying9) rfl rfl ?_
  refine SL.val (Val.leI rfl rfl) rfl rfl ?_
  refine SL.val (Val.move rfl) rfl rfl ?_
  refine SL.bothP (t := 8) rfl ?_ ?_
  rotate_left
  · intro hc8
    iterate 5 refine SL.skip rfl rfl ?_
    refine SL.val (Val.pickF rfl rfl) rfl rfl ?_
    refine SL.val (Val.move rfl) rfl rfl ?_
    iterate 5 refine SL.skip rfl rfl ?_
    refine SL.val (Val.pickF rfl rfl) rfl rfl ?_
    refine SL.val (Val.move rfl) rfl rfl ?_
    iterate 5 refine SL.skip rfl rfl ?_
    refine SL.val (Val.pickF rfl rfl) rfl rfl ?_
    refine SL.val (Val.assign rfl) rfl rfl ?_
    refine SL.nil (SE.seq ?_)
    refine SC.ret ?_
    refine SE.fin (rs := [.tmp 2]) rfl (RV.tmp rfl RV.nil) (()) (by repeat first|exact s0 _|exact s1 _|apply s2|apply s3) (by simp [It.rids]) ?_
    refine congrArg (fun b => Abs.v (Value.bool b)) ?_
    unfold Ac.few
    first
      | (simp only [hc8, hc15, hc22, decide_true, decide_false, Bool.true_and, Bool.false_and]; done)
      | (simp only [hc8, hc15, decide_true, decide_false, Bool.true_and, Bool.false_and]; done)
      | (simp only [hc8, decide_true, decide_false, Bool.true_and, Bool.false_and]; done)
  intro hc8
  refine SL.val (Val.fieldAddr tabOk rfl rfl rfl rfl rfl) rfl rfl ?_
  refine SL.val (Val.fieldAddr tabOk rfl rfl rfl rfl rfl) rfl rfl ?_
  refine SL.val (Val.load1 tabOk rfl rfl (by first|(apply Or.inl;(repeat first|assumption|exact m0|apply m1);done)|(apply Or.inr;(repeat first|assumption|exact m0|apply m1);done)) List.not_mem_nil (by rfl)) rfl rfl ?_
  refine SL.val (Val.lenSt rfl Try.underlying9) rfl rfl ?_
  refine SL.val (Val.leI rfl rfl) rfl rfl ?_
  refine SL.val (Val.pickT rfl rfl) rfl rfl ?_
  refine SL.val (Val.move rfl) rfl rfl ?_
  refine SL.bothP (t := 15) rfl ?_ ?_
  rotate_left
  · intro hc15
    iterate 5 refine SL.skip rfl rfl ?_
    refine SL.val (Val.pickF rfl rfl) rfl rfl ?_
    refine SL.val (Val.move rfl) rfl rfl ?_
    iterate 5 refine SL.skip rfl rfl ?_
    refine SL.val (Val.pickF rfl rfl) rfl rfl ?_
    refine SL.val (Val.assign rfl) rfl rfl ?_
    refine SL.nil (SE.seq ?_)
    refine SC.ret ?_
    refine SE.fin (rs := [.tmp 2]) rfl (RV.tmp rfl RV.nil) (()) (by repeat first|exact s0 _|exact s1 _|apply s2|apply s3) (by simp [It.rids]) ?_
    refine congrArg (fun b => Abs.v (Value.bool b)) ?_
    unfold Ac.few
    first
      | (simp only [hc8, hc15, hc22, decide_true, decide_false, Bool.true_and, Bool.false_and]; done)
      | (simp only [hc8, hc15, decide_true, decide_false, Bool.true_and, Bool.false_and]; done)
      | (simp only [hc8, decide_true, decide_false, Bool.true_and, Bool.false_and]; done)
  intro hc15
  refine SL.val (Val.fieldAddr tabOk rfl rfl rfl rfl rfl) rfl rfl ?_
  refine SL.val (Val.fieldAddr tabOk rfl rfl rfl rfl rfl) rfl rfl ?_
  refine SL.val (Val.load1 tabOk rfl rfl (by first|(apply Or.inl;(repeat first|assumption|exact m0|apply m1);done)|(apply Or.inr;(repeat first|assumption|exact m0|apply m1);done)) List.not_mem_nil (by rfl)) rfl rfl ?_
  first
    | refine SL.val (Val.lenSl rfl Try.underlying37 (List.length_map _)) rfl rfl ?_
    | refine SL.val (Val.lenOwn rfl (by repeat first|assumption|exact m0|apply m1) Try.underlying37 (List.length_map _)) rfl rfl ?_
    | refine SL.val (Val.lenNil rfl Try.underlying37) rfl rfl ?_
  refine SL.val (Val.leI rfl rfl) rfl rfl ?_
  refine SL.val (Val.pickT rfl rfl) rfl rfl ?_
  refine SL.val (Val.move rfl) rfl rfl ?_
  refine SL.bothP (t := 22) rfl ?_ ?_
  rotate_left
  · intro hc22
    iterate 5 refine SL.skip rfl rfl ?_
    refine SL.val (Val.pickF rfl rfl) rfl rfl ?_
    refine SL.val (Val.assign rfl) rfl rfl ?_
    refine SL.nil (SE.seq ?_)
    refine SC.ret ?_
    refine SE.fin (rs := [.tmp 2]) rfl (RV.tmp rfl RV.nil) (()) (by repeat first|exact s0 _|exact s1 _|apply s2|apply s3) (by simp [It.rids]) ?_
    refine congrArg (fun b => Abs.v (Value.bool b)) ?_
    unfold Ac.few
    first
      | (simp only [hc8, hc15, hc22, decide_true, decide_false, Bool.true_and, Bool.false_and]; done)
      | (simp only [hc8, hc15, decide_true, decide_false, Bool.true_and, Bool.false_and]; done)
      | (simp only [hc8, decide_true, decide_false, Bool.true_and, Bool.false_and]; done)
  intro hc22
  refine SL.val (Val.fieldAddr tabOk rfl rfl rfl rfl rfl) rfl rfl ?_
  refine SL.val (Val.fieldAddr tabOk rfl rfl rfl rfl rfl) rfl rfl ?_
  refine SL.val (Val.load1 tabOk rfl rfl (by first|(apply Or.inl;(repeat first|assumption|exact m0|apply m1);done)|(apply Or.inr;(repeat first|assumption|exact m0|apply m1);done)) List.not_mem_nil (by rfl)) rfl rfl ?_
  first
    | refine SL.val (Val.lenSl rfl Try.underlying38 (List.length_map _)) rfl rfl ?_
    | refine SL.val (Val.lenOwn rfl (by repeat first|assumption|exact m0|apply m1) Try.underlying38 (List.length_map _)) rfl rfl ?_
    | refine SL.val (Val.lenNil rfl Try.underlying38) rfl rfl ?_
  refine SL.val (Val.leI rfl rfl) rfl rfl ?_
  refine SL.val (Val.pickT rfl rfl) rfl rfl ?_
  refine SL.val (Val.assign rfl) rfl rfl ?_
  refine SL.nil (SE.seq ?_)
  refine SC.ret ?_
  refine SE.fin (rs := [.tmp 2]) rfl (RV.tmp rfl RV.nil) (()) (by repeat first|exact s0 _|exact s1 _|apply s2|apply s3) (by simp [It.rids]) ?_
  refine congrArg (fun b => Abs.v (Value.bool b)) ?_
  unfold Ac.few
  first
    | (simp only [hc8, hc15, hc22, decide_true, decide_false, Bool.true_and, Bool.false_and]; done)
    | (simp only [hc8, hc15, decide_true, decide_false, Bool.true_and, Bool.false_and]; done)
    | (simp only [hc8, decide_true, decide_false, Bool.true_and, Bool.false_and]; done)
end
end Go.Proofs.Ytmkijjmbiiiicaa.A
/-
  Clients, plain: what stays true from act to act (the program's own calls).
-/
set_option maxRecDepth 100000
set_option linter.unusedSimpArgs false
set_option linter.unusedVariables false
namespace Go.Proofs.Ytmkijjmbiiiicaa.A
open Go.RowKit

theorem TInv.add' {α : Type} [DecidableEq α] {m : List (Int × α)} {c : List (α × Nat)} (h : TInv m c) (who : Int) (k : α) : TInv (tAddM m who k) (tAddC m c who k) := by
  cases hv : aget m who with
  | none => rw [tAddM_new hv, tAddC_new hv]; exact h.chg who k
  | some v => rw [tAddM_old hv, tAddC_old hv]; exact h
theorem aget_tAddM {m : List (Int × Int)} {who k w : Int} : aget (tAddM m who k) w = if w = who ∧ aget m who = none then some k else aget m w := by
  cases hv : aget m who with
  | none =>
    rw [tAddM_new hv, aget_aput]
    by_cases h : w = who
    · rw [if_pos h, if_pos ⟨h, rfl⟩]
    · rw [if_neg h, if_neg (fun h2 => h h2.1)]
  | some v => rw [tAddM_old hv, if_neg (fun h2 => by cases h2.2)]
section
variable {T : List (ByteArray × Nat)} {n id stamp : Int} {m : Msg} {M : List (Int × Int)} {K : List (Int × Nat)}
theorem Votes.nil {n : Int} : Votes n [] [] := ⟨TInv.nil, by simp, by simp [aget]⟩
theorem Votes.recv (h : Votes n M K) : Votes n (recvM T n id stamp M m) (recvC T n id stamp M K m) := by
  by_cases h0 : (readR T n id stamp true m).2 ≠ 0
  · unfold recvM recvC
    rw [if_pos h0, if_pos h0]
    exact h
  · have hr := readR_ok (show (readR T n id stamp true m).2 = 0 by omega)
    have hn := hr.nums
    unfold recvM recvC
    rw [if_neg h0, if_neg h0]
    refine ⟨h.inv.add' _ _, fun w hw => ?_, fun w v hv => ?_⟩
    · rw [← aget_isSome, aget_tAddM] at hw
      split at hw
      · next h2 => rw [h2.1]; exact ⟨hr.lo, hr.hi⟩
      · exact h.who w ((aget_isSome _ _).1 hw)
    · rw [aget_tAddM] at hv
      split at hv
      · cases hv; exact hn.2
      · exact h.what w v hv
end
/-- What stays true of a client that asks its next, one behind the other: 'asked' times it was well. -/
structure COnce (n id : Int) (k : Nat) (asked : Nat) (s : CS) (T : List (ByteArray × Nat)) : Prop where
  stamp : s.stamp = asked
  few : asked ≤ k
  accs : ∀ (i : Nat) (h : i < s.acc.length), (s.acc[i]).client = id ∧ (s.acc[i]).stamp = (i : Nat) + 1
  idle : s.wait = none → s.acc.length = asked
  busy : ∀ w, s.wait = some w → s.acc.length + 1 = asked ∧ w.core.stamp = asked ∧ Votes n w.m w.c
  num : Num1 T
  tags : T.length ≤ 8 * k
theorem COnce.start {n id : Int} (av : Value) : COnce n id 0 0 ⟨0, none, [], av⟩ [] := ⟨rfl, Nat.le_refl _, fun i h => by simp at h, fun _ => rfl, by simp, Num1.nil, Nat.le_refl _⟩
theorem COnce.ok {n id : Int} {k asked : Nat} {s : CS} {T : List (ByteArray × Nat)} (h : COnce n id k asked s T) (hk : k ≤ 900) : CSOk n s := by
  refine ⟨fun w hw => (h.busy w hw).2.2, ?_⟩
  have h1 := h.few
  cases hw : s.wait with
  | none => have := h.idle hw; omega
  | some w => have := (h.busy w hw).1; omega
theorem COnce.ask {n id : Int} {k asked : Nat} {s : CS} {T : List (ByteArray × Nat)} (h : COnce n id k asked s T) (x : Core) (z : Nat × Nat × Nat × Nat) :
    COnce n id (k + 1) (if askSE n id s (nextC id s.stamp x) = 0 then asked + 1 else asked) (askS T n id s (nextC id s.stamp x) z) (askST T n id s (nextC id s.stamp x)) := by
  have hl := allN_le n
  obtain ⟨stamp, wait, acc, av⟩ := s
  have hst : stamp = asked := h.stamp
  have hT : COnce n id (k + 1) asked ⟨stamp, wait, acc, av⟩ T := ⟨h.stamp, by have := h.few; omega, h.accs, h.idle, h.busy, h.num, by have := h.tags; omega⟩
  by_cases he : askSE n id ⟨stamp, wait, acc, av⟩ (nextC id stamp x) = 0
  · cases wait with
    | some w => exact absurd he (by show ¬ (15 : Int) = 0; decide)
    | none =>
      have he2 : askE n id stamp (nextC id stamp x) = 0 := he
      have hS : askS T n id ⟨stamp, none, acc, av⟩ (nextC id stamp x) z = ⟨stamp + 1, some ⟨nextC id stamp x, askM T n id (nextC id stamp x), [], [], z.1, z.2.1, z.2.2.1, z.2.2.2⟩, acc, av⟩ := if_pos he2
      have hTT : askST T n id ⟨stamp, none, acc, av⟩ (nextC id stamp x) = askT T n id (nextC id stamp x) := if_pos he
      rw [if_pos he, hS, hTT]
      refine ⟨by show stamp + 1 = ((asked + 1 : Nat) : Int); omega, by have := h.few; omega, h.accs, by simp, fun w hw => ?_, tmG_num h.num _ _, ?_⟩
      · cases hw
        exact ⟨by have := h.idle rfl; show acc.length + 1 = asked + 1; simp only at this; omega, by show stamp + 1 = ((asked + 1 : Nat) : Int); omega, Votes.nil⟩
      · have h1 := tmG_len (gI id (textV 1 (askB (nextC id stamp x)))) T (allN n)
        have h2 := h.tags
        show (tmG _ _ _).length ≤ _
        omega
  · have hS : askS T n id ⟨stamp, wait, acc, av⟩ (nextC id stamp x) z = ⟨stamp, wait, acc, av⟩ := by
      cases wait with
      | some w => rfl
      | none => exact if_neg he
    have hTT : askST T n id ⟨stamp, wait, acc, av⟩ (nextC id stamp x) = T := if_neg he
    rw [if_neg he, hS, hTT]
    exact hT
theorem COnce.recv {n id : Int} {k asked : Nat} {s : CS} {T : List (ByteArray × Nat)} (h : COnce n id k asked s T) (m : Msg) (z : Value) : COnce n id k asked (recvS T n id s m z) T := by
  obtain ⟨stamp, wait, acc, av⟩ := s
  cases wait with
  | none => exact h
  | some w =>
    have hb := h.busy w rfl
    have hb1 : acc.length + 1 = asked := hb.1
    have hst : stamp = asked := h.stamp
    by_cases hD : recvD T n id stamp w.m w.c m = true
    · have hS : recvS T n id ⟨stamp, some w, acc, av⟩ m z = ⟨stamp, none, acc ++ [Oc.mk id (readR T n id stamp true m).1.stamp (readR T n id stamp true m).1.result], z⟩ := if_pos hD
      rw [hS]
      have h0 : (readR T n id stamp true m).2 = 0 := by
        by_cases h1 : (readR T n id stamp true m).2 = 0
        · exact h1
        · rw [(recv_bad (M := w.m) (K := w.c) h1).2.2.2] at hD; cases hD
      have hr := readR_ok h0
      have hs2 : (readR T n id stamp true m).1.stamp = stamp := by rw [hr.val]; exact hr.stamp
      refine ⟨h.stamp, h.few, fun i hi => ?_, fun _ => by show (acc ++ [_]).length = asked; simp; omega, by simp, h.num, h.tags⟩
      have hi' : i < acc.length + 1 := by simpa using hi
      by_cases h2 : i < acc.length
      · have := h.accs i h2
        simp only [List.getElem_append_left h2]
        exact this
      · obtain rfl : i = acc.length := by omega
        simp only [List.getElem_append_right (Nat.le_refl _), Nat.sub_self, List.getElem_cons_zero]
        exact ⟨trivial, by rw [hs2, hst]; omega⟩
    · have hS : recvS T n id ⟨stamp, some w, acc, av⟩ m z = ⟨stamp, some { w with m := recvM T n id stamp w.m m, c := recvC T n id stamp w.m w.c m }, acc, z⟩ := if_neg hD
      rw [hS]
      refine ⟨h.stamp, h.few, h.accs, by simp, fun v hv => ?_, h.num, h.tags⟩
      cases hv
      exact ⟨hb1, hb.2.1, hb.2.2.recv⟩
theorem COnce.more {n id : Int} {k asked : Nat} {s : CS} {T : List (ByteArray × Nat)} (h : COnce n id k asked s T) (g : Int → ByteArray) (b : Int) : COnce n id (k + 1) asked s (tmG g T [b]) :=
  ⟨h.stamp, by have := h.few; omega, h.accs, h.idle, h.busy, tmG_num h.num _ _, by
    have h1 := tmG_len g T [b]
    have h2 := h.tags
    simp only [List.length_singleton] at h1
    omega⟩
/-- A reply just said is well said. -/
theorem chk_said (T : List (ByteArray × Nat)) (a b : Int) (body : List UInt8) : chkMI (tmG (gI a (textV 12 body)) T [b]) ⟨12, a, body, tagsG (gI a (textV 12 body)) T [b]⟩ 0 b = 0 := by
  have e : tmG (gI a (textV 12 body)) T [b] = pm T (gI a (textV 12 body) b) := rfl
  unfold chkMI
  rw [if_neg (by simp [tagsG]), if_pos]
  rw [e]
  have h1 := hasK_pm (T := T) (k := gI a (textV 12 body) b) (gI a (textV 12 body) b)
  rw [decide_eq_true rfl, Bool.true_or] at h1
  unfold hasK at h1
  rw [Bool.and_eq_true]
  refine ⟨h1, decide_eq_true ?_⟩
  rfl
end Go.Proofs.Ytmkijjmbiiiicaa.A
/-
  The program's client as one state: Receive, whole.
-/
set_option maxRecDepth 100000
set_option linter.unusedSimpArgs false
set_option linter.unusedVariables false
namespace Go.Proofs.Ytmkijjmbiiiicaa.A
open Go.RowKit

theorem Spec.withR {P : Program} {f : FuncId} {args : List Abs} {α ys : Blks} {ι : Type} {τ : ι → Blks} {res : ι → Abs} (h : Spec P f args (α ++ ys.map It.toRd) τ res) (hα : ∀ x ∈ α, x.rids = []) (hτ : ∀ z, ∀ x ∈ τ z ++ ys, x.rids = []) : Spec P f args (α ++ ys) (fun z => τ z ++ ys) res := fun G w vals hm hv => by
  have hsp : Split (α ++ ys) (α ++ ys.map It.toRd) ys := by
    refine ⟨?_, fun x hx => ?_, fun x hx => List.mem_append_right _ hx⟩
    · have h0 : mids (ys.map It.toRd) = [] := by
        unfold mids
        simp [List.flatMap_map, toRd_mids]
      rw [mids_append, mids_append, h0, List.append_nil]
    · rcases List.mem_append.1 hx with hx | hx
      · exact .inl ⟨List.mem_append_left _ hx, hα x hx⟩
      · obtain ⟨y, hy, rfl⟩ := List.mem_map.1 hx
        exact .inr ⟨y, hy, rfl⟩
  refine (h.after hm hv (K := fun ν z => ν = τ z ++ ys) ⟨ys, hsp, fun z => ⟨_, List.Perm.refl _, rfl⟩⟩).mono fun e w' ⟨z, u, ν, he, hx, ho, hm', hc, hr', hk⟩ => ?_
  subst hk
  exact ⟨z, u, he, hτ z, hm', hr'⟩
theorem ac_core (a : Ac) : A.part a.abs 3 7 = a.core.cells.map .v := rfl
theorem ac_reply (a : Ac) : A.part a.abs 10 4 = a.reply.abs := rfl
section
variable {p q bd bt : Nat} {n id : Int} {x : Core} {m : Msg} {T : List (ByteArray × Nat)} {s : CS} {a : Ac}
theorem recvF_s (hl : m.body.length ≤ 100000) (hn : Num1 T) (hT : T.length < 1000000) (hs : CSOk n s) (h7 : 1 ≤ n ∧ n ≤ 7) : Spec Try.prog 11 [ptr p, .agg m.abs] (clP p q n id s ++ hidP q bd bt T) (fun z : Value => clP p q n id (recvS T n id s m z) ++ hidP q bd bt T) (fun _ => int (recvSE T n id s m)) :=
  Spec.withR (ys := hidP q bd bt T) (recv_s (p := p) (q := q) (bd := bd) (bt := bt) (id := id) hl hn hT hs h7) (clP_rids _) (fun z => askS_rids)
end
end Go.Proofs.Ytmkijjmbiiiicaa.A
/-
  ClientOnce: the walk.
-/
set_option maxRecDepth 100000
set_option linter.unusedSimpArgs false
set_option linter.unusedVariables false
namespace Go.Proofs.Ytmkijjmbiiiicaa.A
open Go.RowKit

def actsA (l : List Ac) : Abs := .sl 18 (l.map Ac.abs)
structure OnceOk (l : List Ac) (y : Nat × Nat × CS × List (ByteArray × Nat)) : Prop where
  le : y.1 ≤ l.length
  once : COnce 4 4 y.1 y.2.1 y.2.2.1 y.2.2.2
section
variable {l : List Ac}
end
end Go.Proofs.Ytmkijjmbiiiicaa.A
/-
  Clients, plain: the calls whose answers the document fixes.
-/
set_option maxRecDepth 100000
set_option linter.unusedSimpArgs false
set_option linter.unusedVariables false
namespace Go.Proofs.Ytmkijjmbiiiicaa.A
open Go.RowKit

def x31 : Core := ⟨5, 1, 1, ⟨#[97]⟩, 0, 0, ⟨#[]⟩⟩
def r31 : Rp := ⟨0, 5, 1, 0⟩
theorem x31_ask : askE 4 5 0 x31 = 0 := (if_pos rfl).trans (by kernel_rfl)
theorem r31_parse : parseR r31.bytes 4 = (r31, 0) := by kernel_rfl
def m31 (T : List (ByteArray × Nat)) (a : Int) : Msg := ⟨12, a, r31.bytes, tagsG (gI a (textV 12 r31.bytes)) T [5]⟩
def t31 (T : List (ByteArray × Nat)) (a : Int) : List (ByteArray × Nat) := tmG (gI a (textV 12 r31.bytes)) T [5]
theorem r31_read (T : List (ByteArray × Nat)) (a : Int) (h : 0 ≤ a ∧ a < 4) : readR (t31 T a) 4 5 1 true (m31 T a) = (r31, 0) := by
  have h1 := chk_said T a 5 r31.bytes
  have h2 : parseR (m31 T a).body 4 = (r31, 0) := r31_parse
  unfold readR
  rw [if_neg (by show ¬ ((12 : Int) ≠ 12 ∨ a < 0 ∨ 4 ≤ a); omega), if_neg (fun h3 => h3 h1), h2]
  rfl
theorem recv31a (T : List (ByteArray × Nat)) : recvE (t31 T 0) 4 5 1 [] (m31 T 0) = 0 ∧ recvM (t31 T 0) 4 5 1 [] (m31 T 0) = [(0, 0)] ∧ recvC (t31 T 0) 4 5 1 [] [] (m31 T 0) = [(0, 1)] ∧ recvD (t31 T 0) 4 5 1 [] [] (m31 T 0) = false := by
  have h := r31_read T 0 (by decide)
  obtain ⟨h1, h2, h3, h4⟩ := recv_new (T := t31 T 0) (n := 4) (id := 5) (stamp := 1) (m := m31 T 0) (M := []) (K := []) (by rw [h]) rfl
  rw [h] at h2 h3 h4
  refine ⟨h1, h2.trans rfl, h3.trans rfl, h4.trans ?_⟩
  exact decide_eq_false (by show ¬ ((max (4 : Int) 1 - 1) / 3 < ((cget (tAddC ([] : List (Int × Int)) [] 0 0) 0 : Nat) : Int)); decide)
theorem recv31b (T : List (ByteArray × Nat)) : recvE (t31 T 2) 4 5 1 [(0, 0)] (m31 T 2) = 0 ∧ recvD (t31 T 2) 4 5 1 [(0, 0)] [(0, 1)] (m31 T 2) = true := by
  have h := r31_read T 2 (by decide)
  obtain ⟨h1, h2, h3, h4⟩ := recv_new (T := t31 T 2) (n := 4) (id := 5) (stamp := 1) (m := m31 T 2) (M := [(0, 0)]) (K := [(0, 1)]) (by rw [h]) rfl
  rw [h] at h4
  exact ⟨h1, h4.trans (decide_eq_true (by show (max (4 : Int) 1 - 1) / 3 < ((cget (tAddC ([(0, 0)] : List (Int × Int)) [(0, 1)] 2 0) 0 : Nat) : Int); decide))⟩
end Go.Proofs.Ytmkijjmbiiiicaa.A
/-
  Clients: the calls that the document fixes.
-/
set_option maxRecDepth 100000
set_option linter.unusedSimpArgs false
set_option linter.unusedVariables false
namespace Go.Proofs.Ytmkijjmbiiiicaa.A
open Go.RowKit

def s31 : CS := ⟨0, none, [], .slice none 0 0⟩
noncomputable def T31 : List (ByteArray × Nat) := askT [] 4 5 x31
def s31a (z : Nat × Nat × Nat × Nat) : CS := ⟨1, some ⟨x31, askM [] 4 5 x31, [], [], z.1, z.2.1, z.2.2.1, z.2.2.2⟩, [], .slice none 0 0⟩
def s31b (z : Nat × Nat × Nat × Nat) (v : Value) : CS := ⟨1, some ⟨x31, askM [] 4 5 x31, [(0, 0)], [(0, 1)], z.1, z.2.1, z.2.2.1, z.2.2.2⟩, [], v⟩
def s31c (v : Value) : CS := ⟨1, none, [⟨5, 1, 0⟩], v⟩
theorem T31_num : Num1 T31 := tmG_num Num1.nil _ _
theorem T31_len : T31.length ≤ 100 := by
  have h1 := tmG_len (gI 5 (textV 1 (askB x31))) [] (allN 4)
  have h2 := allN_le 4
  simp only [List.length_nil] at h1
  show (tmG _ _ _).length ≤ _
  omega
theorem t31_len (T : List (ByteArray × Nat)) (a : Int) : (t31 T a).length ≤ T.length + 1 := tmG_len _ T [5]
theorem t31_num {T : List (ByteArray × Nat)} (h : Num1 T) (a : Int) : Num1 (t31 T a) := tmG_num h _ _
theorem x31_ins : Core.ins x31 := by
  refine ⟨?_, ?_, ?_, ?_, ?_, by decide, by decide⟩ <;> (simp only [InR, lo, hi, x31]; omega)
section
variable {p q bd bt : Nat} {z : Nat × Nat × Nat × Nat} {v : Value} {T : List (ByteArray × Nat)}
theorem ask31_s : Spec Try.prog 9 [ptr p, coreA x31, .sl 2 []] (clP p q 4 5 s31 ++ hidP q bd bt []) (fun z : Nat × Nat × Nat × Nat => clP p q 4 5 (s31a z) ++ hidP q bd bt T31) (fun _ => .tup [.sl 5 (parcels (askM [] 4 5 x31) (allN 4)), int 0]) := by
  have h := askS_s (p := p) (q := q) (bd := bd) (bt := bt) (n := 4) (id := 5) (s := s31) (x := x31) (T := []) x31_ins x31_ins (by decide) (by decide) Num1.nil (by simp) (by decide)
  have e0 : askSE 4 5 s31 x31 = 0 := x31_ask
  have e1 : (fun z : Nat × Nat × Nat × Nat => clP p q 4 5 (askS [] 4 5 s31 x31 z) ++ hidP q bd bt (askST [] 4 5 s31 x31)) = fun z => clP p q 4 5 (s31a z) ++ hidP q bd bt T31 := by
    funext z
    rw [show askS [] 4 5 s31 x31 z = s31a z from if_pos x31_ask, show askST [] 4 5 s31 x31 = T31 from if_pos e0]
  rw [e1, e0, show askSL [] 4 5 s31 x31 = parcels (askM [] 4 5 x31) (allN 4) from if_pos e0] at h
  exact h
theorem rcv31a_s (hn : Num1 T) (hT : T.length ≤ 1000) : Spec Try.prog 11 [ptr p, .agg (m31 T 0).abs] (clP p q 4 5 (s31a z) ++ hidP q bd bt (t31 T 0)) (fun v : Value => clP p q 4 5 (s31b z v) ++ hidP q bd bt (t31 T 0)) (fun _ => int 0) := by
  have hl := t31_len T 0
  have h := recvF_s (p := p) (q := q) (bd := bd) (bt := bt) (n := 4) (id := 5) (s := s31a z) (m := m31 T 0) (T := t31 T 0) (by show r31.bytes.length ≤ _; rw [Rp.bytes_length]; omega) (t31_num hn 0) (by omega) ⟨fun w hw => by cases hw; exact Votes.nil, by show ([] : List Oc).length ≤ _; decide⟩ (by decide)
  obtain ⟨h1, h2, h3, h4⟩ := recv31a T
  have e1 : (fun v : Value => clP p q 4 5 (recvS (t31 T 0) 4 5 (s31a z) (m31 T 0) v) ++ hidP q bd bt (t31 T 0)) = fun v => clP p q 4 5 (s31b z v) ++ hidP q bd bt (t31 T 0) := by
    funext v
    have e : recvS (t31 T 0) 4 5 (s31a z) (m31 T 0) v = s31b z v := by
      refine (if_neg (by show ¬ recvD (t31 T 0) 4 5 1 [] [] (m31 T 0) = true; rw [h4]; decide)).trans ?_
      show CS.mk 1 (some ⟨x31, askM [] 4 5 x31, recvM (t31 T 0) 4 5 1 [] (m31 T 0), recvC (t31 T 0) 4 5 1 [] [] (m31 T 0), _, _, _, _⟩) [] v = _
      rw [h2, h3]
      rfl
    rw [e]
  rw [e1, show recvSE (t31 T 0) 4 5 (s31a z) (m31 T 0) = 0 from h1] at h
  exact h
theorem votes31 : Votes 4 [(0, 0)] [((0 : Int), 1)] := by
  have h := recv31a []
  have hv := (Votes.nil (n := 4)).recv (T := t31 [] 0) (id := 5) (stamp := 1) (m := m31 [] 0)
  rw [h.2.1, h.2.2.1] at hv
  exact hv
theorem rcv31b_s (hn : Num1 T) (hT : T.length ≤ 1000) : Spec Try.prog 11 [ptr p, .agg (m31 T 2).abs] (clP p q 4 5 (s31b z v) ++ hidP q bd bt (t31 T 2)) (fun v : Value => clP p q 4 5 (s31c v) ++ hidP q bd bt (t31 T 2)) (fun _ => int 0) := by
  have hl := t31_len T 2
  have h := recvF_s (p := p) (q := q) (bd := bd) (bt := bt) (n := 4) (id := 5) (s := s31b z v) (m := m31 T 2) (T := t31 T 2) (by show r31.bytes.length ≤ _; rw [Rp.bytes_length]; omega) (t31_num hn 2) (by omega) ⟨fun w hw => by cases hw; exact votes31, by show ([] : List Oc).length ≤ _; decide⟩ (by decide)
  obtain ⟨h1, h4⟩ := recv31b T
  have e1 : (fun u : Value => clP p q 4 5 (recvS (t31 T 2) 4 5 (s31b z v) (m31 T 2) u) ++ hidP q bd bt (t31 T 2)) = fun u => clP p q 4 5 (s31c u) ++ hidP q bd bt (t31 T 2) := by
    funext u
    have e : recvS (t31 T 2) 4 5 (s31b z v) (m31 T 2) u = s31c u := by
      refine (if_pos h4).trans ?_
      rw [r31_read T 2 (by decide)]
      rfl
    rw [e]
  rw [e1, show recvSE (t31 T 2) 4 5 (s31b z v) (m31 T 2) = 0 from h1] at h
  exact h
end
set_option maxHeartbeats 8000000 in
theorem fixed31_s  : Spec Try.prog 6 [] [] (fun _ : Unit => []) (fun _ => boo true) := by
  refine spec_of Try.func6 rfl Try.ntmps6 rfl fun G w => ?_
  refine SC.seq (SC.region ?_)
  refine SL.val (Val.assign rfl) rfl rfl ?_
  refine SL.nil (SE.seq ?_)
  refine SC.seq (SC.region ?_)
  refine SL.call (inew_s) Casts.refl (by kernel_rfl) rfl rfl rfl ?_
  refine After.make3 (by repeat (first | exact Reads.nil | (refine Reads.blk ?_ ?_; focus ((repeat first|assumption|exact m0|apply m1); done)) | (refine Reads.rd ?_ ?_; focus ((repeat first|assumption|exact m0|apply m1); done)) | (refine Reads.pc ?_ ?_; focus ((repeat first|assumption|exact m0|apply m1); done)) | (refine Reads.rdpc ?_ ?_; focus ((repeat first|assumption|exact m0|apply m1); done)))) (fun _ => rfl) ?_
  intro z0
  refine SL.val (Val.assign rfl) rfl rfl ?_
  refine SL.nil (SE.seq ?_)
  refine SC.seq (SC.region ?_)
  refine SL.val (Val.move rfl) rfl rfl ?_
  refine SL.val (Val.makeIface rfl (fun _ _ => by kernel_rfl)) rfl rfl ?_
  refine SL.call (new_s (q := z0.1) (n := 4) (id := 5) (by decide) (by decide)) Casts.refl (by kernel_rfl) rfl rfl rfl ?_
  refine After.make2 (by repeat (first | exact Reads.nil | (refine Reads.blk ?_ ?_; focus ((repeat first|assumption|exact m0|apply m1); done)) | (refine Reads.rd ?_ ?_; focus ((repeat first|assumption|exact m0|apply m1); done)) | (refine Reads.pc ?_ ?_; focus ((repeat first|assumption|exact m0|apply m1); done)) | (refine Reads.rdpc ?_ ?_; focus ((repeat first|assumption|exact m0|apply m1); done)))) (fun _ => rfl) ?_
  intro z1
  refine SL.val (Val.assign rfl) rfl rfl ?_
  refine SL.nil (SE.seq ?_)
  refine SC.seq ?_
  refine SC.to (T' := St _ _ (clP z1 z0.1 4 5 (s31) ++ hidP z0.1 z0.2.1 z0.2.2 ([])) _) (fun a w h => h.less (by show List.Sublist [_, _, _, _] [_, _, _, _, _]; repeat (first | exact List.nil_sublist _ | exact List.Sublist.refl _ | apply List.Sublist.cons_cons | apply List.Sublist.cons))) ?_
  refine SC.region ?_
  refine SL.val (Val.move rfl) rfl rfl ?_
  refine SL.val (Val.move rfl) rfl rfl ?_
  refine SL.val (Val.buildS (L := (Core.cells ⟨0, 0, 1, ⟨#[97]⟩, 0, 0, ⟨#[]⟩⟩).map .v) tabOk rfl rfl rfl (by rfl)) rfl rfl ?_
  refine SL.call (nextS_s (p := z1) (q := z0.1) (n := 4) (id := 5) (s := s31) (x := ⟨0, 0, 1, ⟨#[97]⟩, 0, 0, ⟨#[]⟩⟩) (by decide) (by decide)) Casts.refl (by kernel_rfl) rfl rfl rfl ?_
  refine After.mid [] (β := hidP z0.1 z0.2.1 z0.2.2 ([])) rfl (clP_rids _) ?_
  intro _
  refine SL.call (ask31_s (p := z1) (q := z0.1) (bd := z0.2.1) (bt := z0.2.2)) (Casts.keep (Casts.keep (Casts.nils (s := 2) Casts.refl))) (by kernel_rfl) rfl rfl rfl ?_
  refine After.mid [] (β := []) (by first | rfl | (simp; done) | (simp [hidP]; done)) askS_rids ?_
  intro za
  refine SL.val (Val.move rfl) rfl rfl ?_
  refine SL.val (Val.extract rfl rfl) rfl rfl ?_
  refine SL.val (Val.extract rfl rfl) rfl rfl ?_
  refine SL.val (Val.assign rfl) rfl rfl ?_
  refine SL.val (Val.assign rfl) rfl rfl ?_
  refine SL.nil (SE.seq ?_)
  refine SC.seq (SC.region ?_)
  refine SL.val (Val.move rfl) rfl rfl ?_
  refine SL.val (Val.move rfl) rfl rfl ?_
  refine SL.val (Val.buildS (L := r31.abs) tabOk rfl rfl rfl (by rfl)) rfl rfl ?_
  refine SL.call (reply_s (q := z0.1) (bd := z0.2.1) (bt := z0.2.2) (a := 0) (b := 5) (r := r31) (T := T31) T31_num (by have := T31_len; omega)) Casts.refl (by kernel_rfl) rfl rfl rfl ?_
  refine After.mid (clP z1 z0.1 4 5 (s31a za)) (β := []) (by first | rfl | (simp [hidP]; done)) (by intro x hx; simp only [hidP, List.mem_cons, List.not_mem_nil, or_false] at hx; rcases hx with rfl | rfl <;> rfl) ?_
  intro _
  refine SL.call (rcv31a_s (p := z1) (q := z0.1) (bd := z0.2.1) (bt := z0.2.2) (z := za) (T := T31) T31_num (by have := T31_len; omega)) Casts.refl (by kernel_rfl) rfl rfl rfl ?_
  refine After.mid [] (β := []) (by first | rfl | (simp; done) | (simp [hidP]; done)) askS_rids ?_
  intro zr
  refine SL.val (Val.assign rfl) rfl rfl ?_
  refine SL.nil (SE.seq ?_)
  refine SC.seq (SC.region ?_)
  refine SL.val (Val.move rfl) rfl rfl ?_
  refine SL.call (accS_s (p := z1) (q := z0.1) (n := 4) (id := 5) (s := s31b za zr) (by show ([] : List Oc).length ≤ _; decide)) Casts.refl (by kernel_rfl) rfl rfl rfl ?_
  refine After.mid [] (β := hidP z0.1 z0.2.1 z0.2.2 ((t31 T31 0))) (by first | rfl | (simp; done) | (simp [hidP, t31]; done)) (clP_rids _) ?_
  intro _
  first
    | refine SL.val (Val.lenSl rfl Try.underlying42 (List.length_map _)) rfl rfl ?_
    | refine SL.val (Val.lenOwn rfl (by repeat first|assumption|exact m0|apply m1) Try.underlying42 (List.length_map _)) rfl rfl ?_
    | refine SL.val (Val.lenNil rfl Try.underlying42) rfl rfl ?_
  refine SL.val (Val.assign rfl) rfl rfl ?_
  refine SL.nil (SE.seq ?_)
  refine SC.seq (SC.region ?_)
  refine SL.val (Val.move rfl) rfl rfl ?_
  refine SL.val (Val.move rfl) rfl rfl ?_
  refine SL.val (Val.buildS (L := r31.abs) tabOk rfl rfl rfl (by rfl)) rfl rfl ?_
  refine SL.call (reply_s (q := z0.1) (bd := z0.2.1) (bt := z0.2.2) (a := 2) (b := 5) (r := r31) (T := (t31 T31 0)) (t31_num T31_num 0) (by have := T31_len; have := t31_len T31 0; omega)) Casts.refl (by kernel_rfl) rfl rfl rfl ?_
  refine After.mid (clP z1 z0.1 4 5 (s31b za zr)) (β := []) (by first | rfl | (simp [hidP]; done)) (by intro x hx; simp only [hidP, List.mem_cons, List.not_mem_nil, or_false] at hx; rcases hx with rfl | rfl <;> rfl) ?_
  intro _
  refine SL.call (rcv31b_s (p := z1) (q := z0.1) (bd := z0.2.1) (bt := z0.2.2) (z := za) (v := zr) (T := (t31 T31 0)) (t31_num T31_num 0) (by have := T31_len; have := t31_len T31 0; omega)) Casts.refl (by kernel_rfl) rfl rfl rfl ?_
  refine After.mid [] (β := []) (by first | rfl | (simp; done) | (simp [hidP]; done)) askS_rids ?_
  intro zs
  refine SL.val (Val.assign rfl) rfl rfl ?_
  refine SL.nil (SE.seq ?_)
  refine SC.seq (SC.region ?_)
  refine SL.val (Val.move rfl) rfl rfl ?_
  refine SL.call (waitS_s (p := z1) (q := z0.1) (n := 4) (id := 5) (s := s31c zs)) Casts.refl (by kernel_rfl) rfl rfl rfl ?_
  refine After.mid [] (β := hidP z0.1 z0.2.1 z0.2.2 ((t31 (t31 T31 0) 2))) (by first | rfl | (simp; done) | (simp [hidP, t31]; done)) (clP_rids _) ?_
  intro _
  refine SL.val (Val.move rfl) rfl rfl ?_
  refine SL.val (Val.extract rfl rfl) rfl rfl ?_
  refine SL.val (Val.extract rfl rfl) rfl rfl ?_
  refine SL.eff (Eff.alloc tabOk rfl) rfl rfl ?_
  rintro _ _ ⟨b8, rfl, rfl⟩
  refine SL.eff (Eff.store tabOk rfl rfl rfl (by repeat first|assumption|exact Upd.here|apply Upd.there) (by rfl) (Nat.le_of_ble_eq_true (by rfl)) (by rfl) (by rfl)) rfl rfl ?_
  rintro _ _ ⟨rfl, rfl⟩
  refine SL.val (Val.assign rfl) rfl rfl ?_
  refine SL.nil (SE.seq ?_)
  refine SC.seq (SC.region ?_)
  refine SL.val (Val.move rfl) rfl rfl ?_
  refine SL.val (Val.to (C := boo true) (Val.eqI rfl rfl) (congrArg (fun b => Abs.v (Value.bool b)) (decide_eq_true (rfl)))) rfl rfl ?_
  refine SL.val (Val.move rfl) rfl rfl ?_
  refine SL.val (Val.move rfl) rfl rfl ?_
  first
    | refine SL.val (Val.lenSl rfl Try.underlying28 (List.length_map _)) rfl rfl ?_
    | refine SL.val (Val.lenOwn rfl (by repeat first|assumption|exact m0|apply m1) Try.underlying28 (List.length_map _)) rfl rfl ?_
    | refine SL.val (Val.lenNil rfl Try.underlying28) rfl rfl ?_
  refine SL.val (Val.to (C := boo true) (Val.eqI rfl rfl) (congrArg (fun b => Abs.v (Value.bool b)) (decide_eq_true (by kernel_rfl)))) rfl rfl ?_
  refine SL.val (Val.pickT rfl rfl) rfl rfl ?_
  refine SL.val (Val.move rfl) rfl rfl ?_
  refine SL.val (Val.move rfl) rfl rfl ?_
  refine SL.val (Val.to (C := boo true) (Val.eqI rfl rfl) (congrArg (fun b => Abs.v (Value.bool b)) (decide_eq_true (rfl)))) rfl rfl ?_
  refine SL.val (Val.pickT rfl rfl) rfl rfl ?_
  refine SL.val (Val.move rfl) rfl rfl ?_
  refine SL.val (Val.move rfl) rfl rfl ?_
  refine SL.val (Val.to (C := boo true) (Val.eqI rfl rfl) (congrArg (fun b => Abs.v (Value.bool b)) (decide_eq_true (rfl)))) rfl rfl ?_
  refine SL.val (Val.pickT rfl rfl) rfl rfl ?_
  refine SL.val (Val.move rfl) rfl rfl ?_
  refine SL.val (Val.move rfl) rfl rfl ?_
  refine SL.val (Val.to (C := boo true) (Val.eqI rfl rfl) (congrArg (fun b => Abs.v (Value.bool b)) (decide_eq_true (by kernel_rfl)))) rfl rfl ?_
  refine SL.val (Val.pickT rfl rfl) rfl rfl ?_
  refine SL.val (Val.move rfl) rfl rfl ?_
  refine SL.val (Val.move rfl) rfl rfl ?_
  refine SL.val (Val.notB rfl) rfl rfl ?_
  refine SL.val (Val.pickT rfl rfl) rfl rfl ?_
  refine SL.val (Val.move rfl) rfl rfl ?_
  refine SL.both (t := 63) rfl ?_ (by intro hc63; exfalso; simp [s31c] at hc63)
  intro hc63
  refine SL.val (Val.move rfl) rfl rfl ?_
  refine SL.call (accS_s (p := z1) (q := z0.1) (n := 4) (id := 5) (s := s31c zs) (by show [_].length ≤ _; decide)) Casts.refl (by kernel_rfl) rfl rfl rfl ?_
  refine After.mid [_] (β := hidP z0.1 z0.2.1 z0.2.2 ((t31 (t31 T31 0) 2))) (by first | rfl | (simp; done) | (simp [hidP, t31]; done)) (clP_rids _) ?_
  intro _
  first
    | refine SL.val (Val.lenSl rfl Try.underlying42 (List.length_map _)) rfl rfl ?_
    | refine SL.val (Val.lenOwn rfl (by repeat first|assumption|exact m0|apply m1) Try.underlying42 (List.length_map _)) rfl rfl ?_
    | refine SL.val (Val.lenNil rfl Try.underlying42) rfl rfl ?_
  refine SL.val (Val.to (C := boo true) (Val.eqI rfl rfl) (congrArg (fun b => Abs.v (Value.bool b)) (decide_eq_true (by kernel_rfl)))) rfl rfl ?_
  refine SL.val (Val.pickT rfl rfl) rfl rfl ?_
  refine SL.val (Val.move rfl) rfl rfl ?_
  refine SL.val (Val.move rfl) rfl rfl ?_
  refine SL.call (accS_s (p := z1) (q := z0.1) (n := 4) (id := 5) (s := s31c zs) (by show [_].length ≤ _; decide)) Casts.refl (by kernel_rfl) rfl rfl rfl ?_
  refine After.mid [_] (β := hidP z0.1 z0.2.1 z0.2.2 ((t31 (t31 T31 0) 2))) (by first | rfl | (simp; done) | (simp [hidP, t31]; done)) (clP_rids _) ?_
  intro _
  refine SL.val (Val.indexSl (q := 0) tabOk Try.underlying42 rfl rfl rfl rfl (show ((s31c zs).acc.map Oc.abs)[0]? = some (Oc.abs ⟨5, 1, 0⟩) from rfl) rfl rfl) rfl rfl ?_
  first
    | refine SL.val (Val.fieldAddr tabOk rfl rfl rfl rfl rfl) rfl rfl ?_
    | refine SL.val (Val.fieldAddrR tabOk rfl rfl rfl rfl rfl) rfl rfl ?_
  first
    | refine SL.val (Val.load1R tabOk rfl rfl rfl) rfl rfl ?_
    | refine SL.val (Val.load1 tabOk rfl rfl (by first|(apply Or.inl;(repeat first|assumption|exact m0|apply m1);done)|(apply Or.inr;(repeat first|assumption|exact m0|apply m1);done)) List.not_mem_nil (by rfl)) rfl rfl ?_
  refine SL.val (Val.to (C := boo true) (Val.eqI rfl rfl) (congrArg (fun b => Abs.v (Value.bool b)) (decide_eq_true (by kernel_rfl)))) rfl rfl ?_
  refine SL.val (Val.pickT rfl rfl) rfl rfl ?_
  refine SL.val (Val.assign rfl) rfl rfl ?_
  refine SL.nil (SE.seq ?_)
  refine SC.ret ?_
  refine SE.fin (rs := [.tmp 0]) rfl (RV.tmp rfl RV.nil) (()) (by repeat first|exact s0 _|exact s1 _|apply s2|apply s3) (by simp [It.rids]) ?_
  exact rfl
end Go.Proofs.Ytmkijjmbiiiicaa.A
/-
  Arguments that are rows of a client's acts, as trees.
-/
set_option maxRecDepth 100000
set_option linter.unusedSimpArgs false
set_option linter.unusedVariables false
namespace Go.Proofs.Ytmkijjmbiiiicaa.A
open Go.RowKit Go.ChangeShapes Go.WideShapes Go.ChangeAt

section
variable {H : Type} {enc : TypeId × Value → H} {w : World} {base : Nat} {spare : Nat → Bool} {held : Bool}
theorem open_bytL {v : Value} (h : LeafAt enc Try.prog w base spare held 37 v) : ∃ l : List UInt8, rep [] w (byt l) v := by
  obtain ⟨fuel, x, h⟩ := h
  obtain ⟨A0, n, c, rfl⟩ : ∃ A n c, v = .slice A n c := by
    rcases Deep.open_slice Try.underlying37 h with ⟨hcs, _⟩ | ⟨a, len, cap, m, n', D, Pl, hcs, _⟩
    · simp at hcs; exact ⟨_, _, _, hcs⟩
    · simp at hcs; exact ⟨_, _, _, hcs⟩
  obtain ⟨l, hl⟩ := open_bytesV h
  obtain ⟨A, c, he, h1, h2, h3, h4⟩ := hl
  refine ⟨l, rep_byt.2 ?_⟩
  rw [he]
  refine ⟨⟨A, c, rfl, h1, h2, h3⟩, fun hn => ?_⟩
  obtain ⟨b, off, rfl, hc⟩ := h4 hn
  exact ⟨b, off, _, _, rfl, by simp, hc⟩
theorem open_tgL (cs : List Value) (hl : cs.length = Try.prog.cellsOf 94) (h : ∃ m y, DataW.trod enc Try.prog w base spare held m 94 cs = some y) : ∃ x : Tg, reps [] w x.abs cs ∧ True := by
  obtain ⟨fuel, x, h⟩ := h
  rw [show Try.prog.cellsOf 94 = 32 by kernel_rfl] at hl
  have hlv : leaves Try.prog 4 94 = some (List.replicate 32 5) := by kernel_rfl
  have hh := leaves_trod 4 _ _ _ _ _ hlv (by simpa using hl.symm) h
  obtain ⟨d, rfl⟩ := open_u8 (cs := cs) fun v hv => by
    obtain ⟨j, hj, rfl⟩ := List.getElem_of_mem hv
    exact hh j cs[j] _ (List.getElem?_eq_getElem hj) (by rw [List.getElem?_replicate, if_pos (by omega)])
  exact ⟨⟨d, by simpa using hl⟩, reps_dig d, trivial⟩
theorem act_leaves : leaves Try.prog 4 55 = some [3, 3, 3, 3, 2, 3, 9, 2, 2, 9, 2, 3, 2, 29, 3, 3, 37, 38] := by kernel_rfl
theorem open_act2 (cs : List Value) (hl : cs.length = Try.prog.cellsOf 55) (h : ∃ m y, DataW.trod enc Try.prog w base spare held m 55 cs = some y) : ∃ a : Ac, reps [] w a.abs cs ∧ Core.ins a.core ∧ InR .i64 a.reply.stamp := by
  obtain ⟨fuel, x, h⟩ := h
  rw [show Try.prog.cellsOf 55 = 18 by kernel_rfl] at hl
  have hh := leaves_trod 4 _ _ _ _ _ act_leaves (by simpa using hl.symm) h
  match cs, hl with
  | [v0, v1, v2, v3, v4, v5, v6, v7, v8, v9, v10, v11, v12, v13, v14, v15, v16, v17], _ =>
    obtain ⟨n0, rfl, b0⟩ := (hh 0 v0 _ rfl rfl).int Try.underlying3
    obtain ⟨n1, rfl, b1⟩ := (hh 1 v1 _ rfl rfl).int Try.underlying3
    obtain ⟨n2, rfl, b2⟩ := (hh 2 v2 _ rfl rfl).int Try.underlying3
    obtain ⟨n3, rfl, b3⟩ := (hh 3 v3 _ rfl rfl).int Try.underlying3
    obtain ⟨n4, rfl, b4⟩ := (hh 4 v4 _ rfl rfl).int Try.underlying2
    obtain ⟨n5, rfl, b5⟩ := (hh 5 v5 _ rfl rfl).int Try.underlying3
    obtain ⟨s6, rfl, b6⟩ := (hh 6 v6 _ rfl rfl).string Try.underlying9
    obtain ⟨n7, rfl, b7⟩ := (hh 7 v7 _ rfl rfl).int Try.underlying2
    obtain ⟨n8, rfl, b8⟩ := (hh 8 v8 _ rfl rfl).int Try.underlying2
    obtain ⟨s9, rfl, b9⟩ := (hh 9 v9 _ rfl rfl).string Try.underlying9
    obtain ⟨n10, rfl, b10⟩ := (hh 10 v10 _ rfl rfl).int Try.underlying2
    obtain ⟨n11, rfl, b11⟩ := (hh 11 v11 _ rfl rfl).int Try.underlying3
    obtain ⟨n12, rfl, b12⟩ := (hh 12 v12 _ rfl rfl).int Try.underlying2
    obtain ⟨n13, rfl, b13⟩ := (hh 13 v13 _ rfl rfl).int Try.underlying29
    obtain ⟨n14, rfl, b14⟩ := (hh 14 v14 _ rfl rfl).int Try.underlying3
    obtain ⟨n15, rfl, b15⟩ := (hh 15 v15 _ rfl rfl).int Try.underlying3
    obtain ⟨l16, h16⟩ := open_bytL (hh 16 v16 _ rfl rfl)
    obtain ⟨ts, ht, _⟩ := open_slA (abs := Tg.abs) (Ok := fun _ => True) (s := 32) Try.underlying38 (by kernel_rfl) (hh 17 v17 _ rfl rfl) open_tgL
    exact ⟨⟨n0, n1, n2, ⟨n3, n4, n5, s6, n7, n8, s9⟩, ⟨n10, n11, n12, n13⟩, ⟨n14, n15, l16, ts⟩⟩, ⟨_, _, rfl, rfl, _, _, rfl, rfl, _, _, rfl, rfl, _, _, rfl, rfl, _, _, rfl, rfl, _, _, rfl, rfl, _, _, rfl, rfl, _, _, rfl, rfl, _, _, rfl, rfl, _, _, rfl, rfl, _, _, rfl, rfl, _, _, rfl, rfl, _, _, rfl, rfl, _, _, rfl, rfl, _, _, rfl, rfl, _, _, rfl, rfl, _, _, rfl, h16, _, _, rfl, ht, rfl⟩, ⟨wfIn b3, wfIn b4, wfIn b5, wfIn b7, wfIn b8, b6, b9⟩, wfIn b12⟩
theorem open_acts2 {v : Value} (h : LeafAt enc Try.prog w base spare held 22 v) : ∃ l : List Ac, rep [] w (actsA l) v ∧ ∀ a ∈ l, Core.ins a.core ∧ InR .i64 a.reply.stamp :=
  open_slA (abs := Ac.abs) (Ok := fun a => Core.ins a.core ∧ InR .i64 a.reply.stamp) (s := 18) Try.underlying22 (by kernel_rfl) h open_act2
end
end Go.Proofs.Ytmkijjmbiiiicaa.A
/-
  Clients, plain: the document's client, and the program's beside it.
-/
set_option maxRecDepth 100000
set_option linter.unusedSimpArgs false
set_option linter.unusedVariables false
namespace Go.Proofs.Ytmkijjmbiiiicaa.A
open Go.RowKit

/-- The document's client. -/
structure DS where
  stamp : Int
  waits : Bool
  req : Core
  said : List (Int × Int)
  acc : List Oc
abbrev saidL (l : List (Int × Int)) : List (List Abs) := l.map fun p => [int p.1, int p.2]
def DS.cells (q : Nat) (n id : Int) (d : DS) : List Abs := [ptr q, int n, int id, int d.stamp, boo d.waits] ++ ((Rq.mk d.req []).abs ++ [.sl 2 (saidL d.said), outA d.acc])
theorem said_ones (l : List (Int × Int)) : ∀ c ∈ saidL l, ones c = true := by
  intro c hc
  obtain ⟨o, _, rfl⟩ := List.mem_map.1 hc
  rfl
noncomputable def daskE (n id : Int) (d : DS) (x : Core) : Int := if d.waits = true then 15 else askE n id d.stamp x
noncomputable def daskS (n id : Int) (d : DS) (x : Core) : DS := if daskE n id d x = 0 then ⟨x.stamp, true, x, [], d.acc⟩ else d
noncomputable def daskT (T : List (ByteArray × Nat)) (n id : Int) (d : DS) (x : Core) : List (ByteArray × Nat) := if daskE n id d x = 0 then askT T n id x else T
noncomputable def daskL (T : List (ByteArray × Nat)) (n id : Int) (d : DS) (x : Core) : List (List Abs) := if daskE n id d x = 0 then parcels (askM T n id x) (allN n) else []
/-- What is answered to a message. -/
def drecvE (T : List (ByteArray × Nat)) (n id : Int) (d : DS) (m : Msg) : Int := if (readR T n id d.stamp d.waits m).2 ≠ 0 then (readR T n id d.stamp d.waits m).2 else if (aget d.said m.from_).isSome then 15 else 0
def drecvD (T : List (ByteArray × Nat)) (n id : Int) (d : DS) (m : Msg) : Bool := decide ((max n 1 - 1) / 3 < (((1 + cnt d.said (readR T n id d.stamp d.waits m).1.result : Nat)) : Int))
def drecvS (T : List (ByteArray × Nat)) (n id : Int) (d : DS) (m : Msg) : DS :=
  if drecvE T n id d m ≠ 0 then d
  else if drecvD T n id d m = true then ⟨d.stamp, false, d.req, d.said ++ [(m.from_, (readR T n id d.stamp d.waits m).1.result)], d.acc ++ [Oc.mk id (readR T n id d.stamp d.waits m).1.stamp (readR T n id d.stamp d.waits m).1.result]⟩
  else ⟨d.stamp, d.waits, d.req, d.said ++ [(m.from_, (readR T n id d.stamp d.waits m).1.result)], d.acc⟩

section
variable {T : List (ByteArray × Nat)} {n id : Int} {d : DS} {m : Msg}
end
abbrev gAsk (id : Int) (x : Core) : Int → ByteArray := gI id (textV 1 (askB x))
theorem tmG_id {g : Int → ByteArray} : ∀ {l : List Int} {T : List (ByteArray × Nat)}, (∀ i ∈ l, hasK T (g i) = true) → tmG g T l = T
  | [], _, _ => rfl
  | w :: l, T, h => by
    show tmG g (pm T (g w)) l = T
    rw [pm_old (hasK_iff.1 (h w List.mem_cons_self))]
    exact tmG_id fun i hi => h i (List.mem_cons_of_mem _ hi)
theorem tmG_all (g : Int → ByteArray) (T : List (ByteArray × Nat)) (l : List Int) : ∀ i ∈ l, hasK (tmG g T l) (g i) = true := fun i hi => by
  rw [tmG_has, Bool.or_eq_true]
  exact .inr (List.any_eq_true.2 ⟨i, hi, by simp⟩)
structure DRel (n id : Int) (s : CS) (d : DS) (T : List (ByteArray × Nat)) : Prop where
  stamp : d.stamp = s.stamp
  acc : d.acc = s.acc
  idle : s.wait = none → d.waits = false
  busy : ∀ w, s.wait = some w → d.waits = true ∧ d.req = w.core ∧ d.said = w.m ∧ Votes n w.m w.c ∧ w.msg = Msg.mk 1 id (askB w.core) ((allN n).map fun i => tagN T (gAsk id w.core i)) ∧ ∀ i ∈ allN n, hasK T (gAsk id w.core i) = true
section
variable {n id : Int} {s : CS} {d : DS} {T : List (ByteArray × Nat)} {x : Core} {z : Nat × Nat × Nat × Nat} {m : Msg} {v : Value}
theorem DRel.start : DRel n id ⟨0, none, [], v⟩ ⟨0, false, Wn.none_, [], []⟩ T := ⟨rfl, rfl, fun _ => rfl, by simp⟩
theorem DRel.more (h : DRel n id s d T) (g : Int → ByteArray) (l : List Int) : DRel n id s d (tmG g T l) := by
  refine ⟨h.stamp, h.acc, h.idle, fun w hw => ?_⟩
  obtain ⟨h1, h2, h3, h4, h5, h6⟩ := h.busy w hw
  refine ⟨h1, h2, h3, h4, h5.trans ?_, fun i hi => by rw [tmG_has, h6 i hi, Bool.true_or]⟩
  congr 1
  refine List.map_congr_left fun i hi => Tg.same ?_
  show numB 255 _ = numB 255 _
  rw [tmG_keep g (h6 i hi)]
theorem DRel.waits (h : DRel n id s d T) : d.waits = s.wait.isSome := by
  cases hw : s.wait with
  | none => exact h.idle hw
  | some w => exact (h.busy w hw).1
theorem DRel.core (h : DRel n id s d T) (hw : s.wait.isSome = true) : s.core = d.req := by
  obtain ⟨w, hw⟩ := Option.isSome_iff_exists.1 hw
  unfold CS.core
  rw [hw]
  exact (h.busy w hw).2.1.symm
theorem askM_has (h : ∀ i ∈ allN n, hasK T (gAsk id x i) = true) : askT T n id x = T ∧ askM T n id x = Msg.mk 1 id (askB x) ((allN n).map fun i => tagN T (gAsk id x i)) := by
  have e : tmG (gAsk id x) T (allN n) = T := tmG_id h
  refine ⟨e, ?_⟩
  show Msg.mk 1 id (askB x) ((allN n).map fun w => tagN (tmG (gAsk id x) T (allN n)) (gAsk id x w)) = _
  rw [e]
theorem askM_is : askM T n id x = Msg.mk 1 id (askB x) ((allN n).map fun i => tagN (askT T n id x) (gAsk id x i)) := rfl
theorem DRel.askE (h : DRel n id s d T) : daskE n id d x = askSE n id s x := by
  unfold daskE askSE
  rw [h.waits, h.stamp]
  cases s.wait with
  | none => exact if_neg (by simp)
  | some w => exact if_pos rfl
/-- Behind the program's Ask the document's finds all told. -/
theorem DRel.ask (h : DRel n id s d T) (z : Nat × Nat × Nat × Nat) : daskT (askST T n id s x) n id d x = askST T n id s x ∧ daskL (askST T n id s x) n id d x = askSL T n id s x ∧ DRel n id (askS T n id s x z) (daskS n id d x) (askST T n id s x) := by
  have e := h.askE (x := x)
  by_cases he : askSE n id s x = 0
  · have eT : askST T n id s x = askT T n id x := if_pos he
    have eL : askSL T n id s x = parcels (askM T n id x) (allN n) := if_pos he
    obtain ⟨k1, k2⟩ := askM_has (T := askT T n id x) (n := n) (id := id) (x := x) (tmG_all _ _ _)
    have k3 : askM (askT T n id x) n id x = askM T n id x := k2.trans askM_is.symm
    rw [eT, eL]
    refine ⟨(if_pos (e.trans he)).trans k1, (if_pos (e.trans he)).trans (by rw [k3]), ?_⟩
    have hw : s.wait = none := by
      cases hw : s.wait with
      | none => rfl
      | some w => unfold askSE at he; rw [hw] at he; cases he
    obtain ⟨stamp, wait, acc, av⟩ := s
    cases hw
    have hS : askS T n id ⟨stamp, none, acc, av⟩ x z = ⟨x.stamp, some ⟨x, askM T n id x, [], [], z.1, z.2.1, z.2.2.1, z.2.2.2⟩, acc, av⟩ := if_pos he
    rw [hS, show daskS n id d x = ⟨x.stamp, true, x, [], d.acc⟩ from if_pos (e.trans he)]
    refine ⟨rfl, h.acc, by simp, fun w hw => ?_⟩
    cases hw
    exact ⟨rfl, rfl, rfl, Votes.nil, askM_is, tmG_all _ _ _⟩
  · have hS : askS T n id s x z = s := by
      obtain ⟨stamp, wait, acc, av⟩ := s
      cases wait with
      | some w => rfl
      | none => exact if_neg he
    rw [show askST T n id s x = T from if_neg he, show askSL T n id s x = [] from if_neg he, hS]
    exact ⟨if_neg (by rw [e]; exact he), if_neg (by rw [e]; exact he), by rw [show daskS n id d x = d from if_neg (by rw [e]; exact he)]; exact h⟩
theorem recvn_ne {stamp : Int} (h : (readR T n id stamp false m).2 = 0) : False := by
  have := (readR_ok h).waits
  cases this
theorem DRel.recv (h : DRel n id s d T) (m : Msg) (z : Value) : drecvE T n id d m = recvSE T n id s m ∧ DRel n id (recvS T n id s m z) (drecvS T n id d m) T := by
  have hs9 := h.stamp
  obtain ⟨stamp, wait, acc, av⟩ := s
  obtain ⟨dst, dwt, dreq, dsaid, dacc⟩ := d
  dsimp only at hs9
  subst hs9
  cases wait with
  | none =>
    have hw9 : dwt = false := h.waits
    subst hw9
    have h0 : (readR T n id dst false m).2 ≠ 0 := fun h0 => recvn_ne h0
    have e1 : drecvE T n id ⟨dst, false, dreq, dsaid, dacc⟩ m = (readR T n id dst false m).2 := if_pos h0
    refine ⟨e1, ?_⟩
    rw [show drecvS T n id ⟨dst, false, dreq, dsaid, dacc⟩ m = ⟨dst, false, dreq, dsaid, dacc⟩ from if_pos (by rw [e1]; exact h0)]
    exact h
  | some w =>
    have hw9 : dwt = true := h.waits
    subst hw9
    obtain ⟨h1, h2, h3, h4, h5, h6⟩ := h.busy w rfl
    have hac : dacc = acc := h.acc
    dsimp only at h2 h3
    subst h2 h3 hac
    have e1 : drecvE T n id ⟨dst, true, w.core, w.m, dacc⟩ m = recvE T n id dst w.m m := rfl
    refine ⟨e1, ?_⟩
    by_cases h0 : (readR T n id dst true m).2 = 0
    · cases hv : aget w.m m.from_ with
      | some u =>
        obtain ⟨q1, q2, q3, q4⟩ := recv_twice (K := w.c) h0 hv
        have hS : recvS T n id ⟨dst, some w, dacc, av⟩ m z = ⟨dst, some { w with m := recvM T n id dst w.m m, c := recvC T n id dst w.m w.c m }, dacc, z⟩ := if_neg (by rw [q4]; decide)
        rw [show drecvS T n id ⟨dst, true, w.core, w.m, dacc⟩ m = ⟨dst, true, w.core, w.m, dacc⟩ from if_pos (by rw [e1, q1]; decide), hS, q2, q3]
        refine ⟨rfl, rfl, by simp, fun w' hw' => ?_⟩
        cases hw'
        exact ⟨rfl, rfl, rfl, h4, h5, h6⟩
      | none =>
        obtain ⟨q1, q2, q3, q4⟩ := recv_new (K := w.c) h0 hv
        have hvr := h4.recv (T := T) (id := id) (stamp := dst) (m := m)
        have hM : recvM T n id dst w.m m = w.m ++ [(m.from_, (readR T n id dst true m).1.result)] := by
          rw [q2, tAddM_new hv, aput_new hv]
        have hN : cget (tAddC w.m w.c m.from_ (readR T n id dst true m).1.result) (readR T n id dst true m).1.result = 1 + cnt w.m (readR T n id dst true m).1.result := by
          have := hvr.inv.num (readR T n id dst true m).1.result
          rw [q3] at this
          rw [this, hM, cnt_append, cnt_cons]
          simp [cnt]
          omega
        have hD : recvD T n id dst w.m w.c m = drecvD T n id ⟨dst, true, w.core, w.m, dacc⟩ m := by
          rw [q4, hN]
          rfl
        have hE : ¬ drecvE T n id ⟨dst, true, w.core, w.m, dacc⟩ m ≠ 0 := by rw [e1, q1]; decide
        by_cases hd : drecvD T n id ⟨dst, true, w.core, w.m, dacc⟩ m = true
        · rw [show drecvS T n id ⟨dst, true, w.core, w.m, dacc⟩ m = _ from (if_neg hE).trans (if_pos hd), show recvS T n id ⟨dst, some w, dacc, av⟩ m z = _ from if_pos (hD.trans hd)]
          exact ⟨rfl, rfl, fun _ => rfl, by simp⟩
        · rw [show drecvS T n id ⟨dst, true, w.core, w.m, dacc⟩ m = _ from (if_neg hE).trans (if_neg hd), show recvS T n id ⟨dst, some w, dacc, av⟩ m z = _ from if_neg (by rw [hD]; exact hd)]
          refine ⟨rfl, rfl, by simp, fun w' hw' => ?_⟩
          cases hw'
          exact ⟨rfl, rfl, hM.symm, hvr, h5, h6⟩
    · obtain ⟨q1, q2, q3, q4⟩ := recv_bad (M := w.m) (K := w.c) h0
      have hS : recvS T n id ⟨dst, some w, dacc, av⟩ m z = ⟨dst, some { w with m := recvM T n id dst w.m m, c := recvC T n id dst w.m w.c m }, dacc, z⟩ := if_neg (by rw [q4]; decide)
      rw [show drecvS T n id ⟨dst, true, w.core, w.m, dacc⟩ m = ⟨dst, true, w.core, w.m, dacc⟩ from if_pos (by rw [e1, q1]; exact h0), hS, q2, q3]
      refine ⟨rfl, rfl, by simp, fun w' hw' => ?_⟩
      cases hw'
      exact ⟨rfl, rfl, rfl, h4, h5, h6⟩
end
/-- What stays true of both from act to act. -/
structure PlayOk (n id : Int) (k : Nat) (s : CS) (d : DS) (T : List (ByteArray × Nat)) : Prop where
  rel : DRel n id s d T
  lo : 0 ≤ s.stamp
  hi : s.stamp ≤ (k : Nat)
  few : s.acc.length ≤ k
  num : Num1 T
  tags : T.length ≤ 8 * k
section
variable {n id : Int} {k : Nat} {s : CS} {d : DS} {T : List (ByteArray × Nat)} {x : Core} {z : Nat × Nat × Nat × Nat} {m : Msg} {v : Value}
theorem PlayOk.start : PlayOk n id 0 ⟨0, none, [], v⟩ ⟨0, false, Wn.none_, [], []⟩ [] := ⟨DRel.start, Int.le_refl _, Int.le_refl _, Nat.le_refl _, Num1.nil, Nat.le_refl _⟩
theorem PlayOk.next (h : PlayOk n id k s d T) : PlayOk n id (k + 1) s d T := ⟨h.rel, h.lo, by have := h.hi; omega, by have := h.few; omega, h.num, by have := h.tags; omega⟩
theorem PlayOk.ok (h : PlayOk n id k s d T) (hk : k ≤ 900) : CSOk n s := ⟨fun w hw => (h.rel.busy w hw).2.2.2.1, by have := h.few; omega⟩
theorem PlayOk.more (h : PlayOk n id k s d T) (g : Int → ByteArray) (b : Int) : PlayOk n id (k + 1) s d (tmG g T [b]) :=
  ⟨h.rel.more g [b], h.lo, by have := h.hi; omega, by have := h.few; omega, tmG_num h.num _ _, by
    have h1 := tmG_len g T [b]
    have h2 := h.tags
    simp only [List.length_singleton] at h1
    omega⟩
theorem PlayOk.ask (h : PlayOk n id k s d T) (z : Nat × Nat × Nat × Nat) : PlayOk n id (k + 1) (askS T n id s x z) (daskS n id d x) (askST T n id s x) := by
  have hr := (h.rel.ask (x := x) z).2.2
  have h0 := h.lo
  have h1 := h.hi
  have h2 := h.few
  have h3 := h.tags
  have hl := allN_le n
  by_cases he : askSE n id s x = 0
  · have hw : s.wait = none := by
      cases hw : s.wait with
      | none => rfl
      | some w => unfold askSE at he; rw [hw] at he; cases he
    obtain ⟨stamp, wait, acc, av⟩ := s
    cases hw
    have he2 : askE n id stamp x = 0 := he
    have hx : x = nextC id stamp x := by
      by_cases hx : x = nextC id stamp x
      · exact hx
      · unfold askE at he2; rw [if_neg hx] at he2; cases he2
    have hst : x.stamp = stamp + 1 := by rw [hx]; rfl
    have hS : askS T n id ⟨stamp, none, acc, av⟩ x z = ⟨x.stamp, some ⟨x, askM T n id x, [], [], z.1, z.2.1, z.2.2.1, z.2.2.2⟩, acc, av⟩ := if_pos he
    have eT : askST T n id ⟨stamp, none, acc, av⟩ x = askT T n id x := if_pos he
    rw [hS, eT] at hr
    rw [hS, eT]
    dsimp only at h0 h1 h2
    refine ⟨hr, by show 0 ≤ x.stamp; omega, by show x.stamp ≤ _; omega, by show acc.length ≤ _; omega, tmG_num h.num _ _, ?_⟩
    have h5 := tmG_len (gI id (textV 1 (askB x))) T (allN n)
    show (tmG _ _ _).length ≤ _
    omega
  · have hS : askS T n id s x z = s := by
      obtain ⟨stamp, wait, acc, av⟩ := s
      cases wait with
      | some w => rfl
      | none => exact if_neg he
    have eT : askST T n id s x = T := if_neg he
    rw [hS, eT] at hr
    rw [hS, eT]
    exact ⟨hr, h0, by omega, by omega, h.num, by omega⟩
theorem PlayOk.recv (h : PlayOk n id k s d T) (m : Msg) (z : Value) : PlayOk n id (k + 1) (recvS T n id s m z) (drecvS T n id d m) T := by
  have hr := (h.rel.recv m z).2
  refine ⟨hr, ?_, ?_, ?_, h.num, by have := h.tags; omega⟩
  · have e : (recvS T n id s m z).stamp = s.stamp := by
      obtain ⟨stamp, wait, acc, av⟩ := s
      cases wait with
      | none => rfl
      | some w => unfold recvS; dsimp only; split <;> rfl
    rw [e]; exact h.lo
  · have e : (recvS T n id s m z).stamp = s.stamp := by
      obtain ⟨stamp, wait, acc, av⟩ := s
      cases wait with
      | none => rfl
      | some w => unfold recvS; dsimp only; split <;> rfl
    rw [e]; have := h.hi; omega
  · have h2 := h.few
    obtain ⟨stamp, wait, acc, av⟩ := s
    dsimp only at h2
    cases wait with
    | none => show acc.length ≤ _; omega
    | some w =>
      unfold recvS
      dsimp only
      split
      · simp only [List.length_append, List.length_singleton]; omega
      · show acc.length ≤ _; omega
end
end Go.Proofs.Ytmkijjmbiiiicaa.A
/-
  The document's client: Next, Again, Ask.
-/
set_option maxRecDepth 100000
set_option linter.unusedSimpArgs false
set_option linter.unusedVariables false
namespace Go.Proofs.Ytmkijjmbiiiicaa.A
open Go.RowKit

section
variable {r q bd bt : Nat} {n id : Int} {x : Core} {m : Msg} {d : DS} {T : List (ByteArray × Nat)}
end
end Go.Proofs.Ytmkijjmbiiiicaa.A
/-
  The document's client: Receive.
-/
set_option maxRecDepth 100000
set_option linter.unusedSimpArgs false
set_option linter.unusedVariables false
namespace Go.Proofs.Ytmkijjmbiiiicaa.A
open Go.RowKit

section
variable {r q bd bt : Nat} {n id : Int} {x : Core} {m : Msg} {d : DS} {T : List (ByteArray × Nat)}
end
end Go.Proofs.Ytmkijjmbiiiicaa.A
/-
  Clients, plain: outcomes; calls that change pieces about another one.
-/
set_option maxRecDepth 100000
set_option linter.unusedSimpArgs false
set_option linter.unusedVariables false
namespace Go.Proofs.Ytmkijjmbiiiicaa.A
open Go.RowKit

section
variable {σ σ1 : Blks} {ι : Type} {τ' : ι → Blks} {K : Blks → ι → Prop}
theorem After.sub (φ : Blks) (hσ : σ.Perm (σ1 ++ φ)) (hr : ∀ x ∈ σ1, x.rids = []) (hk : ∀ z, ∃ ν : Blks, ν.Perm (τ' z ++ φ) ∧ K ν z) : After σ σ1 τ' K :=
  ⟨φ, ⟨by rw [← mids_append]; exact mids_perm hσ.symm, fun x hx => .inl ⟨hσ.mem_iff.2 (List.mem_append_left _ hx), hr x hx⟩, fun x hx => hσ.mem_iff.2 (List.mem_append_right _ hx)⟩, hk⟩
/-- A call that changes the last pieces. -/
theorem After.deep (a b : Blks) (x : It) (hσ : σ = a ++ (b ++ (x :: σ1))) (hr : ∀ y ∈ σ1, y.rids = []) (k : ∀ z, K (a ++ (b ++ (x :: τ' z))) z) : After σ σ1 τ' K := by
  subst hσ
  have e : ∀ c : Blks, (a ++ (b ++ (x :: c))).Perm (c ++ (a ++ (b ++ [x]))) := fun c => by
    have h1 : a ++ (b ++ (x :: c)) = (a ++ (b ++ [x])) ++ c := by simp
    rw [h1]
    exact List.perm_append_comm
  exact After.sub (a ++ (b ++ [x])) (e σ1) hr fun z => ⟨_, e (τ' z), k z⟩
theorem After.last (a b : Blks) (hσ : σ = a ++ (b ++ σ1)) (hr : ∀ y ∈ σ1, y.rids = []) (k : ∀ z, K (a ++ (b ++ τ' z)) z) : After σ σ1 τ' K := by
  subst hσ
  have e : ∀ c : Blks, (a ++ (b ++ c)).Perm (c ++ (a ++ b)) := fun c => by
    have h1 : a ++ (b ++ c) = (a ++ b) ++ c := by simp
    rw [h1]
    exact List.perm_append_comm
  exact After.sub (a ++ b) (e σ1) hr fun z => ⟨_, e (τ' z), k z⟩
end
def Oc.cells (o : Oc) : List Value := [.int .i64 o.client, .int .i64 o.stamp, .int .i64 o.result]
def Oc.ins (o : Oc) : Prop := InR .i64 o.client ∧ InR .i64 o.stamp ∧ InR .i64 o.result
def Oc.lits (o : Oc) : List Lit := [.int .i64 o.client, .int .i64 o.stamp, .int .i64 o.result]
theorem oc_formed (o : Oc) : (Value.agg o.cells.toArray).formed Try.prog 60 = true := by kernel_rfl
theorem Oc.lits_inj {c d : Oc} (h : Oc.lits c = Oc.lits d) : c = d := by
  simp only [Oc.lits, List.cons.injEq, Lit.int.injEq, true_and, and_true] at h
  obtain ⟨h1, h2, h3⟩ := h
  obtain ⟨a1, a2, a3⟩ := c
  obtain ⟨b1, b2, b3⟩ := d
  simp only [Oc.mk.injEq]
  exact ⟨h1, h2, h3⟩
instance : DecidableEq Oc := fun c d => decidable_of_iff (c.client = d.client ∧ c.stamp = d.stamp ∧ c.result = d.result) (by
  obtain ⟨a1, a2, a3⟩ := c
  obtain ⟨b1, b2, b3⟩ := d
  simp only [Oc.mk.injEq])
structure PlayIn (n id : Int) (k : Nat) (s : CS) (d : DS) (T : List (ByteArray × Nat)) : Prop where
  ok : PlayOk n id k s d T
  req : Core.ins d.req
  let_ : d.req.letter.size ≤ 1000
  txt : d.req.text.size ≤ 1000
  accs : ∀ o ∈ s.acc, o.ins
  said : d.said.length ≤ k
section
variable {n id : Int} {k : Nat} {s : CS} {d : DS} {T : List (ByteArray × Nat)} {x : Core} {m : Msg} {v : Value}
theorem none_ins : Core.ins Wn.none_ := by
  refine ⟨?_, ?_, ?_, ?_, ?_, by decide, by decide⟩ <;> (simp only [InR, lo, hi, Wn.none_]; omega)
theorem PlayIn.start : PlayIn n id 0 ⟨0, none, [], v⟩ ⟨0, false, Wn.none_, [], []⟩ [] := ⟨PlayOk.start, none_ins, by decide, by decide, by simp, Nat.le_refl _⟩
theorem PlayIn.next (h : PlayIn n id k s d T) : PlayIn n id (k + 1) s d T := ⟨h.ok.next, h.req, h.let_, h.txt, h.accs, by have := h.said; omega⟩
theorem PlayIn.more (h : PlayIn n id k s d T) (g : Int → ByteArray) (b : Int) : PlayIn n id (k + 1) s d (tmG g T [b]) := ⟨h.ok.more g b, h.req, h.let_, h.txt, h.accs, by have := h.said; omega⟩
theorem PlayIn.ask (h : PlayIn n id k s d T) (hx : Core.ins x) (h1 : x.letter.size ≤ 1000) (h2 : x.text.size ≤ 1000) (z : Nat × Nat × Nat × Nat) : PlayIn n id (k + 1) (askS T n id s x z) (daskS n id d x) (askST T n id s x) := by
  have ha : (askS T n id s x z).acc = s.acc := by
    obtain ⟨stamp, wait, acc, av⟩ := s
    cases wait with
    | some w => rfl
    | none => unfold askS; dsimp only; split <;> rfl
  refine ⟨h.ok.ask z, ?_, ?_, ?_, by rw [ha]; exact h.accs, by
    have := h.said
    unfold daskS
    split
    · exact Nat.zero_le _
    · omega⟩
  · unfold daskS; split
    · exact hx
    · exact h.req
  · unfold daskS; split
    · exact h1
    · exact h.let_
  · unfold daskS; split
    · exact h2
    · exact h.txt
theorem PlayIn.recv (h : PlayIn n id k s d T) (hk : k ≤ 1000) (hid : InR .i64 id) (m : Msg) (z : Value) : PlayIn n id (k + 1) (recvS T n id s m z) (drecvS T n id d m) T := by
  have hq : (drecvS T n id d m).req = d.req := by
    unfold drecvS
    split
    · rfl
    · split <;> rfl
  refine ⟨h.ok.recv m z, by rw [hq]; exact h.req, by rw [hq]; exact h.let_, by rw [hq]; exact h.txt, fun o ho => ?_, by
    have h1 := h.said
    unfold drecvS
    split
    · omega
    · split <;> (simp only [List.length_append, List.length_singleton]; omega)⟩
  have h0 := h.accs
  have hlo := h.ok.lo
  have hhi := h.ok.hi
  obtain ⟨stamp, wait, acc, av⟩ := s
  cases wait with
  | none => exact h0 o ho
  | some w =>
    by_cases hD : recvD T n id stamp w.m w.c m = true
    · have hS : recvS T n id ⟨stamp, some w, acc, av⟩ m z = ⟨stamp, none, acc ++ [Oc.mk id (readR T n id stamp true m).1.stamp (readR T n id stamp true m).1.result], z⟩ := if_pos hD
      rw [hS] at ho
      rcases List.mem_append.1 ho with ho | ho
      · exact h0 o ho
      · rw [List.mem_singleton.1 ho]
        have hr0 : (readR T n id stamp true m).2 = 0 := by
          by_cases h1 : (readR T n id stamp true m).2 = 0
          · exact h1
          · rw [(recv_bad (M := w.m) (K := w.c) h1).2.2.2] at hD; cases hD
        have hr := readR_ok hr0
        have hn := hr.nums
        have hs2 : (readR T n id stamp true m).1.stamp = stamp := by rw [hr.val]; exact hr.stamp
        dsimp only at hlo hhi
        refine ⟨hid, ?_, ?_⟩
        · show InR .i64 (readR T n id stamp true m).1.stamp
          rw [hs2]; simp only [InR, lo, hi]; omega
        · show InR .i64 (readR T n id stamp true m).1.result
          simp only [InR, lo, hi]; omega
    · have hS : recvS T n id ⟨stamp, some w, acc, av⟩ m z = ⟨stamp, some { w with m := recvM T n id stamp w.m m, c := recvC T n id stamp w.m w.c m }, acc, z⟩ := if_neg hD
      rw [hS] at ho
      exact h0 o ho
end
end Go.Proofs.Ytmkijjmbiiiicaa.A
/-
  Parcels that are the same; no client.
-/
set_option maxRecDepth 100000
set_option linter.unusedSimpArgs false
set_option linter.unusedVariables false
namespace Go.Proofs.Ytmkijjmbiiiicaa.A
open Go.RowKit

section
variable {m : Msg} {l : List Int} {n id : Int} {x : Core}
end
end Go.Proofs.Ytmkijjmbiiiicaa.A
/-
  ClientPlays: where there is no client.
-/
set_option maxRecDepth 100000
set_option linter.unusedSimpArgs false
set_option linter.unusedVariables false
namespace Go.Proofs.Ytmkijjmbiiiicaa.A
open Go.RowKit

def PSt := Nat × CS × DS × List (ByteArray × Nat)
structure PlaysOk (n id : Int) (l : List Ac) (y : PSt) : Prop where
  le : y.1 ≤ l.length
  in_ : PlayIn n id (2 * y.1) y.2.1 y.2.2.1 y.2.2.2
section
variable {l : List Ac} {n id : Int} {p r q bd bt : Nat} {d : DS} {s : CS} {m : Msg} {T : List (ByteArray × Nat)}
end
end Go.Proofs.Ytmkijjmbiiiicaa.A
/-
  ClientPlays: both clients, beside each other.
-/
set_option maxRecDepth 100000
set_option linter.unusedSimpArgs false
set_option linter.unusedVariables false
namespace Go.Proofs.Ytmkijjmbiiiicaa.A
open Go.RowKit

theorem ac_msg (a : Ac) : A.part a.abs 14 4 = a.msg.abs := rfl
theorem ins_next {x : Core} {id stamp : Int} (hx : Core.ins x) (hid : InR .i64 id) (hs : 0 ≤ stamp ∧ stamp ≤ 1000000000) : Core.ins (nextC id stamp x) := by
  obtain ⟨g1, g2, g3, g4, g5, g6, g7⟩ := hx
  refine ⟨hid, ?_, g3, g4, g5, g6, g7⟩
  show InR .i64 (stamp + 1)
  simp only [InR, lo, hi]
  omega
section
variable {l : List Ac} {n id : Int} {p r q bd bt : Nat} {d : DS} {s : CS} {m : Msg} {T : List (ByteArray × Nat)} {x : Core}
end
end Go.Proofs.Ytmkijjmbiiiicaa.A
/-
  ClientPlays: the walk.
-/
set_option maxRecDepth 100000
set_option linter.unusedSimpArgs false
set_option linter.unusedVariables false
namespace Go.Proofs.Ytmkijjmbiiiicaa.A
open Go.RowKit

section
variable {l : List Ac} {n id : Int} {p r q bd bt : Nat} {d : DS} {s : CS} {m : Msg} {T : List (ByteArray × Nat)} {x : Core}
end
end Go.Proofs.Ytmkijjmbiiiicaa.A
/-
  Clients, plain: no lie is believed.
-/
set_option maxRecDepth 100000
set_option linter.unusedSimpArgs false
set_option linter.unusedVariables false
namespace Go.Proofs.Ytmkijjmbiiiicaa.A
open Go.RowKit Go.Maps

/-! ### Readers ahead of what was written -/
def AtR (s : Rd) (l : List UInt8) : Prop := s.e = 0 ∧ s.l = l
theorem atR_fixed {s : Rd} {x r : List UInt8} (h : AtR s (x ++ r)) {n : Int} (hn : n = x.length) : AtR (s.fixed n) r ∧ s.out n = x := by
  obtain ⟨h1, h2⟩ := h
  have hb : ¬ s.bad n := by
    unfold Rd.bad
    rw [h2, List.length_append]
    omega
  have ht : n.toNat = x.length := by omega
  unfold AtR Rd.fixed Rd.out
  simp only [h1, ne_eq, not_true_eq_false, if_false, hb, h2, ht]
  simp
theorem atR_num {s : Rd} {r : List UInt8} {v k : Nat} (h : AtR s (beBytes v k ++ r)) {n : Int} (hn : n = k) : AtR (s.fixed n) r ∧ s.num n = beVal (beBytes v k) := by
  obtain ⟨h1, h2⟩ := atR_fixed h (n := n) (by rw [beBytes_length]; exact hn)
  exact ⟨h1, by rw [Rd.num, h2]⟩
theorem u64_lt (a : Int) : u64 a < 256 ^ 8 := by
  unfold u64
  omega
theorem beVal_byte (v : Nat) : beVal (beBytes v 1) = v % 256 := by
  show (0 * 256 + (UInt8.ofNat v).toNat) = _
  simp
theorem wrap_u64 {a : Int} (h : InR .i64 a) : IntKind.i64.wrap (u64 a : Nat) = a := by
  obtain ⟨h1, h2⟩ := h
  simp only [lo, hi] at h1 h2
  unfold u64
  simp [IntKind.wrap, IntKind.bits, IntKind.signed]
  split <;> omega
/-- A reply's numbers, as they are read out of its bytes. -/
theorem rp_back (r : Rp) (hs : InR .i64 r.stamp) : (Rp.of r.bytes).stamp = r.stamp ∧ (Rp.of r.bytes).result = ((u64 r.result % 256 : Nat) : Int) := by
  have h0 : AtR (Rd.of r.bytes) (beBytes (u64 r.view) 8 ++ (beBytes (u64 r.client) 1 ++ (beBytes (u64 r.stamp) 8 ++ (beBytes (u64 r.result) 1 ++ [])))) := by
    refine ⟨rfl, ?_⟩
    show r.bytes = _
    unfold Rp.bytes
    simp only [List.append_assoc, List.append_nil]
  obtain ⟨h1, _⟩ := atR_num h0 (n := 8) rfl
  obtain ⟨h2, _⟩ := atR_num h1 (n := 1) rfl
  obtain ⟨h3, e3⟩ := atR_num h2 (n := 8) rfl
  obtain ⟨_, e4⟩ := atR_num h3 (n := 1) rfl
  have f3 : (Rp.of r.bytes).stamp = IntKind.i64.wrap (((((Rd.of r.bytes).fixed 8).fixed 1).num 8 : Nat) : Int) := by simp only [Rp.of]
  have f4 : (Rp.of r.bytes).result = ((((((Rd.of r.bytes).fixed 8).fixed 1).fixed 8).num 1 : Nat) : Int) := by simp only [Rp.of]
  rw [f3, f4, e3, e4, beVal_be _ _ (u64_lt _), beVal_byte]
  exact ⟨wrap_u64 hs, rfl⟩
theorem u8_of (a : Int) : IntKind.u8.wrap a = ((u64 a % 256 : Nat) : Int) := by
  unfold u64
  simp [IntKind.wrap, IntKind.bits, IntKind.signed]
  omega
theorem sKey_inj {a b a' b' : Int} {l l' : List UInt8} (h : sKey a b l = sKey a' b' l') : u64 a = u64 a' ∧ u64 b = u64 b' ∧ l = l' := by
  unfold sKey at h
  have h1 : beBytes (u64 a) 8 ++ beBytes (u64 b) 8 ++ l = beBytes (u64 a') 8 ++ beBytes (u64 b') 8 ++ l' := by
    have h2 := congrArg ByteArray.data h
    have h3 := congrArg Array.toList h2
    simpa using h3
  rw [List.append_assoc, List.append_assoc] at h1
  obtain ⟨h2, h3⟩ := List.append_inj h1 (by rw [beBytes_length, beBytes_length])
  obtain ⟨h4, h5⟩ := List.append_inj h3 (by rw [beBytes_length, beBytes_length])
  have e1 := beBytes_inj 8 _ _ h2
  have e2 := beBytes_inj 8 _ _ h4
  rw [Nat.mod_eq_of_lt (u64_lt _), Nat.mod_eq_of_lt (u64_lt _)] at e1 e2
  exact ⟨e1, e2, h5⟩
theorem u64_small {a b : Int} (ha : 0 ≤ a ∧ a < 100) (hb : 0 ≤ b ∧ b < 100) (h : u64 a = u64 b) : a = b := by
  unfold u64 at h
  omega

/-! ### Sets -/
abbrev Set1 (α : Type) := List (α × Unit)
def tV : Unit → Value := fun _ => .bool true
theorem set_is {α : Type} [DecidableEq α] (m : Set1 α) (a : α) : (boo (aget m a).isSome).is (((aget m a).map tV).getD (.bool false)) := by
  cases aget m a with
  | none => exact is_v
  | some u => exact is_v
theorem bool_zero : ∀ w, (zeroValue 4).run Try.prog w = .ok (.bool false) w := fun w => by kernel_rfl
def inS {α : Type} [DecidableEq α] (m : Set1 α) (a : α) : Bool := (aget m a).isSome
theorem inS_put {α : Type} [DecidableEq α] (m : Set1 α) (a c : α) : inS (aput m a ()) c = (decide (c = a) || inS m c) := by
  unfold inS
  rw [aget_aput]
  by_cases h : c = a <;> simp [h]
/-! Outcomes as keys. -/
def ocV (o : Oc) : Value := .agg o.cells.toArray
theorem oc_is (o : Oc) : (Abs.agg o.abs).is (ocV o) := is_agg (us := o.cells)
theorem oc_litsM (m : Nat) (o : Oc) (h : o.ins) : Try.prog.keyLits (m + 3) 60 o.cells = some o.lits := by
  obtain ⟨a1, a2, a3⟩ := h
  have h1 := wfIc a1
  have h2 := wfIc a2
  have h3 := wfIc a3
  have c4 : Try.prog.cellsOf 3 = 1 := by kernel_rfl
  have c5 : Try.prog.cellsOf 2 = 1 := by kernel_rfl
  have c6 : Try.prog.cellsOf 29 = 1 := by kernel_rfl
  have c7 : Try.prog.cellsOf 60 = 3 := by kernel_rfl
  simp [Program.keyLits, c7, Try.underlying60, Try.underlying3, Try.underlying2, Try.underlying29, c4, c5, c6, Oc.cells, Oc.lits, h1, h2, h3]
theorem oc_lit (o : Oc) (h : o.ins) : ∃ l, keyOf Try.prog 60 (ocV o) = some l := by
  have hk : Try.prog.keyType 60 = true := by kernel_rfl
  have hd : ∃ k, Try.prog.types.size + 1 = k + 3 := ⟨_, (rfl : Try.prog.types.size + 1 = (Try.prog.types.size - 2) + 3)⟩
  obtain ⟨k, hd⟩ := hd
  have hl := oc_litsM k o h
  unfold keyOf
  simp only [Try.underlying60, hk, show (ocV o).formed Try.prog 60 = true from oc_formed o, Bool.and_self, if_true, hd]
  rw [show (ocV o).cells.toList = o.cells from rfl, hl]
  exact ⟨_, rfl⟩
theorem oc_fit : KeyFit Try.prog 60 ocV Oc.ins where
  keyed := Maps.Keyed.of_law (deep_law_laid laid (m := 4) (by decide) (of_decide_eq_true (by kernel_rfl)) (by kernel_rfl) (by kernel_rfl))
  lit a h := oc_lit a h
  inj a b _ _ h := by
    unfold ocV at h
    injection h with h
    have h := congrArg Array.toList h
    simp only [Oc.cells, List.cons.injEq, Value.int.injEq, true_and, and_true] at h
    obtain ⟨a1, a2, a3⟩ := a
    obtain ⟨b1, b2, b3⟩ := b
    simp only [Oc.mk.injEq]
    exact h

/-! ### What stays true -/
theorem nodup_len : ∀ {l m : List Int}, l.Nodup → (∀ x ∈ l, x ∈ m) → l.length ≤ m.length
  | [], _, _, _ => Nat.zero_le _
  | x :: l, m, hd, h => by
    rw [List.nodup_cons] at hd
    have h1 := nodup_len (l := l) (m := m.erase x) hd.2 fun y hy => (List.mem_erase_of_ne (a := y) (b := x) (by rintro rfl; exact hd.1 hy)).2 (h y (List.mem_cons_of_mem _ hy))
    have hx := h x List.mem_cons_self
    have h2 := List.length_erase_of_mem hx
    have h3 := List.length_pos_of_mem hx
    rw [List.length_cons]
    omega
theorem aget_of_mem {α : Type} : ∀ {m : List (Int × α)} {p : Int × α}, (m.map (·.1)).Nodup → p ∈ m → aget m p.1 = some p.2
  | q :: m, p, hn, h => by
    rw [List.map_cons, List.nodup_cons] at hn
    rw [aget_cons]
    rcases List.mem_cons.1 h with rfl | h
    · exact if_pos rfl
    · rw [if_neg (fun e : q.1 = p.1 => hn.1 (by rw [e]; exact List.mem_map_of_mem h))]
      exact aget_of_mem hn.2 h
structure Bel (n : Int) (LY : Set1 Int) (HS : Set1 Oc) (s : CS) (T : List (ByteArray × Nat)) : Prop where
  said : ∀ a body, 0 ≤ a → a < n → inS LY a = false → hasK T (gI a (textV 12 body) n) = true → ∃ r : Rp, body = r.bytes ∧ InR .i64 r.stamp ∧ inS HS ⟨n, r.stamp, ((u64 r.result % 256 : Nat) : Int)⟩ = true
  vote : ∀ w, s.wait = some w → Votes n w.m w.c ∧ ∀ who v, aget w.m who = some v → inS LY who = false → inS HS ⟨n, s.stamp, v⟩ = true
  acc : ∀ o ∈ s.acc, inS HS o = true
section
variable {n : Int} {k : Nat} {LY : Set1 Int} {HS HS' : Set1 Oc} {s : CS} {T : List (ByteArray × Nat)} {m : Msg} {x : Core} {z : Nat × Nat × Nat × Nat} {v : Value}
theorem Bel.start : Bel n LY [] ⟨0, none, [], v⟩ [] := ⟨fun a body _ _ _ h => by simp [hasK, aget] at h, by simp, by simp⟩
theorem Bel.grow (h : Bel n LY HS s T) (hs : ∀ o, inS HS o = true → inS HS' o = true) : Bel n LY HS' s T :=
  ⟨fun a body h1 h2 h3 h4 => by obtain ⟨r, e1, e2, e3⟩ := h.said a body h1 h2 h3 h4; exact ⟨r, e1, e2, hs _ e3⟩, fun w hw => ⟨(h.vote w hw).1, fun who v h1 h2 => hs _ ((h.vote w hw).2 who v h1 h2)⟩, fun o ho => hs o (h.acc o ho)⟩
theorem Bel.tags (h : Bel n LY HS s T) (hn : 0 ≤ n ∧ n < 100) {f : Int} (hf : 0 ≤ f ∧ f < 100) (txt : List UInt8) (to : List Int)
    (hok : f < n → inS LY f = false → ∀ body, txt = textV 12 body → ∃ r : Rp, body = r.bytes ∧ InR .i64 r.stamp ∧ inS HS ⟨n, r.stamp, ((u64 r.result % 256 : Nat) : Int)⟩ = true) : Bel n LY HS s (tmG (gI f txt) T to) := by
  refine ⟨fun a body h1 h2 h3 h4 => ?_, h.vote, h.acc⟩
  rw [tmG_has, Bool.or_eq_true] at h4
  rcases h4 with h4 | h4
  · exact h.said a body h1 h2 h3 h4
  · obtain ⟨w, hw, he⟩ := List.any_eq_true.1 h4
    have he := of_decide_eq_true he
    obtain ⟨e1, _, e3⟩ := sKey_inj (show sKey a n (textV 12 body) = sKey f w txt from he)
    have e4 : a = f := u64_small ⟨h1, by omega⟩ hf e1
    subst e4
    exact hok h2 h3 body e3.symm
theorem textV_inj {k k' : Int} {l l' : List UInt8} (h : textV k l = textV k' l') : l = l' := by
  unfold textV at h
  exact (List.cons.inj h).2
theorem chk_has {who : Int} (h : chkMI T m 0 who = 0) : hasK T (gI m.from_ (textV m.kind m.body) who) = true := by
  unfold chkMI at h
  split at h
  · cases h
  · split at h
    · next h2 => exact (Bool.and_eq_true_iff.1 h2).1
    · cases h
/-- Who says so to one who waits, is honest, and isn't heard yet, said so. -/
theorem Bel.heard (h : Bel n LY HS s T) (hR : (readR T n n s.stamp true m).2 = 0) (hf : inS LY m.from_ = false) : inS HS ⟨n, s.stamp, (readR T n n s.stamp true m).1.result⟩ = true := by
  have hr := readR_ok hR
  have hk := chk_has hr.tag
  rw [hr.kind] at hk
  obtain ⟨r, e1, e2, e3⟩ := h.said m.from_ m.body hr.lo hr.hi hf hk
  obtain ⟨q1, q2⟩ := rp_back r e2
  have hp := (parseR_ok2 hr.form).2.2.2
  have hs := hr.stamp
  rw [hr.val]
  rw [hp, e1, q1] at hs
  rw [hp, e1, q2, ← hs]
  exact e3
theorem Bel.recv (h : Bel n LY HS s T) (hL : (LY.length : Int) ≤ (max n 1 - 1) / 3) (m : Msg) (z : Value) : Bel n LY HS (recvS T n n s m z) T := by
  obtain ⟨stamp, wait, acc, av⟩ := s
  cases wait with
  | none => exact h
  | some w =>
    obtain ⟨hv, hw⟩ := h.vote w rfl
    have hv2 := hv.recv (T := T) (id := n) (stamp := stamp) (m := m)
    have hw2 : ∀ who v, aget (recvM T n n stamp w.m m) who = some v → inS LY who = false → inS HS ⟨n, stamp, v⟩ = true := by
      intro who v h1 h2
      by_cases h0 : (readR T n n stamp true m).2 ≠ 0
      · rw [show recvM T n n stamp w.m m = w.m from if_pos h0] at h1
        exact hw who v h1 h2
      · rw [show recvM T n n stamp w.m m = _ from if_neg h0, aget_tAddM] at h1
        split at h1
        · next h3 =>
          cases h1
          rw [h3.1] at h2
          exact h.heard (by simpa using h0) h2
        · exact hw who v h1 h2
    by_cases hD : recvD T n n stamp w.m w.c m = true
    · rw [show recvS T n n ⟨stamp, some w, acc, av⟩ m z = ⟨stamp, none, acc ++ [Oc.mk n (readR T n n stamp true m).1.stamp (readR T n n stamp true m).1.result], z⟩ from if_pos hD]
      refine ⟨h.said, by simp, fun o ho => ?_⟩
      rcases List.mem_append.1 ho with ho | ho
      · exact h.acc o ho
      rw [List.mem_singleton.1 ho]
      have h0 : (readR T n n stamp true m).2 = 0 := by
        by_cases h1 : (readR T n n stamp true m).2 = 0
        · exact h1
        · rw [(recv_bad (M := w.m) (K := w.c) h1).2.2.2] at hD; cases hD
      have hr := readR_ok h0
      have hs2 : (readR T n n stamp true m).1.stamp = stamp := by rw [hr.val]; exact hr.stamp
      rw [hs2]
      unfold recvD at hD
      rw [Bool.and_eq_true] at hD
      have hc := of_decide_eq_true hD.2
      rw [hv2.inv.num] at hc
      -- some voter for it is honest
      generalize hM : recvM T n n stamp w.m m = M at hc hv2 hw2
      generalize hv0 : (readR T n n stamp true m).1.result = v0 at hc
      have hex : ∃ who, aget M who = some v0 ∧ inS LY who = false := by
        refine Classical.byContradiction fun hno => ?_
        have hall : ∀ who ∈ (M.filter fun p => decide (p.2 = v0)).map (·.1), who ∈ LY.map (·.1) := fun who hwho => by
          obtain ⟨p, hp, e⟩ := List.mem_map.1 hwho
          obtain ⟨hp1, hp2⟩ := List.mem_filter.1 hp
          have hp2 := of_decide_eq_true hp2
          have hg : aget M who = some v0 := by
            subst e
            rw [← hp2]
            exact aget_of_mem hv2.inv.nd hp1
          have h9 : inS LY who = true := by
            cases h8 : inS LY who with
            | true => rfl
            | false => exact absurd ⟨who, hg, h8⟩ hno
          exact (aget_isSome _ _).1 h9
        have hlen := nodup_len (l := (M.filter fun p => decide (p.2 = v0)).map (·.1)) (m := LY.map (·.1)) (hv2.inv.nd.sublist ((List.filter_sublist).map _)) hall
        rw [List.length_map, List.length_map] at hlen
        unfold cnt at hc
        omega
      obtain ⟨who, h1, h2⟩ := hex
      exact hw2 who v0 h1 h2
    · rw [show recvS T n n ⟨stamp, some w, acc, av⟩ m z = ⟨stamp, some { w with m := recvM T n n stamp w.m m, c := recvC T n n stamp w.m w.c m }, acc, z⟩ from if_neg hD]
      refine ⟨h.said, fun w' hw' => ?_, h.acc⟩
      cases hw'
      exact ⟨hv2, hw2⟩
theorem Bel.ask (h : Bel n LY HS s T) (hn : 0 ≤ n ∧ n < 100) (x : Core) (z : Nat × Nat × Nat × Nat) : Bel n LY HS (askS T n n s x z) (askST T n n s x) := by
  have hT : Bel n LY HS s (askST T n n s x) := by
    unfold askST
    split
    · exact h.tags hn hn _ _ (fun h1 => absurd h1 (by omega))
    · exact h
  obtain ⟨stamp, wait, acc, av⟩ := s
  cases wait with
  | some w => exact hT
  | none =>
    unfold askS
    dsimp only
    split
    · refine ⟨hT.said, fun w hw => ?_, hT.acc⟩
      cases hw
      exact ⟨Votes.nil, fun who v h1 _ => by simp [aget] at h1⟩
    · exact hT
/-- A reply said. -/
theorem Bel.reply (h : Bel n LY HS s T) (hn : 0 ≤ n ∧ n < 100) {f : Int} (hf : 0 ≤ f ∧ f < n) {r : Rp} (hr : InR .i64 r.stamp) (hs : inS LY f = false → inS HS ⟨n, r.stamp, ((u64 r.result % 256 : Nat) : Int)⟩ = true) (to : List Int) : Bel n LY HS s (tmG (gI f (textV 12 r.bytes)) T to) :=
  h.tags hn ⟨hf.1, by omega⟩ _ _ fun _ h2 body hb => ⟨r, (textV_inj hb).symm, hr, hs h2⟩
end
theorem COnce.up {n id : Int} {k asked : Nat} {s : CS} {T : List (ByteArray × Nat)} (h : COnce n id k asked s T) : COnce n id (k + 1) asked s T := ⟨h.stamp, by have := h.few; omega, h.accs, h.idle, h.busy, h.num, by have := h.tags; omega⟩
abbrev BSt := Nat × Nat × CS × Set1 Oc × List (ByteArray × Nat)
structure BelOk (n : Int) (LY : Set1 Int) (l : List Ac) (y : BSt) : Prop where
  le : y.1 ≤ l.length
  once : COnce n n y.1 y.2.1 y.2.2.1 y.2.2.2.2
  bel : Bel n LY y.2.2.2.1 y.2.2.1 y.2.2.2.2
  ins : ∀ o, inS y.2.2.2.1 o = true → o.ins
theorem BelOk.start {n : Int} {LY : Set1 Int} {l : List Ac} {v : Value} : BelOk n LY l (0, 0, ⟨0, none, [], v⟩, [], []) := ⟨Nat.zero_le _, COnce.start _, Bel.start, fun o h => by simp [inS, aget] at h⟩
end Go.Proofs.Ytmkijjmbiiiicaa.A
