/-
  Packed out of the texts: L7, L8, Cli3, L9, L10, L11, Cli4, L12, L13, Cli5, L14, AOpenL.
-/
import Derived.Test.YtmkijjmbiiiicaaP08
/-
  The program's client: what it takes.
-/
set_option maxRecDepth 100000
set_option linter.unusedSimpArgs false
set_option linter.unusedVariables false
namespace Go.Proofs.Ytmkijjmbiiiicaa.A
open Go.RowKit

def recvP (done : Bool) (p q t bv bn wb : Nat) (n id stamp : Int) (c : Core) (mw : Msg) (M : List (Int × Int)) (K : List (Int × Nat)) (acc : List Oc) (av : Value) : Blks :=
  if done = true then [.blk p 73 (clA q n id stamp (.pointer none) av), own 60 3 av (acc.map Oc.abs)]
  else [.blk p 73 (clA q n id stamp (ptrV wb) av), own 60 3 av (acc.map Oc.abs), .blk wb 82 (wtA c mw t), .blk t 114 [mapV bv, mapV bn], .pc (mapPc bv intK intK intOk M), .pc (mapPc bn intK cntV intOk K)]
theorem recvP_rids {done : Bool} {p q t bv bn wb : Nat} {n id stamp : Int} {c : Core} {mw : Msg} {M : List (Int × Int)} {K : List (Int × Nat)} {acc : List Oc} {av : Value} : ∀ x ∈ recvP done p q t bv bn wb n id stamp c mw M K acc av, x.rids = [] := by
  unfold recvP
  split <;> simp [It.rids, own]
section
variable {p q bd bt wb t bv bn : Nat} {n id stamp k who : Int} {av w : Value} {x c : Core} {m mw : Msg} {acc : List Oc} {T : List (ByteArray × Nat)} {M : List (Int × Int)} {K : List (Int × Nat)}
theorem er_countR_s (hk : intOk k) : Spec Try.prog 30 [ptr t, int k] [.rd t 114 [mapV bv, mapV bn], .rdpc (mapPc bv intK intK intOk M), .rdpc (mapPc bn intK cntV intOk K)] (fun _ : Unit => []) (fun _ => int ((cget K k : Nat) : Int)) := by
  refine spec_of Try.func30 rfl Try.ntmps30 rfl fun G w => ?_
  refine SC.seq (SC.region ?_)
  refine SL.val (Val.assign rfl) rfl rfl ?_
  refine SL.nil (SE.seq ?_)
  refine SC.seq ?_
  refine SC.seq (SC.region ?_)
  refine SL.val (Val.move rfl) rfl rfl ?_
  refine SL.val (Val.eqP rfl rfl (by kernel_rfl)) rfl rfl ?_
  refine SL.nil (SE.seq ?_)
  refine SC.condF rfl ?_
  refine SC.skip ?_
  refine SE.seq ?_
  refine SC.seq (SC.region ?_)
  refine SL.val (Val.move rfl) rfl rfl ?_
  refine SL.val (Val.nilCheck rfl) rfl rfl ?_
  refine SL.val (Val.fieldAddr tabOk rfl rfl rfl rfl rfl) rfl rfl ?_
  refine SL.val (Val.load1 tabOk rfl rfl (by first|(apply Or.inl;(repeat first|assumption|exact m0|apply m1);done)|(apply Or.inr;(repeat first|assumption|exact m0|apply m1);done)) List.not_mem_nil (by rfl)) rfl rfl ?_
  refine SL.val (Val.move rfl) rfl rfl ?_
  refine SL.val (Val.mapGet (a := k) (zv := cntV 0) (C := int ((cget K k : Nat) : Int)) (int_fit Try.underlying29) Try.underlying112 int_zero rfl (by first|(apply Or.inl;(repeat first|assumption|exact m0|apply m1);done)|(apply Or.inr;(repeat first|assumption|exact m0|apply m1);done)) List.not_mem_nil rfl (er_is _) hk (cget_is _ _)) rfl rfl ?_
  refine SL.val (Val.assign rfl) rfl rfl ?_
  refine SL.nil (SE.seq ?_)
  refine SC.ret ?_
  refine SE.fin (rs := [.tmp 4]) rfl (RV.tmp rfl RV.nil) (()) (by repeat first|exact s0 _|exact s1 _|apply s2|apply s3) (by simp [It.rids]) ?_
  exact rfl
theorem er_ofR_s (hw : intOk who) : Spec Try.prog 28 [ptr t, int who] [.rd t 114 [mapV bv, mapV bn], .rdpc (mapPc bv intK intK intOk M), .rdpc (mapPc bn intK cntV intOk K)] (fun _ : Unit => []) (fun _ => .tup [erA (aget M who), boo (aget M who).isSome]) := by
  refine spec_of Try.func28 rfl Try.ntmps28 rfl fun G w => ?_
  refine SC.seq (SC.region ?_)
  refine SL.val (Val.assign rfl) rfl rfl ?_
  refine SL.val (Val.assign rfl) rfl rfl ?_
  refine SL.nil (SE.seq ?_)
  refine SC.seq ?_
  refine SC.seq (SC.region ?_)
  refine SL.val (Val.move rfl) rfl rfl ?_
  refine SL.val (Val.eqP rfl rfl (by kernel_rfl)) rfl rfl ?_
  refine SL.nil (SE.seq ?_)
  refine SC.condF rfl ?_
  refine SC.skip ?_
  refine SE.seq ?_
  refine SC.seq (SC.region ?_)
  refine SL.val (Val.move rfl) rfl rfl ?_
  refine SL.val (Val.nilCheck rfl) rfl rfl ?_
  refine SL.val (Val.fieldAddr tabOk rfl rfl rfl rfl rfl) rfl rfl ?_
  refine SL.val (Val.load1 tabOk rfl rfl (by first|(apply Or.inl;(repeat first|assumption|exact m0|apply m1);done)|(apply Or.inr;(repeat first|assumption|exact m0|apply m1);done)) List.not_mem_nil (by rfl)) rfl rfl ?_
  refine SL.val (Val.move rfl) rfl rfl ?_
  refine SL.val (Val.mapGetOk (a := who) (zv := .int .i64 0) (C := erA (aget M who)) (int_fit Try.underlying3) Try.underlying111 er_zero rfl (by first|(apply Or.inl;(repeat first|assumption|exact m0|apply m1);done)|(apply Or.inr;(repeat first|assumption|exact m0|apply m1);done)) List.not_mem_nil rfl is_v hw (erA_is _)) rfl rfl ?_
  refine SL.val (Val.move rfl) rfl rfl ?_
  refine SL.val (Val.extract rfl rfl) rfl rfl ?_
  refine SL.val (Val.extract rfl rfl) rfl rfl ?_
  refine SL.val (Val.assign rfl) rfl rfl ?_
  refine SL.val (Val.assign rfl) rfl rfl ?_
  refine SL.nil (SE.seq ?_)
  refine SC.seq (SC.region ?_)
  refine SL.val (Val.move rfl) rfl rfl ?_
  refine SL.val (Val.move rfl) rfl rfl ?_
  refine SL.val (Val.assign rfl) rfl rfl ?_
  refine SL.val (Val.assign rfl) rfl rfl ?_
  refine SL.nil (SE.seq ?_)
  refine SC.ret ?_
  refine SE.fin (rs := [.tmp 4, .tmp 5]) rfl (RV.tmp rfl (RV.tmp rfl RV.nil)) (()) (by repeat first|exact s0 _|exact s1 _|apply s2|apply s3) (by simp [It.rids]) ?_
  exact rfl
set_option maxHeartbeats 8000000 in
theorem recvw_s (hl : m.body.length ≤ 100000) (hn : Num1 T) (hT : T.length < 1000000) (hti : TInv M K) (hM : M.length ≤ 1000) (hok : ∀ w v, aget M w = some v → intOk v) (ha : acc.length ≤ 100000) : Spec Try.prog 11 [ptr p, .agg m.abs] [.blk p 73 (clA q n id stamp (ptrV wb) av), own 60 3 av (acc.map Oc.abs), .blk wb 82 (wtA c mw t), .blk t 114 [mapV bv, mapV bn], .pc (mapPc bv intK intK intOk (M)), .pc (mapPc bn intK cntV intOk (K)), .rd q 68 [mapV bd, mapV bt], .rdpc (mapPc bt Value.string cntV sOk (T))] (fun z : Value => recvP (recvD T n id stamp M K m) p q t bv bn wb n id stamp c mw (recvM T n id stamp M m) (recvC T n id stamp M K m) (if recvD T n id stamp M K m = true then (acc ++ [Oc.mk id (readR T n id stamp true m).1.stamp (readR T n id stamp true m).1.result]) else acc) z) (fun _ => int (recvE T n id stamp M m)) := by
  refine spec_of Try.func11 rfl Try.ntmps11 rfl fun G w => ?_
  refine SC.seq (SC.region ?_)
  refine SL.eff (Eff.boxA (cs := m.abs) rfl) rfl rfl ?_
  rintro _ _ ⟨b3, rfl, rfl⟩
  refine SL.val (Val.assign rfl) rfl rfl ?_
  refine SL.nil (SE.seq ?_)
  refine SC.seq ?_
  refine SC.seq (SC.region ?_)
  refine SL.val (Val.move rfl) rfl rfl ?_
  refine SL.val (Val.eqP rfl rfl (by kernel_rfl)) rfl rfl ?_
  refine SL.nil (SE.seq ?_)
  refine SC.condF rfl ?_
  refine SC.skip ?_
  refine SE.seq ?_
  refine SC.seq (SC.region ?_)
  refine SL.val (Val.move rfl) rfl rfl ?_
  refine SL.val (Val.loadA tabOk rfl rfl rfl (by first|(apply Or.inl;(repeat first|assumption|exact m0|apply m1);done)|(apply Or.inr;(repeat first|assumption|exact m0|apply m1);done)) List.not_mem_nil rfl) rfl rfl ?_
  refine SL.call (readw_s (p := p) (q := q) (bd := bd) (bt := bt) (n := n) (id := id) (stamp := stamp) (av := av) (wb := wb) (m := m) (T := T) hl hn hT) Casts.refl (by kernel_rfl) rfl rfl rfl ?_
  refine After.pure (by repeat (first | exact Reads.nil | (refine Reads.blk ?_ ?_; focus ((repeat first|assumption|exact m0|apply m1); done)) | (refine Reads.rd ?_ ?_; focus ((repeat first|assumption|exact m0|apply m1); done)) | (refine Reads.pc ?_ ?_; focus ((repeat first|assumption|exact m0|apply m1); done)) | (refine Reads.rdpc ?_ ?_; focus ((repeat first|assumption|exact m0|apply m1); done)))) (fun _ => rfl) ?_
  intro _
  refine SL.val (Val.move rfl) rfl rfl ?_
  refine SL.val (Val.extract rfl rfl) rfl rfl ?_
  refine SL.val (Val.extract rfl rfl) rfl rfl ?_
  refine SL.eff (Eff.alloc tabOk rfl) rfl rfl ?_
  rintro _ _ ⟨b5, rfl, rfl⟩
  refine SL.eff (Eff.store (L' := (readR T n id stamp true m).1.abs) tabOk rfl rfl rfl (by repeat first|assumption|exact Upd.here|apply Upd.there) rfl (Nat.le_of_ble_eq_true (by rfl)) rfl (by exact putL_whole rfl)) rfl rfl ?_
  rintro _ _ ⟨rfl, rfl⟩
  refine SL.val (Val.assign rfl) rfl rfl ?_
  refine SL.nil (SE.seq ?_)
  refine SC.seq ?_
  refine SC.seq (SC.region ?_)
  refine SL.val (Val.move rfl) rfl rfl ?_
  refine SL.val (Val.neI rfl rfl) rfl rfl ?_
  refine SL.nil (SE.seq ?_)
  refine SC.condP rfl ?_ ?_
  · intro hc18
    refine SC.seq (SC.region ?_)
    refine SL.val (Val.move rfl) rfl rfl ?_
    refine SL.val (Val.assign rfl) rfl rfl ?_
    refine SL.nil (SE.seq ?_)
    refine SC.ret ?_
    refine SE.then_ (by intro h; cases h) ?_
    have hbd := recv_bad (M := M) (K := K) (show (readR T n id stamp true m).2 ≠ 0 from hc18)
    refine SE.fin (rs := [.tmp 4]) rfl (RV.tmp rfl RV.nil) (av) (by rw [hbd.2.2.2, hbd.2.1, hbd.2.2.1]; unfold recvP; rw [if_neg (by decide), if_neg (by decide)]; repeat (first | exact List.nil_sublist _ | exact List.Sublist.refl _ | apply List.Sublist.cons_cons | apply List.Sublist.cons)) recvP_rids ?_
    rw [hbd.1]
    rfl
  intro hc18
  have hR0 : (readR T n id stamp true m).2 = 0 := by omega
  have hRd := readR_ok hR0
  have hNm := hRd.nums
  have hlo := hRd.lo
  have hhi := hRd.hi
  have hFrom : intOk m.from_ := by simp only [InR, lo, hi]; omega
  have hRes : intOk (readR T n id stamp true m).1.result := by simp only [InR, lo, hi]; omega
  refine SC.skip ?_
  refine SE.seq ?_
  refine SC.seq ?_
  refine SC.seq ?_
  refine SC.draw [] (.q 0 (.q 1 (.q 2 (.q 3 (.q 4 (.q 5 (.q 6 (.q 7 (.q 8 (.e 9 (.q 10 (.q 11 (.q 12 (.q 13 (.q 14 .nil))))))))))))))) (by kernel_rfl) (by kernel_rfl) ?_
  refine SX.val rfl (Val.move rfl) (by simp) rfl rfl ?_
  refine SX.val rfl (Val.nilCheck rfl) (by simp) rfl rfl ?_
  refine SX.val rfl (Val.fieldAddr tabOk rfl rfl rfl rfl rfl) (by simp) rfl rfl ?_
  refine SX.val rfl (Val.to (C := ptr wb) (Val.load1 tabOk rfl rfl (by first|(apply Or.inl;(repeat first|assumption|exact m0|apply m1);done)|(apply Or.inr;(repeat first|assumption|exact m0|apply m1);done)) List.not_mem_nil (by rfl)) rfl) (by first | (simp [mids, It.mids, ownPc, mapPc]; done) | (intro k hk; simp [mids, It.mids, ownPc, mapPc] at hk ⊢; grind)) rfl rfl ?_
  refine SX.val rfl (Val.nilCheck rfl) (by simp) rfl rfl ?_
  refine SX.val rfl (Val.fieldAddr tabOk rfl rfl rfl rfl rfl) (by simp) rfl rfl ?_
  refine SX.val rfl (Val.to (C := ptr t) (Val.load1 tabOk rfl rfl (by first|(apply Or.inl;(repeat first|assumption|exact m0|apply m1);done)|(apply Or.inr;(repeat first|assumption|exact m0|apply m1);done)) List.not_mem_nil (by rfl)) rfl) (by first | (simp [mids, It.mids, ownPc, mapPc]; done) | (intro k hk; simp [mids, It.mids, ownPc, mapPc] at hk ⊢; grind)) rfl rfl ?_
  refine SX.val rfl (Val.fieldAddr tabOk rfl rfl rfl rfl rfl) (by simp) rfl rfl ?_
  refine SX.val rfl (Val.load1 tabOk rfl rfl (by first|(apply Or.inl;(repeat first|assumption|exact m0|apply m1);done)|(apply Or.inr;(repeat first|assumption|exact m0|apply m1);done)) List.not_mem_nil (by rfl)) (by simp) rfl rfl ?_
  refine SX.call rfl (er_ofR_s (t := t) (bv := bv) (bn := bn) (M := M) (K := K) (who := m.from_) hFrom) (by simp [mids, It.mids]) Casts.refl (by kernel_rfl) rfl rfl rfl ?_
  refine After.pure (by repeat (first | exact Reads.nil | (refine Reads.blk ?_ ?_; focus ((repeat first|assumption|exact m0|apply m1); done)) | (refine Reads.rd ?_ ?_; focus ((repeat first|assumption|exact m0|apply m1); done)) | (refine Reads.pc ?_ ?_; focus ((repeat first|assumption|exact m0|apply m1); done)) | (refine Reads.rdpc ?_ ?_; focus ((repeat first|assumption|exact m0|apply m1); done)))) (fun _ => rfl) ?_
  intro _
  refine SX.val rfl (Val.move rfl) (by simp) rfl rfl ?_
  refine SX.val rfl (Val.extract rfl rfl) (by simp) rfl rfl ?_
  refine SX.val rfl (Val.extract rfl rfl) (by simp) rfl rfl ?_
  refine SX.val rfl (Val.assign rfl) (by simp) rfl rfl ?_
  refine SX.val rfl (Val.assign rfl) (by simp) rfl rfl ?_
  refine SX.nil (SE.seq ?_)
  refine SC.seq (SC.region ?_)
  refine SL.val (Val.move rfl) rfl rfl ?_
  refine SL.nil (SE.seq ?_)
  refine SC.cond rfl ?_ ?_
  · intro hc33
    refine SC.seq (SC.region ?_)
    refine SL.val (Val.assign rfl) rfl rfl ?_
    refine SL.nil (SE.seq ?_)
    refine SC.ret ?_
    refine SE.then_ (by intro h; cases h) ?_
    obtain ⟨v, hv⟩ := isSome_some hc33
    have htw := recv_twice (K := K) hR0 hv
    refine SE.fin (rs := [.tmp 4]) rfl (RV.tmp rfl RV.nil) (av) (by rw [htw.2.2.2, htw.2.1, htw.2.2.1]; unfold recvP; rw [if_neg (by decide), if_neg (by decide)]; repeat (first | exact List.nil_sublist _ | exact List.Sublist.refl _ | apply List.Sublist.cons_cons | apply List.Sublist.cons)) recvP_rids ?_
    rw [htw.1]
    rfl
  intro hc33
  have hv : aget M m.from_ = none := by simpa using hc33
  have hnw := recv_new (K := K) hR0 hv
  refine SC.skip ?_
  refine SE.seq ?_
  refine SC.seq ?_
  refine SC.known (p := p ∉ [t, bv, bn] ∧ wb ∉ [t, bv, bn] ∧ b3 ∉ [t, bv, bn] ∧ b5 ∉ [t, bv, bn]) (fun _ _ h => by
      have h1 := h.mem.nodup
      simp [mids, It.mids, ownPc, mapPc] at h1 ⊢
      grind) fun hX => ?_
  refine SC.draw [t, bv, bn] (.q 0 (.q 1 (.q 2 (.q 3 (.q 4 (.q 5 (.q 6 (.q 7 (.q 8 (.q 9 (.q 10 (.e 11 .nil)))))))))))) (by kernel_rfl) (by kernel_rfl) ?_
  refine SX.val rfl (Val.move rfl) (by first | (simp [mids, It.mids, ownPc, mapPc]; done) | (intro k hk; simp [mids, It.mids, ownPc, mapPc] at hk ⊢; grind)) rfl rfl ?_
  refine SX.val rfl (Val.nilCheck rfl) (by first | (simp [mids, It.mids, ownPc, mapPc]; done) | (intro k hk; simp [mids, It.mids, ownPc, mapPc] at hk ⊢; grind)) rfl rfl ?_
  refine SX.val rfl (Val.fieldAddr tabOk rfl rfl rfl rfl rfl) (by first | (simp [mids, It.mids, ownPc, mapPc]; done) | (intro k hk; simp [mids, It.mids, ownPc, mapPc] at hk ⊢; grind)) rfl rfl ?_
  refine SX.val rfl (Val.to (C := ptr wb) (Val.load1 tabOk rfl rfl (by first|(apply Or.inl;(repeat first|assumption|exact m0|apply m1);done)|(apply Or.inr;(repeat first|assumption|exact m0|apply m1);done)) (by first | exact hX.1 | exact hX.2.1 | exact hX.2.2.1 | exact hX.2.2.2) (by rfl)) rfl) (by first | (simp [mids, It.mids, ownPc, mapPc]; done) | (intro k hk; simp [mids, It.mids, ownPc, mapPc] at hk ⊢; grind)) rfl rfl ?_
  refine SX.val rfl (Val.nilCheck rfl) (by first | (simp [mids, It.mids, ownPc, mapPc]; done) | (intro k hk; simp [mids, It.mids, ownPc, mapPc] at hk ⊢; grind)) rfl rfl ?_
  refine SX.val rfl (Val.fieldAddr tabOk rfl rfl rfl rfl rfl) (by first | (simp [mids, It.mids, ownPc, mapPc]; done) | (intro k hk; simp [mids, It.mids, ownPc, mapPc] at hk ⊢; grind)) rfl rfl ?_
  refine SX.val rfl (Val.to (C := ptr t) (Val.load1 tabOk rfl rfl (by first|(apply Or.inl;(repeat first|assumption|exact m0|apply m1);done)|(apply Or.inr;(repeat first|assumption|exact m0|apply m1);done)) (by first | exact hX.1 | exact hX.2.1 | exact hX.2.2.1 | exact hX.2.2.2) (by rfl)) rfl) (by first | (simp [mids, It.mids, ownPc, mapPc]; done) | (intro k hk; simp [mids, It.mids, ownPc, mapPc] at hk ⊢; grind)) rfl rfl ?_
  refine SX.val rfl (Val.fieldAddr tabOk rfl rfl rfl rfl rfl) (by first | (simp [mids, It.mids, ownPc, mapPc]; done) | (intro k hk; simp [mids, It.mids, ownPc, mapPc] at hk ⊢; grind)) rfl rfl ?_
  refine SX.val rfl (Val.load1 tabOk rfl rfl (by first|(apply Or.inl;(repeat first|assumption|exact m0|apply m1);done)|(apply Or.inr;(repeat first|assumption|exact m0|apply m1);done)) (by first | exact hX.1 | exact hX.2.1 | exact hX.2.2.1 | exact hX.2.2.2) (by rfl)) (by first | (simp [mids, It.mids, ownPc, mapPc]; done) | (intro k hk; simp [mids, It.mids, ownPc, mapPc] at hk ⊢; grind)) rfl rfl ?_
  refine SX.val rfl (Val.fieldAddr tabOk rfl rfl rfl rfl rfl) (by first | (simp [mids, It.mids, ownPc, mapPc]; done) | (intro k hk; simp [mids, It.mids, ownPc, mapPc] at hk ⊢; grind)) rfl rfl ?_
  refine SX.val rfl (Val.load1 tabOk rfl rfl (by first|(apply Or.inl;(repeat first|assumption|exact m0|apply m1);done)|(apply Or.inr;(repeat first|assumption|exact m0|apply m1);done)) (by first | exact hX.1 | exact hX.2.1 | exact hX.2.2.1 | exact hX.2.2.2) (by rfl)) (by first | (simp [mids, It.mids, ownPc, mapPc]; done) | (intro k hk; simp [mids, It.mids, ownPc, mapPc] at hk ⊢; grind)) rfl rfl ?_
  refine SX.call rfl (er_add_s (t := t) (bv := bv) (bn := bn) (m := M) (c := K) (who := m.from_) (k := (readR T n id stamp true m).1.result) hFrom hti hM hRes hok) (by simp [mids, It.mids, mapPc]) Casts.refl (by kernel_rfl) rfl rfl rfl ?_
  refine After.mid [_, _, _, _, _] (β := [_, _]) rfl (by intro x hx; simp only [List.mem_cons, List.not_mem_nil, or_false] at hx; rcases hx with rfl | rfl | rfl <;> rfl) ?_
  intro _
  refine SX.nil (SE.seq ?_)
  refine SC.seq ?_
  refine SC.seq ?_
  refine SC.draw [] (.q 0 (.q 1 (.q 2 (.q 3 (.q 4 (.q 5 (.q 6 (.q 7 (.q 8 (.q 10 (.q 11 (.q 12 (.q 13 (.e 9 (.e 14 (.q 15 .nil)))))))))))))))) (by kernel_rfl) (by kernel_rfl) ?_
  refine SX.val rfl (Val.move rfl) (by simp) rfl rfl ?_
  refine SX.val rfl (Val.nilCheck rfl) (by simp) rfl rfl ?_
  refine SX.val rfl (Val.fieldAddr tabOk rfl rfl rfl rfl rfl) (by simp) rfl rfl ?_
  refine SX.val rfl (Val.to (C := ptr wb) (Val.load1 tabOk rfl rfl (by first|(apply Or.inl;(repeat first|assumption|exact m0|apply m1);done)|(apply Or.inr;(repeat first|assumption|exact m0|apply m1);done)) List.not_mem_nil (by rfl)) rfl) (by first | (simp [mids, It.mids, ownPc, mapPc]; done) | (intro k hk; simp [mids, It.mids, ownPc, mapPc] at hk ⊢; grind)) rfl rfl ?_
  refine SX.val rfl (Val.nilCheck rfl) (by simp) rfl rfl ?_
  refine SX.val rfl (Val.fieldAddr tabOk rfl rfl rfl rfl rfl) (by simp) rfl rfl ?_
  refine SX.val rfl (Val.to (C := ptr t) (Val.load1 tabOk rfl rfl (by first|(apply Or.inl;(repeat first|assumption|exact m0|apply m1);done)|(apply Or.inr;(repeat first|assumption|exact m0|apply m1);done)) List.not_mem_nil (by rfl)) rfl) (by first | (simp [mids, It.mids, ownPc, mapPc]; done) | (intro k hk; simp [mids, It.mids, ownPc, mapPc] at hk ⊢; grind)) rfl rfl ?_
  refine SX.val rfl (Val.fieldAddr tabOk rfl rfl rfl rfl rfl) (by simp) rfl rfl ?_
  refine SX.val rfl (Val.load1 tabOk rfl rfl (by first|(apply Or.inl;(repeat first|assumption|exact m0|apply m1);done)|(apply Or.inr;(repeat first|assumption|exact m0|apply m1);done)) List.not_mem_nil (by rfl)) (by simp) rfl rfl ?_
  refine SX.val rfl (Val.move rfl) (by simp) rfl rfl ?_
  refine SX.val rfl (Val.nilCheck rfl) (by simp) rfl rfl ?_
  refine SX.val rfl (Val.fieldAddr tabOk rfl rfl rfl rfl rfl) (by simp) rfl rfl ?_
  refine SX.val rfl (Val.load1 tabOk rfl rfl (by first|(apply Or.inl;(repeat first|assumption|exact m0|apply m1);done)|(apply Or.inr;(repeat first|assumption|exact m0|apply m1);done)) List.not_mem_nil (by rfl)) (by simp) rfl rfl ?_
  refine SX.call rfl (er_countR_s (t := t) (bv := bv) (bn := bn) (M := tAddM M m.from_ (readR T n id stamp true m).1.result) (K := tAddC M K m.from_ (readR T n id stamp true m).1.result) (k := (readR T n id stamp true m).1.result) hRes) (by simp [mids, It.mids]) Casts.refl (by kernel_rfl) rfl rfl rfl ?_
  refine After.pure (by repeat (first | exact Reads.nil | (refine Reads.blk ?_ ?_; focus ((repeat first|assumption|exact m0|apply m1); done)) | (refine Reads.rd ?_ ?_; focus ((repeat first|assumption|exact m0|apply m1); done)) | (refine Reads.pc ?_ ?_; focus ((repeat first|assumption|exact m0|apply m1); done)) | (refine Reads.rdpc ?_ ?_; focus ((repeat first|assumption|exact m0|apply m1); done)))) (fun _ => rfl) ?_
  intro _
  refine SX.call rfl (faults_s (n := n) (by omega)) (by simp [mids, It.mids]) Casts.refl (by kernel_rfl) rfl rfl rfl ?_
  refine After.pure (by repeat (first | exact Reads.nil | (refine Reads.blk ?_ ?_; focus ((repeat first|assumption|exact m0|apply m1); done)) | (refine Reads.rd ?_ ?_; focus ((repeat first|assumption|exact m0|apply m1); done)) | (refine Reads.pc ?_ ?_; focus ((repeat first|assumption|exact m0|apply m1); done)) | (refine Reads.rdpc ?_ ?_; focus ((repeat first|assumption|exact m0|apply m1); done)))) (fun _ => rfl) ?_
  intro _
  refine SX.val rfl (Val.gtI rfl rfl) (by simp) rfl rfl ?_
  refine SX.nil (SE.seq ?_)
  refine SC.condP rfl ?_ ?_
  rotate_left
  · intro hc61
    refine SC.skip ?_
    refine SE.seq ?_
    refine SC.seq (SC.region ?_)
    refine SL.val (Val.assign rfl) rfl rfl ?_
    refine SL.nil (SE.seq ?_)
    refine SC.ret ?_
    have hD : recvD T n id stamp M K m = false := by rw [hnw.2.2.2]; exact decide_eq_false (by omega)
    refine SE.fin (rs := [.tmp 4]) rfl (RV.tmp rfl RV.nil) (av) (by rw [hD, hnw.2.1, hnw.2.2.1]; unfold recvP; rw [if_neg (by decide), if_neg (by decide)]; repeat (first | exact List.nil_sublist _ | exact List.Sublist.refl _ | apply List.Sublist.cons_cons | apply List.Sublist.cons)) recvP_rids ?_
    rw [hnw.1]
    rfl
  intro hc61
  refine SC.seq ?_
  refine SC.known (p := p ∉ (av.ownBlock.toList ++ []) ∧ b5 ∉ (av.ownBlock.toList ++ [])) (fun _ _ h => by
      have h1 := h.mem.nodup
      simp [mids, It.mids, ownPc, mapPc] at h1 ⊢
      grind) fun hX => ?_
  refine SC.drawZ (av.ownBlock.toList ++ []) (.q 0 (.q 1 (.q 2 (.q 3 (.q 4 (.q 5 (.q 6 (.q 7 (.q 8 (.q 9 (.q 10 (.q 11 (.q 12 (.q 13 (.e 14 (.e 15 (.q 16 (.q 17 .nil)))))))))))))))))) (by kernel_rfl) (by kernel_rfl) ?_
  refine SX.val rfl (Val.move rfl) (by first | (simp [mids, It.mids, ownPc, mapPc]; done) | (intro k hk; simp [mids, It.mids, ownPc, mapPc] at hk ⊢; grind)) rfl rfl ?_
  refine SX.val rfl (Val.move rfl) (by first | (simp [mids, It.mids, ownPc, mapPc]; done) | (intro k hk; simp [mids, It.mids, ownPc, mapPc] at hk ⊢; grind)) rfl rfl ?_
  refine SX.val rfl (Val.nilCheck rfl) (by first | (simp [mids, It.mids, ownPc, mapPc]; done) | (intro k hk; simp [mids, It.mids, ownPc, mapPc] at hk ⊢; grind)) rfl rfl ?_
  refine SX.val rfl (Val.fieldAddr tabOk rfl rfl rfl rfl rfl) (by first | (simp [mids, It.mids, ownPc, mapPc]; done) | (intro k hk; simp [mids, It.mids, ownPc, mapPc] at hk ⊢; grind)) rfl rfl ?_
  refine SX.val rfl (Val.load1 tabOk rfl rfl (by first|(apply Or.inl;(repeat first|assumption|exact m0|apply m1);done)|(apply Or.inr;(repeat first|assumption|exact m0|apply m1);done)) (by first | exact hX.1 | exact hX.2) (by rfl)) (by first | (simp [mids, It.mids, ownPc, mapPc]; done) | (intro k hk; simp [mids, It.mids, ownPc, mapPc] at hk ⊢; grind)) rfl rfl ?_
  refine SX.val rfl (Val.move rfl) (by first | (simp [mids, It.mids, ownPc, mapPc]; done) | (intro k hk; simp [mids, It.mids, ownPc, mapPc] at hk ⊢; grind)) rfl rfl ?_
  refine SX.val rfl (Val.nilCheck rfl) (by first | (simp [mids, It.mids, ownPc, mapPc]; done) | (intro k hk; simp [mids, It.mids, ownPc, mapPc] at hk ⊢; grind)) rfl rfl ?_
  refine SX.val rfl (Val.fieldAddr tabOk rfl rfl rfl rfl rfl) (by first | (simp [mids, It.mids, ownPc, mapPc]; done) | (intro k hk; simp [mids, It.mids, ownPc, mapPc] at hk ⊢; grind)) rfl rfl ?_
  refine SX.val rfl (Val.load1 tabOk rfl rfl (by first|(apply Or.inl;(repeat first|assumption|exact m0|apply m1);done)|(apply Or.inr;(repeat first|assumption|exact m0|apply m1);done)) (by first | exact hX.1 | exact hX.2) (by rfl)) (by first | (simp [mids, It.mids, ownPc, mapPc]; done) | (intro k hk; simp [mids, It.mids, ownPc, mapPc] at hk ⊢; grind)) rfl rfl ?_
  refine SX.val rfl (Val.fieldAddr tabOk rfl rfl rfl rfl rfl) (by first | (simp [mids, It.mids, ownPc, mapPc]; done) | (intro k hk; simp [mids, It.mids, ownPc, mapPc] at hk ⊢; grind)) rfl rfl ?_
  refine SX.val rfl (Val.load1 tabOk rfl rfl (by first|(apply Or.inl;(repeat first|assumption|exact m0|apply m1);done)|(apply Or.inr;(repeat first|assumption|exact m0|apply m1);done)) (by first | exact hX.1 | exact hX.2) (by rfl)) (by first | (simp [mids, It.mids, ownPc, mapPc]; done) | (intro k hk; simp [mids, It.mids, ownPc, mapPc] at hk ⊢; grind)) rfl rfl ?_
  refine SX.val rfl (Val.fieldAddr tabOk rfl rfl rfl rfl rfl) (by first | (simp [mids, It.mids, ownPc, mapPc]; done) | (intro k hk; simp [mids, It.mids, ownPc, mapPc] at hk ⊢; grind)) rfl rfl ?_
  refine SX.val rfl (Val.load1 tabOk rfl rfl (by first|(apply Or.inl;(repeat first|assumption|exact m0|apply m1);done)|(apply Or.inr;(repeat first|assumption|exact m0|apply m1);done)) (by first | exact hX.1 | exact hX.2) (by rfl)) (by first | (simp [mids, It.mids, ownPc, mapPc]; done) | (intro k hk; simp [mids, It.mids, ownPc, mapPc] at hk ⊢; grind)) rfl rfl ?_
  refine SX.val rfl (Val.buildS (L := Oc.abs (Oc.mk id (readR T n id stamp true m).1.stamp (readR T n id stamp true m).1.result)) tabOk rfl rfl rfl rfl) (by first | (simp [mids, It.mids, ownPc, mapPc]; done) | (intro k hk; simp [mids, It.mids, ownPc, mapPc] at hk ⊢; grind)) rfl rfl ?_
  refine SX.eff rfl (Eff.buildSl tabOk Try.underlying42 rfl rfl rfl rfl rfl rfl rfl) (by simp) rfl rfl ?_
  rintro _ _ ⟨rfl, rfl⟩
  refine SX.effX [] rfl (Eff.appendE (zs := (acc ++ [Oc.mk id (readR T n id stamp true m).1.stamp (readR T n id stamp true m).1.result]).map Oc.abs) tabOk [_, _, _] (by rw [List.map_append]; rfl) Try.underlying42 rfl rfl rfl rfl rfl rfl (by intro c hc; rw [List.mem_singleton] at hc; subst hc; rfl) (by unfold maxLen; simp only [List.length_map, List.length_cons, List.length_nil]; omega) (by rw [show Try.prog.bytesOf 60 = 24 by kernel_rfl]; simp only [List.length_map, List.length_cons, List.length_nil]; omega)) (fun k hk => List.mem_append_left _ hk) (by simp) rfl rfl ?_
  rintro _ _ ⟨r77, rfl, rfl⟩
  refine SX.val rfl (Val.nilCheck rfl) (by first | (simp [mids, It.mids, ownPc, mapPc]; done) | (intro k hk; simp [mids, It.mids, ownPc, mapPc] at hk ⊢; grind)) rfl rfl ?_
  refine SX.val rfl (Val.fieldAddr tabOk rfl rfl rfl rfl rfl) (by first | (simp [mids, It.mids, ownPc, mapPc]; done) | (intro k hk; simp [mids, It.mids, ownPc, mapPc] at hk ⊢; grind)) rfl rfl ?_
  refine SX.nil ?_
  first
    | refine SE.effZ rfl (Eff.store tabOk rfl rfl rfl (by repeat first|assumption|exact Upd.here|apply Upd.there) (by rfl) (Nat.le_of_ble_eq_true (by rfl)) (by rfl) (by rfl)) rfl rfl ?_
    | refine SE.effZ rfl (Eff.storeOwn tabOk rfl rfl rfl rfl (by repeat first|assumption|exact m0|apply m1) (by repeat first|assumption|exact Upd.here|apply Upd.there) rfl (by rfl)) rfl rfl ?_
  rintro _ _ ⟨rfl, rfl⟩
  refine SE.seq ?_
  refine SC.region ?_
  refine SL.val (Val.move rfl) rfl rfl ?_
  refine SL.val (Val.nilCheck rfl) rfl rfl ?_
  refine SL.val (Val.fieldAddr tabOk rfl rfl rfl rfl rfl) rfl rfl ?_
  refine SL.eff (Eff.store tabOk rfl rfl rfl (by repeat first|assumption|exact Upd.here|apply Upd.there) (by rfl) (Nat.le_of_ble_eq_true (by rfl)) (by rfl) (by rfl)) rfl rfl ?_
  rintro _ _ ⟨rfl, rfl⟩
  refine SL.nil (SE.seq ?_)
  refine SC.seq (SC.region ?_)
  refine SL.val (Val.assign rfl) rfl rfl ?_
  refine SL.nil (SE.seq ?_)
  refine SC.ret ?_
  have hD : recvD T n id stamp M K m = true := by rw [hnw.2.2.2]; exact decide_eq_true (by omega)
  refine SE.fin (rs := [.tmp 4]) rfl (RV.tmp rfl RV.nil) (r77) (by rw [hD, hnw.2.1, hnw.2.2.1]; unfold recvP; rw [if_pos rfl, if_pos rfl]; repeat (first | exact List.nil_sublist _ | exact List.Sublist.refl _ | apply List.Sublist.cons_cons | apply List.Sublist.cons)) recvP_rids ?_
  rw [hnw.1]
  rfl
end
end Go.Proofs.Ytmkijjmbiiiicaa.A
/-
  The program's client: New, Ask.
-/
set_option maxRecDepth 100000
set_option linter.unusedSimpArgs false
set_option linter.unusedVariables false
namespace Go.Proofs.Ytmkijjmbiiiicaa.A
open Go.RowKit

theorem After.make3 {ι : Type} {σ σ1 : Blks} {τ' : ι → Blks} {a b c : ι → It} {K : Blks → ι → Prop} (h : Reads σ σ1) (hτ : ∀ z, τ' z = [a z, b z, c z]) (k : ∀ z, K (a z :: b z :: c z :: σ) z) : After σ σ1 τ' K := ⟨σ, h.split, fun z => ⟨_, by rw [hτ z]; exact List.Perm.refl _, k z⟩⟩
noncomputable def askE (n id stamp : Int) (x : Core) : Int := if x = nextC id stamp x then x.check n else 1
def askM (T : List (ByteArray × Nat)) (n id : Int) (x : Core) : Msg := Msg.mk 1 id (askB x) (tagsG (gI id (textV 1 (askB x))) T (allN n))
def askT (T : List (ByteArray × Nat)) (n id : Int) (x : Core) : List (ByteArray × Nat) := tmG (gI id (textV 1 (askB x))) T (allN n)
section
variable {p q bd bt wb t bv bn : Nat} {n id stamp : Int} {av w : Value} {x c : Core} {m mw : Msg} {T : List (ByteArray × Nat)}
theorem new_s (h1 : 1 ≤ n ∧ n ≤ 7) (h2 : n ≤ id ∧ id ≤ n + 3) : Spec Try.prog 8 [.ifc 24 (ptr q), int n, int id] [] (fun p : Nat => [.blk p 73 (clA q n id 0 (.pointer none) (.slice none 0 0)), own 60 3 (.slice none 0 0) []]) (fun p => ptr p) := by
  refine spec_of Try.func8 rfl Try.ntmps8 rfl fun G w => ?_
  refine SC.seq ?_
  refine SC.own0 60 3 ?_
  refine SC.region ?_
  refine SL.val (Val.assign rfl) rfl rfl ?_
  refine SL.nil (SE.seq ?_)
  refine SC.seq ?_
  refine SC.seq (SC.region ?_)
  refine SL.val (Val.move rfl) rfl rfl ?_
  refine SL.val (Val.ifaceNil Try.underlying70 rfl) rfl rfl ?_
  refine SL.val (Val.move rfl) rfl rfl ?_
  refine SL.val (Val.move rfl) rfl rfl ?_
  refine SL.val (Val.ltI rfl rfl) rfl rfl ?_
  refine SL.val (Val.pickF rfl rfl) rfl rfl ?_
  refine SL.val (Val.move rfl) rfl rfl ?_
  refine SL.bothP (t := 13) rfl (by intro hc13; exfalso; omega) ?_
  intro hc13
  refine SL.val (Val.move rfl) rfl rfl ?_
  refine SL.val (Val.gtI rfl rfl) rfl rfl ?_
  refine SL.val (Val.pickF rfl rfl) rfl rfl ?_
  refine SL.val (Val.move rfl) rfl rfl ?_
  refine SL.bothP (t := 17) rfl (by intro hc17; exfalso; omega) ?_
  intro hc17
  refine SL.val (Val.move rfl) rfl rfl ?_
  refine SL.val (Val.move rfl) rfl rfl ?_
  refine SL.val (Val.ltI rfl rfl) rfl rfl ?_
  refine SL.val (Val.pickF rfl rfl) rfl rfl ?_
  refine SL.val (Val.move rfl) rfl rfl ?_
  refine SL.bothP (t := 22) rfl (by intro hc22; exfalso; omega) ?_
  intro hc22
  refine SL.val (Val.move rfl) rfl rfl ?_
  refine SL.val (Val.move rfl) rfl rfl ?_
  first
    | refine SL.val (Val.addI rfl rfl (by simp only [InR, lo, hi]; omega)) rfl rfl ?_
    | refine SL.val (Val.addW rfl rfl) rfl rfl ?_
  refine SL.val (Val.geI rfl rfl) rfl rfl ?_
  refine SL.val (Val.pickF rfl rfl) rfl rfl ?_
  refine SL.nil (SE.seq ?_)
  refine SC.condP rfl (by intro hc27; exfalso; omega) ?_
  intro hc27
  refine SC.skip ?_
  refine SE.seq ?_
  refine SC.seq (SC.region ?_)
  refine SL.val (Val.move rfl) rfl rfl ?_
  refine SL.val (Val.move rfl) rfl rfl ?_
  refine SL.val (Val.move rfl) rfl rfl ?_
  refine SL.val (Val.buildS (L := clA q n id 0 (.pointer none) (.slice none 0 0)) tabOk rfl rfl rfl (by rfl)) rfl rfl ?_
  refine SL.eff (Eff.boxA (cs := clA q n id 0 (.pointer none) (.slice none 0 0)) rfl) rfl rfl ?_
  rintro _ _ ⟨b32, rfl, rfl⟩
  refine SL.val (Val.assign rfl) rfl rfl ?_
  refine SL.nil (SE.seq ?_)
  refine SC.ret ?_
  refine SE.fin (rs := [.tmp 6]) rfl (RV.tmp rfl RV.nil) (b32) (by repeat first|exact s0 _|exact s1 _|apply s2|apply s3) (by simp [It.rids]) ?_
  exact rfl
theorem newno_s (h1 : n < 1 ∨ 7 < n ∨ id < n ∨ n + 3 < id) : Spec Try.prog 8 [.ifc 24 (ptr q), int n, int id] [] (fun _ : Unit => []) (fun _ => .v (.pointer none)) := by
  refine spec_of Try.func8 rfl Try.ntmps8 rfl fun G w => ?_
  refine SC.seq (SC.region ?_)
  refine SL.val (Val.assign rfl) rfl rfl ?_
  refine SL.nil (SE.seq ?_)
  refine SC.seq ?_
  refine SC.seq (SC.region ?_)
  refine SL.val (Val.move rfl) rfl rfl ?_
  refine SL.val (Val.ifaceNil Try.underlying70 rfl) rfl rfl ?_
  refine SL.val (Val.move rfl) rfl rfl ?_
  refine SL.val (Val.move rfl) rfl rfl ?_
  refine SL.val (Val.ltI rfl rfl) rfl rfl ?_
  refine SL.val (Val.pickF rfl rfl) rfl rfl ?_
  refine SL.val (Val.move rfl) rfl rfl ?_
  refine SL.bothP (t := 13) rfl ?_ ?_
  · intro hc13
    iterate 2 refine SL.skip rfl rfl ?_
    refine SL.val (Val.pickT rfl rfl) rfl rfl ?_
    refine SL.val (Val.move rfl) rfl rfl ?_
    iterate 3 refine SL.skip rfl rfl ?_
    refine SL.val (Val.pickT rfl rfl) rfl rfl ?_
    refine SL.val (Val.move rfl) rfl rfl ?_
    iterate 4 refine SL.skip rfl rfl ?_
    refine SL.val (Val.pickT rfl rfl) rfl rfl ?_
    refine SL.nil (SE.seq ?_)
    refine SC.condT rfl ?_
    refine SC.seq (SC.region ?_)
    refine SL.val (Val.assign rfl) rfl rfl ?_
    refine SL.nil (SE.seq ?_)
    refine SC.ret ?_
    refine SE.then_ (by intro h; cases h) ?_
    refine SE.fin (rs := [.tmp 6]) rfl (RV.tmp rfl RV.nil) (()) (by repeat first|exact s0 _|exact s1 _|apply s2|apply s3) (by simp [It.rids]) ?_
    exact rfl
  intro hc13
  refine SL.val (Val.move rfl) rfl rfl ?_
  refine SL.val (Val.gtI rfl rfl) rfl rfl ?_
  refine SL.val (Val.pickF rfl rfl) rfl rfl ?_
  refine SL.val (Val.move rfl) rfl rfl ?_
  refine SL.bothP (t := 17) rfl ?_ ?_
  · intro hc17
    iterate 3 refine SL.skip rfl rfl ?_
    refine SL.val (Val.pickT rfl rfl) rfl rfl ?_
    refine SL.val (Val.move rfl) rfl rfl ?_
    iterate 4 refine SL.skip rfl rfl ?_
    refine SL.val (Val.pickT rfl rfl) rfl rfl ?_
    refine SL.nil (SE.seq ?_)
    refine SC.condT rfl ?_
    refine SC.seq (SC.region ?_)
    refine SL.val (Val.assign rfl) rfl rfl ?_
    refine SL.nil (SE.seq ?_)
    refine SC.ret ?_
    refine SE.then_ (by intro h; cases h) ?_
    refine SE.fin (rs := [.tmp 6]) rfl (RV.tmp rfl RV.nil) (()) (by repeat first|exact s0 _|exact s1 _|apply s2|apply s3) (by simp [It.rids]) ?_
    exact rfl
  intro hc17
  refine SL.val (Val.move rfl) rfl rfl ?_
  refine SL.val (Val.move rfl) rfl rfl ?_
  refine SL.val (Val.ltI rfl rfl) rfl rfl ?_
  refine SL.val (Val.pickF rfl rfl) rfl rfl ?_
  refine SL.val (Val.move rfl) rfl rfl ?_
  refine SL.bothP (t := 22) rfl ?_ ?_
  · intro hc22
    iterate 4 refine SL.skip rfl rfl ?_
    refine SL.val (Val.pickT rfl rfl) rfl rfl ?_
    refine SL.nil (SE.seq ?_)
    refine SC.condT rfl ?_
    refine SC.seq (SC.region ?_)
    refine SL.val (Val.assign rfl) rfl rfl ?_
    refine SL.nil (SE.seq ?_)
    refine SC.ret ?_
    refine SE.then_ (by intro h; cases h) ?_
    refine SE.fin (rs := [.tmp 6]) rfl (RV.tmp rfl RV.nil) (()) (by repeat first|exact s0 _|exact s1 _|apply s2|apply s3) (by simp [It.rids]) ?_
    exact rfl
  intro hc22
  refine SL.val (Val.move rfl) rfl rfl ?_
  refine SL.val (Val.move rfl) rfl rfl ?_
  first
    | refine SL.val (Val.addI rfl rfl (by simp only [InR, lo, hi]; omega)) rfl rfl ?_
    | refine SL.val (Val.addW rfl rfl) rfl rfl ?_
  refine SL.val (Val.geI rfl rfl) rfl rfl ?_
  refine SL.val (Val.pickF rfl rfl) rfl rfl ?_
  refine SL.nil (SE.seq ?_)
  refine SC.condP rfl ?_ (by intro hc27; exfalso; omega)
  intro hc27
  refine SC.seq (SC.region ?_)
  refine SL.val (Val.assign rfl) rfl rfl ?_
  refine SL.nil (SE.seq ?_)
  refine SC.ret ?_
  refine SE.then_ (by intro h; cases h) ?_
  refine SE.fin (rs := [.tmp 6]) rfl (RV.tmp rfl RV.nil) (()) (by repeat first|exact s0 _|exact s1 _|apply s2|apply s3) (by simp [It.rids]) ?_
  exact rfl
end
end Go.Proofs.Ytmkijjmbiiiicaa.A
/-
  Clients: one state, whether something waits or not.
-/
set_option maxRecDepth 100000
set_option linter.unusedSimpArgs false
set_option linter.unusedVariables false
namespace Go.Proofs.Ytmkijjmbiiiicaa.A
open Go.RowKit

structure Wn where
  core : Core
  msg : Msg
  m : List (Int × Int)
  c : List (Int × Nat)
  wb : Nat
  t : Nat
  bv : Nat
  bn : Nat
structure CS where
  stamp : Int
  wait : Option Wn
  acc : List Oc
  av : Value
def clP (p q : Nat) (n id : Int) (s : CS) : Blks := match s with
  | ⟨stamp, none, acc, av⟩ => [.blk p 73 (clA q n id stamp (.pointer none) av), own 60 3 av (acc.map Oc.abs)]
  | ⟨stamp, some w, acc, av⟩ => [.blk p 73 (clA q n id stamp (ptrV w.wb) av), own 60 3 av (acc.map Oc.abs), .blk w.wb 82 (wtA w.core w.msg w.t), .blk w.t 114 [mapV w.bv, mapV w.bn], .pc (mapPc w.bv intK intK intOk w.m), .pc (mapPc w.bn intK cntV intOk w.c)]
theorem clP_rids {p q : Nat} {n id : Int} (s : CS) : ∀ x ∈ clP p q n id s, x.rids = [] := by
  obtain ⟨stamp, wait, acc, av⟩ := s
  cases wait <;> simp [clP, It.rids, own]
/-- The state behind a message. -/
def recvS (T : List (ByteArray × Nat)) (n id : Int) (s : CS) (m : Msg) (z : Value) : CS := match s with
  | ⟨stamp, none, acc, av⟩ => ⟨stamp, none, acc, av⟩
  | ⟨stamp, some w, acc, av⟩ => if recvD T n id stamp w.m w.c m = true then ⟨stamp, none, acc ++ [Oc.mk id (readR T n id stamp true m).1.stamp (readR T n id stamp true m).1.result], z⟩
    else ⟨stamp, some { w with m := recvM T n id stamp w.m m, c := recvC T n id stamp w.m w.c m }, acc, z⟩
/-- What is answered to a message. -/
def recvSE (T : List (ByteArray × Nat)) (n id : Int) (s : CS) (m : Msg) : Int := match s with
  | ⟨stamp, none, acc, av⟩ => (readR T n id stamp false m).2
  | ⟨stamp, some w, acc, av⟩ => recvE T n id stamp w.m m
/-- Votes as they come. -/
structure Votes (n : Int) (m : List (Int × Int)) (c : List (Int × Nat)) : Prop where
  inv : TInv m c
  who : ∀ w ∈ m.map (·.1), 0 ≤ w ∧ w < n
  what : ∀ w v, aget m w = some v → 0 ≤ v ∧ v ≤ 99
structure CSOk (n : Int) (s : CS) : Prop where
  votes : ∀ w, s.wait = some w → Votes n w.m w.c
  few : s.acc.length ≤ 1000
theorem nodup_le : ∀ (k : Nat) {l : List Int}, l.Nodup → (∀ x ∈ l, 0 ≤ x ∧ x < (k : Nat)) → l.length ≤ k
  | 0, l, _, h => by
    cases l with
    | nil => exact Nat.le_refl _
    | cons x l => have := h x List.mem_cons_self; omega
  | k + 1, l, hd, h => by
    have h1 := nodup_le k (l := l.erase (k : Int)) (hd.erase _) fun x hx => by
      have h2 := (hd.mem_erase_iff).1 hx
      have h3 := h x h2.2
      have := h2.1
      omega
    have h4 := List.length_erase (a := (k : Int)) (l := l)
    split at h4 <;> omega
theorem Votes.few {n : Int} {m : List (Int × Int)} {c : List (Int × Nat)} (h : Votes n m c) (hn : 1 ≤ n ∧ n ≤ 7) : m.length ≤ 7 := by
  have h1 := nodup_le 7 h.inv.nd fun x hx => by have := h.who x hx; omega
  simpa using h1
end Go.Proofs.Ytmkijjmbiiiicaa.A
/-
  The program's client as one state.
-/
set_option maxRecDepth 100000
set_option linter.unusedSimpArgs false
set_option linter.unusedVariables false
namespace Go.Proofs.Ytmkijjmbiiiicaa.A
open Go.RowKit

section
variable {p q bd bt : Nat} {n id stamp : Int} {av : Value} {x c : Core} {m mw : Msg} {acc : List Oc} {T : List (ByteArray × Nat)} {s : CS}
set_option maxHeartbeats 1000000 in
theorem recvn_s (hl : m.body.length ≤ 100000) (hn : Num1 T) (hT : T.length < 1000000) : Spec Try.prog 11 [ptr p, .agg m.abs] [.blk p 73 (clA q n id stamp (.pointer none) av), own 60 3 av (acc.map Oc.abs), .rd q 68 [mapV bd, mapV bt], .rdpc (mapPc bt Value.string cntV sOk (T))] (fun _ : Value => [.blk p 73 (clA q n id stamp (.pointer none) av), own 60 3 av (acc.map Oc.abs)]) (fun _ => int (readR T n id stamp false m).2) := by
  refine spec_of Try.func11 rfl Try.ntmps11 rfl fun G w => ?_
  refine SC.seq (SC.region ?_)
  refine SL.eff (Eff.boxA (cs := m.abs) rfl) rfl rfl ?_
  rintro _ _ ⟨b3, rfl, rfl⟩
  refine SL.val (Val.assign rfl) rfl rfl ?_
  refine SL.nil (SE.seq ?_)
  refine SC.seq ?_
  refine SC.seq (SC.region ?_)
  refine SL.val (Val.move rfl) rfl rfl ?_
  refine SL.val (Val.eqP rfl rfl (by kernel_rfl)) rfl rfl ?_
  refine SL.nil (SE.seq ?_)
  refine SC.condF rfl ?_
  refine SC.skip ?_
  refine SE.seq ?_
  refine SC.seq (SC.region ?_)
  refine SL.val (Val.move rfl) rfl rfl ?_
  refine SL.val (Val.loadA tabOk rfl rfl rfl (by first|(apply Or.inl;(repeat first|assumption|exact m0|apply m1);done)|(apply Or.inr;(repeat first|assumption|exact m0|apply m1);done)) List.not_mem_nil rfl) rfl rfl ?_
  refine SL.call (read0_s (p := p) (q := q) (bd := bd) (bt := bt) (n := n) (id := id) (stamp := stamp) (av := av) (m := m) (T := T) hl hn hT) Casts.refl (by kernel_rfl) rfl rfl rfl ?_
  refine After.pure (by repeat (first | exact Reads.nil | (refine Reads.blk ?_ ?_; focus ((repeat first|assumption|exact m0|apply m1); done)) | (refine Reads.rd ?_ ?_; focus ((repeat first|assumption|exact m0|apply m1); done)) | (refine Reads.pc ?_ ?_; focus ((repeat first|assumption|exact m0|apply m1); done)) | (refine Reads.rdpc ?_ ?_; focus ((repeat first|assumption|exact m0|apply m1); done)))) (fun _ => rfl) ?_
  intro _
  refine SL.val (Val.move rfl) rfl rfl ?_
  refine SL.val (Val.extract rfl rfl) rfl rfl ?_
  refine SL.val (Val.extract rfl rfl) rfl rfl ?_
  refine SL.eff (Eff.alloc tabOk rfl) rfl rfl ?_
  rintro _ _ ⟨b5, rfl, rfl⟩
  refine SL.eff (Eff.store (L' := (readR T n id stamp false m).1.abs) tabOk rfl rfl rfl (by repeat first|assumption|exact Upd.here|apply Upd.there) rfl (Nat.le_of_ble_eq_true (by rfl)) rfl (by exact putL_whole rfl)) rfl rfl ?_
  rintro _ _ ⟨rfl, rfl⟩
  refine SL.val (Val.assign rfl) rfl rfl ?_
  refine SL.nil (SE.seq ?_)
  refine SC.seq ?_
  refine SC.seq (SC.region ?_)
  refine SL.val (Val.move rfl) rfl rfl ?_
  refine SL.val (Val.neI rfl rfl) rfl rfl ?_
  refine SL.nil (SE.seq ?_)
  refine SC.condP rfl ?_ (by intro hc18; exfalso; exact absurd (readR_ok (T := T) (n := n) (id := id) (stamp := stamp) (b := false) (m := m) (by omega)).waits (by decide))
  intro hc18
  refine SC.seq (SC.region ?_)
  refine SL.val (Val.move rfl) rfl rfl ?_
  refine SL.val (Val.assign rfl) rfl rfl ?_
  refine SL.nil (SE.seq ?_)
  refine SC.ret ?_
  refine SE.then_ (by intro h; cases h) ?_
  refine SE.fin (rs := [.tmp 4]) rfl (RV.tmp rfl RV.nil) (av) (by repeat first|exact s0 _|exact s1 _|apply s2|apply s3) (by simp [It.rids, own]) ?_
  exact rfl
theorem recv_s (hl : m.body.length ≤ 100000) (hn : Num1 T) (hT : T.length < 1000000) (hs : CSOk n s) (h7 : 1 ≤ n ∧ n ≤ 7) : Spec Try.prog 11 [ptr p, .agg m.abs] (clP p q n id s ++ [.rd q 68 [mapV bd, mapV bt], .rdpc (mapPc bt Value.string cntV sOk (T))]) (fun z : Value => clP p q n id (recvS T n id s m z)) (fun _ => int (recvSE T n id s m)) := by
  obtain ⟨stamp, wait, acc, av⟩ := s
  cases wait with
  | none => exact recvn_s (p := p) (q := q) (bd := bd) (bt := bt) (n := n) (id := id) (stamp := stamp) (av := av) (acc := acc) (m := m) (T := T) hl hn hT
  | some w =>
    have hv := hs.votes w rfl
    have hf := hv.few h7
    have h := recvw_s (p := p) (q := q) (bd := bd) (bt := bt) (wb := w.wb) (t := w.t) (bv := w.bv) (bn := w.bn) (n := n) (id := id) (stamp := stamp) (av := av) (c := w.core) (m := m) (mw := w.msg) (acc := acc) (T := T) (M := w.m) (K := w.c) hl hn hT hv.inv (by omega) (fun a v ha => by have := hv.what a v ha; simp only [InR, lo, hi]; omega) (by have := hs.few; simp only at this; omega)
    have e : (fun z : Value => clP p q n id (recvS T n id ⟨stamp, some w, acc, av⟩ m z)) = fun z : Value => recvP (recvD T n id stamp w.m w.c m) p q w.t w.bv w.bn w.wb n id stamp w.core w.msg (recvM T n id stamp w.m m) (recvC T n id stamp w.m w.c m) (if recvD T n id stamp w.m w.c m = true then (acc ++ [Oc.mk id (readR T n id stamp true m).1.stamp (readR T n id stamp true m).1.result]) else acc) z := by
      funext z
      dsimp only [recvS]
      unfold recvP
      by_cases hD : recvD T n id stamp w.m w.c m = true
      · simp only [if_pos hD]; rfl
      · simp only [if_neg hD]; rfl
    rw [e]
    exact h
end
end Go.Proofs.Ytmkijjmbiiiicaa.A
/-
  The program's client as one state: Ask.
-/
set_option maxRecDepth 100000
set_option linter.unusedSimpArgs false
set_option linter.unusedVariables false
namespace Go.Proofs.Ytmkijjmbiiiicaa.A
open Go.RowKit

noncomputable def askS (T : List (ByteArray × Nat)) (n id : Int) (s : CS) (x : Core) (z : Nat × Nat × Nat × Nat) : CS := match s with
  | ⟨stamp, none, acc, av⟩ => if askE n id stamp x = 0 then ⟨x.stamp, some ⟨x, askM T n id x, [], [], z.1, z.2.1, z.2.2.1, z.2.2.2⟩, acc, av⟩ else ⟨stamp, none, acc, av⟩
  | ⟨stamp, some w, acc, av⟩ => ⟨stamp, some w, acc, av⟩
noncomputable def askSE (n id : Int) (s : CS) (x : Core) : Int := match s.wait with
  | none => askE n id s.stamp x
  | some _ => 15
noncomputable def askST (T : List (ByteArray × Nat)) (n id : Int) (s : CS) (x : Core) : List (ByteArray × Nat) := if askSE n id s x = 0 then askT T n id x else T
noncomputable def askSL (T : List (ByteArray × Nat)) (n id : Int) (s : CS) (x : Core) : List (List Abs) := if askSE n id s x = 0 then parcels (askM T n id x) (allN n) else []
def hidP (q bd bt : Nat) (T : List (ByteArray × Nat)) : Blks := [.blk q 68 [mapV bd, mapV bt], .pc (mapPc bt Value.string cntV sOk T)]
theorem askS_rids {p q bd bt : Nat} {n id : Int} {s : CS} {T : List (ByteArray × Nat)} : ∀ y ∈ clP p q n id s ++ hidP q bd bt T, y.rids = [] := by
  intro y hy
  rcases List.mem_append.1 hy with hy | hy
  · exact clP_rids s y hy
  · simp only [hidP, List.mem_cons, List.not_mem_nil, or_false] at hy
    rcases hy with rfl | rfl <;> rfl
section
variable {p q bd bt : Nat} {n id stamp : Int} {av : Value} {x c : Core} {m mw : Msg} {acc : List Oc} {T : List (ByteArray × Nat)} {s : CS} {ww : Wn}
theorem askw_s  : Spec Try.prog 9 [ptr p, coreA x, .sl 2 []] [.blk p 73 (clA q n id stamp (ptrV ww.wb) av), own 60 3 av (acc.map Oc.abs), .blk ww.wb 82 (wtA ww.core ww.msg ww.t), .blk ww.t 114 [mapV ww.bv, mapV ww.bn], .pc (mapPc ww.bv intK intK intOk ww.m), .pc (mapPc ww.bn intK cntV intOk ww.c), .blk q 68 [mapV bd, mapV bt], .pc (mapPc bt Value.string cntV sOk (T))] (fun z : Nat × Nat × Nat × Nat => clP p q n id (askS T n id (CS.mk stamp (some ww) acc av) x z) ++ hidP q bd bt (askST T n id (CS.mk stamp (some ww) acc av) x)) (fun _ => .tup [.sl 5 (askSL T n id (CS.mk stamp (some ww) acc av) x), int (askSE n id (CS.mk stamp (some ww) acc av) x)]) := by
  refine spec_of Try.func9 rfl Try.ntmps9 rfl fun G w => ?_
  refine SC.seq (SC.region ?_)
  refine SL.eff (Eff.boxA (cs := x.cells.map .v) rfl) rfl rfl ?_
  rintro _ _ ⟨b4, rfl, rfl⟩
  refine SL.val (Val.assign rfl) rfl rfl ?_
  refine SL.val (Val.assign rfl) rfl rfl ?_
  refine SL.nil (SE.seq ?_)
  refine SC.seq ?_
  refine SC.block ?_
  refine SC.seq (SC.region ?_)
  refine SL.val (Val.move rfl) rfl rfl ?_
  refine SL.val (Val.eqP rfl rfl (by kernel_rfl)) rfl rfl ?_
  refine SL.val (Val.assign rfl) rfl rfl ?_
  refine SL.nil (SE.seq ?_)
  refine SC.condF rfl ?_
  refine SC.seq (SC.region ?_)
  refine SL.val (Val.move rfl) rfl rfl ?_
  refine SL.val (Val.nilCheck rfl) rfl rfl ?_
  refine SL.val (Val.fieldAddr tabOk rfl rfl rfl rfl rfl) rfl rfl ?_
  refine SL.val (Val.to (C := ptr ww.wb) (Val.load1 tabOk rfl rfl (by first|(apply Or.inl;(repeat first|assumption|exact m0|apply m1);done)|(apply Or.inr;(repeat first|assumption|exact m0|apply m1);done)) List.not_mem_nil (by rfl)) rfl) rfl rfl ?_
  refine SL.val (Val.neP rfl rfl (by kernel_rfl)) rfl rfl ?_
  refine SL.val (Val.assign rfl) rfl rfl ?_
  refine SL.nil (SE.seq ?_)
  refine SC.condT rfl ?_
  refine SC.seq (SC.region ?_)
  refine SL.val (Val.assign rfl) rfl rfl ?_
  refine SL.val (Val.assign rfl) rfl rfl ?_
  refine SL.nil (SE.seq ?_)
  refine SC.ret ?_
  refine SE.ret ?_
  refine SE.then_ (by intro h; cases h) ?_
  have hE : askSE n id (CS.mk stamp (some ww) acc av) x = 15 := rfl
  have hT9 : askST T n id (CS.mk stamp (some ww) acc av) x = T := if_neg (by rw [hE]; decide)
  have hL9 : askSL T n id (CS.mk stamp (some ww) acc av) x = [] := if_neg (by rw [hE]; decide)
  refine SE.finC (rs := [.tmp 6, .tmp 7]) rfl (RV.tmp rfl (RV.tmp rfl RV.nil)) (Casts.nils (s := 5) Casts.refl) (0, 0, 0, 0) (by rw [hT9]; show List.Sublist [_, _, _, _, _, _, _, _] _; repeat (first | exact List.nil_sublist _ | exact List.Sublist.refl _ | apply List.Sublist.cons_cons | apply List.Sublist.cons)) askS_rids ?_
  rw [hL9]
  rfl
set_option maxHeartbeats 8000000 in
theorem askn_s (hc : Core.ins x) (hd : Core.ins (nextC id stamp x)) (h1 : x.letter.size ≤ 1000) (h2 : x.text.size ≤ 1000) (hn : Num1 T) (hT : T.length ≤ 900000) (hs : 0 ≤ stamp ∧ stamp ≤ 1000000000) : Spec Try.prog 9 [ptr p, coreA x, .sl 2 []] [.blk p 73 (clA q n id stamp (.pointer none) av), own 60 3 av (acc.map Oc.abs), .blk q 68 [mapV bd, mapV bt], .pc (mapPc bt Value.string cntV sOk (T))] (fun z : Nat × Nat × Nat × Nat => clP p q n id (askS T n id (CS.mk stamp none acc av) x z) ++ hidP q bd bt (askST T n id (CS.mk stamp none acc av) x)) (fun _ => .tup [.sl 5 (askSL T n id (CS.mk stamp none acc av) x), int (askSE n id (CS.mk stamp none acc av) x)]) := by
  have hal := allN_le n
  have hab := askB_length x
  have hcl := core_len (c := x)
  refine spec_of Try.func9 rfl Try.ntmps9 rfl fun G w => ?_
  refine SC.seq (SC.region ?_)
  refine SL.eff (Eff.boxA (cs := x.cells.map .v) rfl) rfl rfl ?_
  rintro _ _ ⟨b4, rfl, rfl⟩
  refine SL.val (Val.assign rfl) rfl rfl ?_
  refine SL.val (Val.assign rfl) rfl rfl ?_
  refine SL.nil (SE.seq ?_)
  refine SC.seq ?_
  refine SC.block ?_
  refine SC.seq (SC.region ?_)
  refine SL.val (Val.move rfl) rfl rfl ?_
  refine SL.val (Val.eqP rfl rfl (by kernel_rfl)) rfl rfl ?_
  refine SL.val (Val.assign rfl) rfl rfl ?_
  refine SL.nil (SE.seq ?_)
  refine SC.condF rfl ?_
  refine SC.seq (SC.region ?_)
  refine SL.val (Val.move rfl) rfl rfl ?_
  refine SL.val (Val.nilCheck rfl) rfl rfl ?_
  refine SL.val (Val.fieldAddr tabOk rfl rfl rfl rfl rfl) rfl rfl ?_
  refine SL.val (Val.to (C := .v (.pointer none)) (Val.load1 tabOk rfl rfl (by first|(apply Or.inl;(repeat first|assumption|exact m0|apply m1);done)|(apply Or.inr;(repeat first|assumption|exact m0|apply m1);done)) List.not_mem_nil (by rfl)) rfl) rfl rfl ?_
  refine SL.val (Val.neP rfl rfl (by kernel_rfl)) rfl rfl ?_
  refine SL.val (Val.assign rfl) rfl rfl ?_
  refine SL.nil (SE.seq ?_)
  refine SC.condF rfl ?_
  refine SC.seq ?_
  refine SC.draw [] (.q 0 (.q 1 (.q 2 (.e 3 (.q 4 (.q 5 .nil)))))) (by kernel_rfl) (by kernel_rfl) ?_
  refine SX.val rfl (Val.loadA tabOk rfl rfl rfl (by first|(apply Or.inl;(repeat first|assumption|exact m0|apply m1);done)|(apply Or.inr;(repeat first|assumption|exact m0|apply m1);done)) List.not_mem_nil rfl) (by first | (simp [mids, It.mids, ownPc, mapPc]; done) | (intro k hk; simp [mids, It.mids, ownPc, mapPc] at hk ⊢; grind)) rfl rfl ?_
  refine SX.val rfl (Val.move rfl) (by simp) rfl rfl ?_
  refine SX.val rfl (Val.loadA tabOk rfl rfl rfl (by first|(apply Or.inl;(repeat first|assumption|exact m0|apply m1);done)|(apply Or.inr;(repeat first|assumption|exact m0|apply m1);done)) List.not_mem_nil rfl) (by first | (simp [mids, It.mids, ownPc, mapPc]; done) | (intro k hk; simp [mids, It.mids, ownPc, mapPc] at hk ⊢; grind)) rfl rfl ?_
  refine SX.call rfl (next_s (p := p) (q := q) (n := n) (id := id) (stamp := stamp) (w := .pointer none) (av := av) (x := x) (by omega) (by omega)) (by simp [mids, It.mids]) Casts.refl (by kernel_rfl) rfl rfl rfl ?_
  refine After.pure (by repeat (first | exact Reads.nil | (refine Reads.blk ?_ ?_; focus ((repeat first|assumption|exact m0|apply m1); done)) | (refine Reads.rd ?_ ?_; focus ((repeat first|assumption|exact m0|apply m1); done)) | (refine Reads.pc ?_ ?_; focus ((repeat first|assumption|exact m0|apply m1); done)) | (refine Reads.rdpc ?_ ?_; focus ((repeat first|assumption|exact m0|apply m1); done)))) (fun _ => rfl) ?_
  intro _
  refine SX.val rfl (Val.neA rfl rfl (core_plains _) (core_plains _) (by kernel_rfl) (neqCo hc hd)) (by first | (simp [mids, It.mids, ownPc, mapPc]; done) | (intro k hk; simp [mids, It.mids, ownPc, mapPc] at hk ⊢; grind)) rfl rfl ?_
  refine SX.val rfl (Val.assign rfl) (by simp) rfl rfl ?_
  refine SX.nil (SE.seq ?_)
  refine SC.condP rfl ?_ ?_
  · intro hc19
    have hE : askE n id stamp x = 1 := if_neg (by simpa using hc19)
    refine SC.seq (SC.region ?_)
    refine SL.val (Val.assign rfl) rfl rfl ?_
    refine SL.val (Val.assign rfl) rfl rfl ?_
    refine SL.nil (SE.seq ?_)
    refine SC.ret ?_
    refine SE.ret ?_
    refine SE.then_ (by intro h; cases h) ?_
    have hE9 : askSE n id (CS.mk stamp none acc av) x = askE n id stamp x := rfl
    have hne : askE n id stamp x ≠ 0 := by rw [hE]; first | assumption | decide
    have hT9 : askST T n id (CS.mk stamp none acc av) x = T := if_neg (by rw [hE9]; exact hne)
    have hL9 : askSL T n id (CS.mk stamp none acc av) x = [] := if_neg (by rw [hE9]; exact hne)
    have hS9 : ∀ z, askS T n id (CS.mk stamp none acc av) x z = (CS.mk stamp none acc av) := fun z => if_neg hne
    refine SE.finC (rs := [.tmp 6, .tmp 7]) rfl (RV.tmp rfl (RV.tmp rfl RV.nil)) (Casts.nils (s := 5) Casts.refl) (0, 0, 0, 0) (by rw [hT9, hS9]; show List.Sublist [_, _, _, _] _; repeat (first | exact List.nil_sublist _ | exact List.Sublist.refl _ | apply List.Sublist.cons_cons | apply List.Sublist.cons)) askS_rids ?_
    rw [hL9, hE9, hE]
    rfl
  intro hc19
  have hx : x = nextC id stamp x := Classical.byContradiction fun h => hc19 h
  have hE : askE n id stamp x = x.check n := if_pos hx
  refine SC.skip ?_
  refine SE.inBlock ?_
  refine SE.seq ?_
  refine SC.seq ?_
  refine SC.seq ?_
  refine SC.draw [] (.q 0 (.q 1 (.q 2 (.q 3 (.q 4 (.e 5 (.q 6 .nil))))))) (by kernel_rfl) (by kernel_rfl) ?_
  refine SX.val rfl (Val.loadA tabOk rfl rfl rfl (by first|(apply Or.inl;(repeat first|assumption|exact m0|apply m1);done)|(apply Or.inr;(repeat first|assumption|exact m0|apply m1);done)) List.not_mem_nil rfl) (by first | (simp [mids, It.mids, ownPc, mapPc]; done) | (intro k hk; simp [mids, It.mids, ownPc, mapPc] at hk ⊢; grind)) rfl rfl ?_
  refine SX.val rfl (Val.move rfl) (by simp) rfl rfl ?_
  refine SX.val rfl (Val.nilCheck rfl) (by simp) rfl rfl ?_
  refine SX.val rfl (Val.fieldAddr tabOk rfl rfl rfl rfl rfl) (by simp) rfl rfl ?_
  refine SX.val rfl (Val.load1 tabOk rfl rfl (by first|(apply Or.inl;(repeat first|assumption|exact m0|apply m1);done)|(apply Or.inr;(repeat first|assumption|exact m0|apply m1);done)) List.not_mem_nil (by rfl)) (by simp) rfl rfl ?_
  refine SX.call rfl (ccheck_s (c := x) (n := n)) (by simp [mids, It.mids]) Casts.refl (by kernel_rfl) rfl rfl rfl ?_
  refine After.pure (by repeat (first | exact Reads.nil | (refine Reads.blk ?_ ?_; focus ((repeat first|assumption|exact m0|apply m1); done)) | (refine Reads.rd ?_ ?_; focus ((repeat first|assumption|exact m0|apply m1); done)) | (refine Reads.pc ?_ ?_; focus ((repeat first|assumption|exact m0|apply m1); done)) | (refine Reads.rdpc ?_ ?_; focus ((repeat first|assumption|exact m0|apply m1); done)))) (fun _ => rfl) ?_
  intro _
  refine SX.val rfl (Val.assign rfl) (by simp) rfl rfl ?_
  refine SX.nil (SE.seq ?_)
  refine SC.seq (SC.region ?_)
  refine SL.val (Val.move rfl) rfl rfl ?_
  refine SL.val (Val.neI rfl rfl) rfl rfl ?_
  refine SL.nil (SE.seq ?_)
  refine SC.condP rfl ?_ ?_
  · intro hc32
    refine SC.seq (SC.region ?_)
    refine SL.val (Val.move rfl) rfl rfl ?_
    refine SL.val (Val.assign rfl) rfl rfl ?_
    refine SL.val (Val.assign rfl) rfl rfl ?_
    refine SL.nil (SE.seq ?_)
    refine SC.ret ?_
    refine SE.then_ (by intro h; cases h) ?_
    have hE9 : askSE n id (CS.mk stamp none acc av) x = askE n id stamp x := rfl
    have hne : askE n id stamp x ≠ 0 := by rw [hE]; first | assumption | decide
    have hT9 : askST T n id (CS.mk stamp none acc av) x = T := if_neg (by rw [hE9]; exact hne)
    have hL9 : askSL T n id (CS.mk stamp none acc av) x = [] := if_neg (by rw [hE9]; exact hne)
    have hS9 : ∀ z, askS T n id (CS.mk stamp none acc av) x z = (CS.mk stamp none acc av) := fun z => if_neg hne
    refine SE.finC (rs := [.tmp 6, .tmp 7]) rfl (RV.tmp rfl (RV.tmp rfl RV.nil)) (Casts.nils (s := 5) Casts.refl) (0, 0, 0, 0) (by rw [hT9, hS9]; show List.Sublist [_, _, _, _] _; repeat (first | exact List.nil_sublist _ | exact List.Sublist.refl _ | apply List.Sublist.cons_cons | apply List.Sublist.cons)) askS_rids ?_
    rw [hL9, hE9, hE]
    rfl
  intro hc32
  have hE0 : askE n id stamp x = 0 := by rw [hE]; omega
  refine SC.skip ?_
  refine SE.seq ?_
  refine SC.seq (SC.region ?_)
  refine SL.val (Val.loadA tabOk rfl rfl rfl (by first|(apply Or.inl;(repeat first|assumption|exact m0|apply m1);done)|(apply Or.inr;(repeat first|assumption|exact m0|apply m1);done)) List.not_mem_nil rfl) rfl rfl ?_
  refine SL.val (Val.move rfl) rfl rfl ?_
  refine SL.val (Val.buildS (L := (Rq.mk x []).abs) tabOk rfl rfl rfl (by rfl)) rfl rfl ?_
  refine SL.call (ask_s (c := x) (by omega) (by omega)) Casts.refl (by kernel_rfl) rfl rfl rfl ?_
  refine After.pure (by repeat (first | exact Reads.nil | (refine Reads.blk ?_ ?_; focus ((repeat first|assumption|exact m0|apply m1); done)) | (refine Reads.rd ?_ ?_; focus ((repeat first|assumption|exact m0|apply m1); done)) | (refine Reads.pc ?_ ?_; focus ((repeat first|assumption|exact m0|apply m1); done)) | (refine Reads.rdpc ?_ ?_; focus ((repeat first|assumption|exact m0|apply m1); done)))) (fun _ => rfl) ?_
  intro _
  refine SL.val (Val.assign rfl) rfl rfl ?_
  refine SL.nil (SE.seq ?_)
  refine SC.seq (SC.region ?_)
  refine SL.val (Val.move rfl) rfl rfl ?_
  refine SL.val (Val.fieldAddr tabOk rfl rfl rfl rfl rfl) rfl rfl ?_
  refine SL.val (Val.load1 tabOk rfl rfl (by first|(apply Or.inl;(repeat first|assumption|exact m0|apply m1);done)|(apply Or.inr;(repeat first|assumption|exact m0|apply m1);done)) List.not_mem_nil (by rfl)) rfl rfl ?_
  refine SL.val (Val.nilCheck rfl) rfl rfl ?_
  refine SL.val (Val.fieldAddr tabOk rfl rfl rfl rfl rfl) rfl rfl ?_
  refine SL.eff (Eff.store tabOk rfl rfl rfl (by repeat first|assumption|exact Upd.here|apply Upd.there) (by rfl) (Nat.le_of_ble_eq_true (by rfl)) (by rfl) (by rfl)) rfl rfl ?_
  rintro _ _ ⟨rfl, rfl⟩
  refine SL.nil (SE.seq ?_)
  refine SC.seq ?_
  refine SC.known (p := p ∉ [q, bt] ∧ b4 ∉ [q, bt]) (fun _ _ h => by
      have h1 := h.mem.nodup
      simp [mids, It.mids, ownPc, mapPc] at h1 ⊢
      grind) fun hX => ?_
  refine SC.drawZ [q, bt] (.q 0 (.q 1 (.q 2 (.q 3 (.q 4 (.q 5 (.q 6 (.q 7 (.q 8 (.q 9 (.q 10 (.q 11 (.q 12 (.q 13 (.q 14 (.e 15 (.e 16 (.e 17 (.q 18 (.e 19 (.q 20 (.q 21 .nil)))))))))))))))))))))) (by kernel_rfl) (by kernel_rfl) ?_
  refine SX.val rfl (Val.move rfl) (by first | (simp [mids, It.mids, ownPc, mapPc]; done) | (intro k hk; simp [mids, It.mids, ownPc, mapPc] at hk ⊢; grind)) rfl rfl ?_
  refine SX.val rfl (Val.loadA tabOk rfl rfl rfl (by first|(apply Or.inl;(repeat first|assumption|exact m0|apply m1);done)|(apply Or.inr;(repeat first|assumption|exact m0|apply m1);done)) (by first | exact hX.1 | exact hX.2) rfl) (by first | (simp [mids, It.mids, ownPc, mapPc]; done) | (intro k hk; simp [mids, It.mids, ownPc, mapPc] at hk ⊢; grind)) rfl rfl ?_
  refine SX.val rfl (Val.move rfl) (by first | (simp [mids, It.mids, ownPc, mapPc]; done) | (intro k hk; simp [mids, It.mids, ownPc, mapPc] at hk ⊢; grind)) rfl rfl ?_
  refine SX.val rfl (Val.nilCheck rfl) (by first | (simp [mids, It.mids, ownPc, mapPc]; done) | (intro k hk; simp [mids, It.mids, ownPc, mapPc] at hk ⊢; grind)) rfl rfl ?_
  refine SX.val rfl (Val.fieldAddr tabOk rfl rfl rfl rfl rfl) (by first | (simp [mids, It.mids, ownPc, mapPc]; done) | (intro k hk; simp [mids, It.mids, ownPc, mapPc] at hk ⊢; grind)) rfl rfl ?_
  refine SX.val rfl (Val.load1 tabOk rfl rfl (by first|(apply Or.inl;(repeat first|assumption|exact m0|apply m1);done)|(apply Or.inr;(repeat first|assumption|exact m0|apply m1);done)) (by first | exact hX.1 | exact hX.2) (by rfl)) (by first | (simp [mids, It.mids, ownPc, mapPc]; done) | (intro k hk; simp [mids, It.mids, ownPc, mapPc] at hk ⊢; grind)) rfl rfl ?_
  refine SX.val rfl (Val.move rfl) (by first | (simp [mids, It.mids, ownPc, mapPc]; done) | (intro k hk; simp [mids, It.mids, ownPc, mapPc] at hk ⊢; grind)) rfl rfl ?_
  refine SX.val rfl (Val.nilCheck rfl) (by first | (simp [mids, It.mids, ownPc, mapPc]; done) | (intro k hk; simp [mids, It.mids, ownPc, mapPc] at hk ⊢; grind)) rfl rfl ?_
  refine SX.val rfl (Val.fieldAddr tabOk rfl rfl rfl rfl rfl) (by first | (simp [mids, It.mids, ownPc, mapPc]; done) | (intro k hk; simp [mids, It.mids, ownPc, mapPc] at hk ⊢; grind)) rfl rfl ?_
  refine SX.val rfl (Val.load1 tabOk rfl rfl (by first|(apply Or.inl;(repeat first|assumption|exact m0|apply m1);done)|(apply Or.inr;(repeat first|assumption|exact m0|apply m1);done)) (by first | exact hX.1 | exact hX.2) (by rfl)) (by first | (simp [mids, It.mids, ownPc, mapPc]; done) | (intro k hk; simp [mids, It.mids, ownPc, mapPc] at hk ⊢; grind)) rfl rfl ?_
  refine SX.val rfl (Val.move rfl) (by first | (simp [mids, It.mids, ownPc, mapPc]; done) | (intro k hk; simp [mids, It.mids, ownPc, mapPc] at hk ⊢; grind)) rfl rfl ?_
  refine SX.val rfl (Val.move rfl) (by first | (simp [mids, It.mids, ownPc, mapPc]; done) | (intro k hk; simp [mids, It.mids, ownPc, mapPc] at hk ⊢; grind)) rfl rfl ?_
  refine SX.val rfl (Val.nilCheck rfl) (by first | (simp [mids, It.mids, ownPc, mapPc]; done) | (intro k hk; simp [mids, It.mids, ownPc, mapPc] at hk ⊢; grind)) rfl rfl ?_
  refine SX.val rfl (Val.fieldAddr tabOk rfl rfl rfl rfl rfl) (by first | (simp [mids, It.mids, ownPc, mapPc]; done) | (intro k hk; simp [mids, It.mids, ownPc, mapPc] at hk ⊢; grind)) rfl rfl ?_
  refine SX.val rfl (Val.load1 tabOk rfl rfl (by first|(apply Or.inl;(repeat first|assumption|exact m0|apply m1);done)|(apply Or.inr;(repeat first|assumption|exact m0|apply m1);done)) (by first | exact hX.1 | exact hX.2) (by rfl)) (by first | (simp [mids, It.mids, ownPc, mapPc]; done) | (intro k hk; simp [mids, It.mids, ownPc, mapPc] at hk ⊢; grind)) rfl rfl ?_
  refine SX.call rfl (all_s (n := n)) (by simp [mids, It.mids]) Casts.refl (by kernel_rfl) rfl rfl rfl ?_
  refine After.pure (by repeat (first | exact Reads.nil | (refine Reads.blk ?_ ?_; focus ((repeat first|assumption|exact m0|apply m1); done)) | (refine Reads.rd ?_ ?_; focus ((repeat first|assumption|exact m0|apply m1); done)) | (refine Reads.pc ?_ ?_; focus ((repeat first|assumption|exact m0|apply m1); done)) | (refine Reads.rdpc ?_ ?_; focus ((repeat first|assumption|exact m0|apply m1); done)))) (fun _ => rfl) ?_
  intro _
  refine SX.call rfl (signi_s (q := q) (bd := bd) (bt := bt) (k := 1) (f := id) (body := askB x) (to := allN n) (T := T) (by omega) hn hT (by omega)) (by simp [mids, It.mids, mapPc]) Casts.refl (by kernel_rfl) rfl rfl rfl ?_
  first
    | refine After.mid [_, _, _] (β := []) rfl (by intro x hx; simp only [List.mem_cons, List.not_mem_nil, or_false] at hx; rcases hx with rfl | rfl <;> rfl) ?_
    | refine After.mid [_, _, _, _, _, _] (β := []) rfl (by intro x hx; simp only [List.mem_cons, List.not_mem_nil, or_false] at hx; rcases hx with rfl | rfl <;> rfl) ?_
  intro _
  refine SX.call rfl (er_new_s) (by simp [mids, It.mids]) Casts.refl (by kernel_rfl) rfl rfl rfl ?_
  refine After.make3 (by repeat (first | exact Reads.nil | (refine Reads.blk ?_ ?_; focus ((repeat first|assumption|exact m0|apply m1); done)) | (refine Reads.rd ?_ ?_; focus ((repeat first|assumption|exact m0|apply m1); done)) | (refine Reads.pc ?_ ?_; focus ((repeat first|assumption|exact m0|apply m1); done)) | (refine Reads.rdpc ?_ ?_; focus ((repeat first|assumption|exact m0|apply m1); done)))) (fun _ => rfl) ?_
  intro z60
  refine SX.val rfl (Val.buildS (L := wtA x (askM T n id x) z60.1) tabOk rfl rfl rfl (by rfl)) (by first | (simp [mids, It.mids, ownPc, mapPc]; done) | (intro k hk; simp [mids, It.mids, ownPc, mapPc] at hk ⊢; grind)) rfl rfl ?_
  refine SX.eff rfl (Eff.boxA (cs := wtA x (askM T n id x) z60.1) rfl) (by simp) rfl rfl ?_
  rintro _ _ ⟨b62, rfl, rfl⟩
  refine SX.val rfl (Val.nilCheck rfl) (by first | (simp [mids, It.mids, ownPc, mapPc]; done) | (intro k hk; simp [mids, It.mids, ownPc, mapPc] at hk ⊢; grind)) rfl rfl ?_
  refine SX.val rfl (Val.fieldAddr tabOk rfl rfl rfl rfl rfl) (by first | (simp [mids, It.mids, ownPc, mapPc]; done) | (intro k hk; simp [mids, It.mids, ownPc, mapPc] at hk ⊢; grind)) rfl rfl ?_
  refine SX.nil ?_
  refine SE.effZ rfl (Eff.store tabOk rfl rfl rfl (by repeat first|assumption|exact Upd.here|apply Upd.there) (by rfl) (Nat.le_of_ble_eq_true (by rfl)) (by rfl) (by rfl)) rfl rfl ?_
  rintro _ _ ⟨rfl, rfl⟩
  refine SE.seq ?_
  refine SC.seq (SC.region ?_)
  refine SL.val (Val.move rfl) rfl rfl ?_
  refine SL.call (againw_s (p := p) (q := q) (wb := b62) (t := z60.1) (n := n) (id := id) (stamp := x.stamp) (av := av) (c := x) (m := (askM T n id x))) Casts.refl (by kernel_rfl) rfl rfl rfl ?_
  refine After.pure (by repeat (first | exact Reads.nil | (refine Reads.blk ?_ ?_; focus ((repeat first|assumption|exact m0|apply m1); done)) | (refine Reads.rd ?_ ?_; focus ((repeat first|assumption|exact m0|apply m1); done)) | (refine Reads.pc ?_ ?_; focus ((repeat first|assumption|exact m0|apply m1); done)) | (refine Reads.rdpc ?_ ?_; focus ((repeat first|assumption|exact m0|apply m1); done)))) (fun _ => rfl) ?_
  intro _
  refine SL.val (Val.assign rfl) rfl rfl ?_
  refine SL.val (Val.assign rfl) rfl rfl ?_
  refine SL.nil (SE.seq ?_)
  refine SC.ret ?_
  have hE9 : askSE n id (CS.mk stamp none acc av) x = askE n id stamp x := rfl
  have hT9 : askST T n id (CS.mk stamp none acc av) x = askT T n id x := if_pos (by rw [hE9]; exact hE0)
  have hL9 : askSL T n id (CS.mk stamp none acc av) x = parcels (askM T n id x) (allN n) := if_pos (by rw [hE9]; exact hE0)
  have hS9 : ∀ z, askS T n id (CS.mk stamp none acc av) x z = ⟨x.stamp, some ⟨x, askM T n id x, [], [], z.1, z.2.1, z.2.2.1, z.2.2.2⟩, acc, av⟩ := fun z => if_pos hE0
  refine SE.perm (List.perm_append_comm_assoc [_, _] [_, _, _, _, _] [_, _]) ?_
  refine SE.fin (rs := [.tmp 6, .tmp 7]) rfl (RV.tmp rfl (RV.tmp rfl RV.nil)) (b62, z60.1, z60.2.1, z60.2.2) (by rw [hT9, hS9]; show List.Sublist [_, _, _, _, _, _, _, _] _; repeat (first | exact List.nil_sublist _ | exact List.Sublist.refl _ | apply List.Sublist.cons_cons | apply List.Sublist.cons)) askS_rids ?_
  rw [hL9, hE9, hE0]
  rfl
end
end Go.Proofs.Ytmkijjmbiiiicaa.A
/-
  The program's client as one state: what it tells; acts.
-/
set_option maxRecDepth 100000
set_option linter.unusedSimpArgs false
set_option linter.unusedVariables false
namespace Go.Proofs.Ytmkijjmbiiiicaa.A
open Go.RowKit

theorem Spec.keep {P : Program} {f : FuncId} {args : List Abs} {σ σr : Blks} {r : Abs} (h : Spec P f args σr (fun _ : Unit => []) (fun _ => r)) (hr : Reads σ σr) (hro : ∀ x ∈ σ, x.rids = []) : Spec P f args σ (fun _ : Unit => σ) (fun _ => r) := fun G w vals hm hv =>
  (h.after hm hv (After.pure hr (fun _ => rfl) (K := fun ν _ => ν = σ) (fun _ => rfl))).mono fun e w' ⟨z, u, ν, he, hx, ho, hm', hc, hr', hk⟩ => by
    subst hk
    exact ⟨(), u, he, hro, hm', hr'⟩
def Wn.none_ : Core := ⟨0, 0, 0, ⟨#[]⟩, 0, 0, ⟨#[]⟩⟩
def CS.core (s : CS) : Core := match s.wait with
  | none => Wn.none_
  | some w => w.core
/-- An act of a client's laws. -/
structure Ac where
  kind : Int
  from_ : Int
  to_ : Int
  core : Core
  reply : Rp
  msg : Msg
def Ac.abs (a : Ac) : List Abs := [int a.kind, int a.from_, int a.to_] ++ (a.core.cells.map .v ++ (a.reply.abs ++ a.msg.abs))
def Ac.few (a : Ac) : Bool := decide ((a.core.letter.size : Int) ≤ 100) && (decide ((a.core.text.size : Int) ≤ 300) && (decide ((a.msg.body.length : Int) ≤ 300) && decide ((a.msg.tags.length : Int) ≤ 20)))
theorem Ac.few_iff {a : Ac} : a.few = true ↔ a.core.letter.size ≤ 100 ∧ a.core.text.size ≤ 300 ∧ a.msg.body.length ≤ 300 ∧ a.msg.tags.length ≤ 20 := by
  unfold Ac.few
  simp only [Bool.and_eq_true, decide_eq_true_iff]
  omega
section
variable {p q bd bt : Nat} {n id : Int} {x : Core} {m : Msg} {T : List (ByteArray × Nat)} {s : CS} {a : Ac}
theorem nextS_s (h0 : s.stamp ≤ 1000000000) (h1 : 0 ≤ s.stamp) : Spec Try.prog 14 [ptr p, coreA x] (clP p q n id s) (fun _ : Unit => clP p q n id s) (fun _ => coreA (nextC id s.stamp x)) := by
  obtain ⟨stamp, wait, acc, av⟩ := s
  cases wait with
  | none => exact (next_s (p := p) (q := q) (n := n) (id := id) (stamp := stamp) (w := .pointer none) (av := av) (x := x) h0 h1).keep (by repeat (first | exact Reads.nil | (refine Reads.blk ?_ ?_; focus ((simp [clP]; done))) | (refine Reads.pc ?_ ?_; focus ((simp [clP, own]; done))))) (clP_rids _)
  | some w => exact (next_s (p := p) (q := q) (n := n) (id := id) (stamp := stamp) (w := ptrV w.wb) (av := av) (x := x) h0 h1).keep (by repeat (first | exact Reads.nil | (refine Reads.blk ?_ ?_; focus ((simp [clP]; done))) | (refine Reads.pc ?_ ?_; focus ((simp [clP, own]; done))))) (clP_rids _)
theorem waitS_s : Spec Try.prog 10 [ptr p] (clP p q n id s) (fun _ : Unit => clP p q n id s) (fun _ => .tup [coreA s.core, boo s.wait.isSome]) := by
  obtain ⟨stamp, wait, acc, av⟩ := s
  cases wait with
  | none => exact (waiting0_s (p := p) (q := q) (n := n) (id := id) (stamp := stamp) (av := av)).keep (by repeat (first | exact Reads.nil | (refine Reads.blk ?_ ?_; focus ((simp [clP]; done))) | (refine Reads.pc ?_ ?_; focus ((simp [clP, own]; done))))) (clP_rids _)
  | some w => exact (waitingw_s (p := p) (q := q) (n := n) (id := id) (stamp := stamp) (av := av) (wb := w.wb) (c := w.core) (m := w.msg) (t := w.t)).keep (by repeat (first | exact Reads.nil | (refine Reads.blk ?_ ?_; focus ((simp [clP]; done))) | (refine Reads.pc ?_ ?_; focus ((simp [clP, own]; done))))) (clP_rids _)
theorem accS_s (h : s.acc.length ≤ 1000000) : Spec Try.prog 13 [ptr p] (clP p q n id s) (fun _ : Unit => clP p q n id s) (fun _ => outA s.acc) := by
  obtain ⟨stamp, wait, acc, av⟩ := s
  cases wait with
  | none => exact (accepted_s (p := p) (q := q) (n := n) (id := id) (stamp := stamp) (w := .pointer none) (av := av) (acc := acc) h).keep (by repeat (first | exact Reads.nil | (refine Reads.blk ?_ ?_; focus ((simp [clP]; done))) | (refine Reads.pc ?_ ?_; focus ((simp [clP, own]; done))))) (clP_rids _)
  | some w => exact (accepted_s (p := p) (q := q) (n := n) (id := id) (stamp := stamp) (w := ptrV w.wb) (av := av) (acc := acc) h).keep (by repeat (first | exact Reads.nil | (refine Reads.blk ?_ ?_; focus ((simp [clP]; done))) | (refine Reads.pc ?_ ?_; focus ((simp [clP, own]; done))))) (clP_rids _)
theorem askS_s (hc : Core.ins x) (hd : Core.ins (nextC id s.stamp x)) (h1 : x.letter.size ≤ 1000) (h2 : x.text.size ≤ 1000) (hn : Num1 T) (hT : T.length ≤ 900000) (hs : 0 ≤ s.stamp ∧ s.stamp ≤ 1000000000) :
    Spec Try.prog 9 [ptr p, coreA x, .sl 2 []] (clP p q n id s ++ hidP q bd bt T) (fun z : Nat × Nat × Nat × Nat => clP p q n id (askS T n id s x z) ++ hidP q bd bt (askST T n id s x)) (fun _ => .tup [.sl 5 (askSL T n id s x), int (askSE n id s x)]) := by
  obtain ⟨stamp, wait, acc, av⟩ := s
  cases wait with
  | none => exact askn_s (p := p) (q := q) (bd := bd) (bt := bt) (n := n) (id := id) (stamp := stamp) (av := av) (x := x) (acc := acc) (T := T) hc hd h1 h2 hn hT hs
  | some w => exact askw_s (p := p) (q := q) (bd := bd) (bt := bt) (n := n) (id := id) (stamp := stamp) (av := av) (x := x) (acc := acc) (T := T) (ww := w)
theorem few31_s  : Spec Try.prog 15 [.agg a.abs] [] (fun _ : Unit => []) (fun _ => boo a.few) := by
  refine spec_of Try.func15 rfl Try.ntmps15 rfl fun G w => ?_
  refine SC.seq (SC.region ?_)
  refine SL.eff (Eff.boxA (cs := a.abs) rfl) rfl rfl ?_
  rintro _ _ ⟨b1, rfl, rfl⟩
  refine SL.val (Val.assign rfl) rfl rfl ?_
  refine SL.nil (SE.seq ?_)
  refine SC.seq (SC.region ?_)
  refine SL.val (Val.fieldAddr tabOk rfl rfl rfl rfl rfl) rfl rfl ?_
  refine SL.val (Val.fieldAddr tabOk rfl rfl rfl rfl rfl) rfl rfl ?_
  refine SL.val (Val.load1 tabOk rfl rfl (by first|(apply Or.inl;(repeat first|assumption|exact m0|apply m1);done)|(apply Or.inr;(repeat first|assumption|exact m0|apply m1);done)) List.not_mem_nil (by rfl)) rfl rfl ?_
  refine SL.val (Val.lenSt rfl Try.underlying9) rfl rfl ?_
  refine SL.val (Val.leI rfl rfl) rfl rfl ?_
  refine SL.val (Val.move rfl) rfl rfl ?_
  refine SL.bothP (t := 8) rfl ?_ ?_
  rotate_left
  · intro hc8
    iterate 5 refine SL.skip rfl rfl ?_
    refine SL.val (Val.pickF rfl rfl) rfl rfl ?_
    refine SL.val (Val.move rfl) rfl rfl ?_
    iterate 5 refine SL.skip rfl rfl ?_
    refine SL.val (Val.pickF rfl rfl) rfl rfl ?_
    refine SL.val (Val.move rfl) rfl rfl ?_
    iterate 5 refine SL.skip rfl rfl ?_
    refine SL.val (Val.pickF rfl rfl) rfl rfl ?_
    refine SL.val (Val.assign rfl) rfl rfl ?_
    refine SL.nil (SE.seq ?_)
    refine SC.ret ?_
    refine SE.fin (rs := [.tmp 2]) rfl (RV.tmp rfl RV.nil) (()) (by repeat first|exact s0 _|exact s1 _|apply s2|apply s3) (by simp [It.rids]) ?_
    refine congrArg (fun b => Abs.v (Value.bool b)) ?_
    unfold Ac.few
    first
      | (simp only [hc8, hc15, hc22, decide_true, decide_false, Bool.true_and, Bool.false_and]; done)
      | (simp only [hc8, hc15, decide_true, decide_false, Bool.true_and, Bool.false_and]; done)
      | (simp only [hc8, decide_true, decide_false, Bool.true_and, Bool.false_and]; done)
  intro hc8
  refine SL.val (Val.fieldAddr tabOk rfl rfl rfl rfl rfl) rfl rfl ?_
  refine SL.val (Val.fieldAddr tabOk rfl rfl rfl rfl rfl) rfl rfl ?_
  refine SL.val (Val.load1 tabOk rfl rfl (by first|(apply Or.inl;(repeat first|assumption|exact m0|apply m1);done)|(apply Or.inr;(repeat first|assumption|exact m0|apply m1);done)) List.not_mem_nil (by rfl)) rfl rfl ?_
  refine SL.val (Val.lenSt rfl Try.underlying9) rfl rfl ?_
  refine SL.val (Val.leI rfl rfl) rfl rfl ?_
  refine SL.val (Val.pickT rfl rfl) rfl rfl ?_
  refine SL.val (Val.move rfl) rfl rfl ?_
  refine SL.bothP (t := 15) rfl ?_ ?_
  rotate_left
  · intro hc15
    iterate 5 refine SL.skip rfl rfl ?_
    refine SL.val (Val.pickF rfl rfl) rfl rfl ?_
    refine SL.val (Val.move rfl) rfl rfl ?_
    iterate 5 refine SL.skip rfl rfl ?_
    refine SL.val (Val.pickF rfl rfl) rfl rfl ?_
    refine SL.val (Val.assign rfl) rfl rfl ?_
    refine SL.nil (SE.seq ?_)
    refine SC.ret ?_
    refine SE.fin (rs := [.tmp 2]) rfl (RV.tmp rfl RV.nil) (()) (by repeat first|exact s0 _|exact s1 _|apply s2|apply s3) (by simp [It.rids]) ?_
    refine congrArg (fun b => Abs.v (Value.bool b)) ?_
    unfold Ac.few
    first
      | (simp only [hc8, hc15, hc22, decide_true, decide_false, Bool.true_and, Bool.false_and]; done)
      | (simp only [hc8, hc15, decide_true, decide_false, Bool.true_and, Bool.false_and]; done)
      | (simp only [hc8, decide_true, decide_false, Bool.true_and, Bool.false_and]; done)
  intro hc15
  refine SL.val (Val.fieldAddr tabOk rfl rfl rfl rfl rfl) rfl rfl ?_
  refine SL.val (Val.fieldAddr tabOk rfl rfl rfl rfl rfl) rfl rfl ?_
  refine SL.val (Val.load1 tabOk rfl rfl (by first|(apply Or.inl;(repeat first|assumption|exact m0|apply m1);done)|(apply Or.inr;(repeat first|assumption|exact m0|apply m1);done)) List.not_mem_nil (by rfl)) rfl rfl ?_
  first
    | refine SL.val (Val.lenSl rfl Try.underlying37 (List.length_map _)) rfl rfl ?_
    | refine SL.val (Val.lenOwn rfl (by repeat first|assumption|exact m0|apply m1) Try.underlying37 (List.length_map _)) rfl rfl ?_
    | refine SL.val (Val.lenNil rfl Try.underlying37) rfl rfl ?_
  refine SL.val (Val.leI rfl rfl) rfl rfl ?_
  refine SL.val (Val.pickT rfl rfl) rfl rfl ?_
  refine SL.val (Val.move rfl) rfl rfl ?_
  refine SL.bothP (t := 22) rfl ?_ ?_
  rotate_left
  · intro hc22
    iterate 5 refine SL.skip rfl rfl ?_
    refine SL.val (Val.pickF rfl rfl) rfl rfl ?_
    refine SL.val (Val.assign rfl) rfl rfl ?_
    refine SL.nil (SE.seq ?_)
    refine SC.ret ?_
    refine SE.fin (rs := [.tmp 2]) rfl (RV.tmp rfl RV.nil) (()) (by repeat first|exact s0 _|exact s1 _|apply s2|apply s3) (by simp [It.rids]) ?_
    refine congrArg (fun b => Abs.v (Value.bool b)) ?_
    unfold Ac.few
    first
      | (simp only [hc8, hc15, hc22, decide_true, decide_false, Bool.true_and, Bool.false_and]; done)
      | (simp only [hc8, hc15, decide_true, decide_false, Bool.true_and, Bool.false_and]; done)
      | (simp only [hc8, decide_true, decide_false, Bool.true_and, Bool.false_and]; done)
  intro hc22
  refine SL.val (Val.fieldAddr tabOk rfl rfl rfl rfl rfl) rfl rfl ?_
  refine SL.val (Val.fieldAddr tabOk rfl rfl rfl rfl rfl) rfl rfl ?_
  refine SL.val (Val.load1 tabOk rfl rfl (by first|(apply Or.inl;(repeat first|assumption|exact m0|apply m1);done)|(apply Or.inr;(repeat first|assumption|exact m0|apply m1);done)) List.not_mem_nil (by rfl)) rfl rfl ?_
  first
    | refine SL.val (Val.lenSl rfl Try.underlying38 (List.length_map _)) rfl rfl ?_
    | refine SL.val (Val.lenOwn rfl (by repeat first|assumption|exact m0|apply m1) Try.underlying38 (List.length_map _)) rfl rfl ?_
    | refine SL.val (Val.lenNil rfl Try.underlying38) rfl rfl ?_
  refine SL.val (Val.leI rfl rfl) rfl rfl ?_
  refine SL.val (Val.pickT rfl rfl) rfl rfl ?_
  refine SL.val (Val.assign rfl) rfl rfl ?_
  refine SL.nil (SE.seq ?_)
  refine SC.ret ?_
  refine SE.fin (rs := [.tmp 2]) rfl (RV.tmp rfl RV.nil) (()) (by repeat first|exact s0 _|exact s1 _|apply s2|apply s3) (by simp [It.rids]) ?_
  refine congrArg (fun b => Abs.v (Value.bool b)) ?_
  unfold Ac.few
  first
    | (simp only [hc8, hc15, hc22, decide_true, decide_false, Bool.true_and, Bool.false_and]; done)
    | (simp only [hc8, hc15, decide_true, decide_false, Bool.true_and, Bool.false_and]; done)
    | (simp only [hc8, decide_true, decide_false, Bool.true_and, Bool.false_and]; done)
end
end Go.Proofs.Ytmkijjmbiiiicaa.A
/-
  Clients, plain: what stays true from act to act (the program's own calls).
-/
set_option maxRecDepth 100000
set_option linter.unusedSimpArgs false
set_option linter.unusedVariables false
namespace Go.Proofs.Ytmkijjmbiiiicaa.A
open Go.RowKit

theorem TInv.add' {α : Type} [DecidableEq α] {m : List (Int × α)} {c : List (α × Nat)} (h : TInv m c) (who : Int) (k : α) : TInv (tAddM m who k) (tAddC m c who k) := by
  cases hv : aget m who with
  | none => rw [tAddM_new hv, tAddC_new hv]; exact h.chg who k
  | some v => rw [tAddM_old hv, tAddC_old hv]; exact h
theorem aget_tAddM {m : List (Int × Int)} {who k w : Int} : aget (tAddM m who k) w = if w = who ∧ aget m who = none then some k else aget m w := by
  cases hv : aget m who with
  | none =>
    rw [tAddM_new hv, aget_aput]
    by_cases h : w = who
    · rw [if_pos h, if_pos ⟨h, rfl⟩]
    · rw [if_neg h, if_neg (fun h2 => h h2.1)]
  | some v => rw [tAddM_old hv, if_neg (fun h2 => by cases h2.2)]
section
variable {T : List (ByteArray × Nat)} {n id stamp : Int} {m : Msg} {M : List (Int × Int)} {K : List (Int × Nat)}
theorem Votes.nil {n : Int} : Votes n [] [] := ⟨TInv.nil, by simp, by simp [aget]⟩
theorem Votes.recv (h : Votes n M K) : Votes n (recvM T n id stamp M m) (recvC T n id stamp M K m) := by
  by_cases h0 : (readR T n id stamp true m).2 ≠ 0
  · unfold recvM recvC
    rw [if_pos h0, if_pos h0]
    exact h
  · have hr := readR_ok (show (readR T n id stamp true m).2 = 0 by omega)
    have hn := hr.nums
    unfold recvM recvC
    rw [if_neg h0, if_neg h0]
    refine ⟨h.inv.add' _ _, fun w hw => ?_, fun w v hv => ?_⟩
    · rw [← aget_isSome, aget_tAddM] at hw
      split at hw
      · next h2 => rw [h2.1]; exact ⟨hr.lo, hr.hi⟩
      · exact h.who w ((aget_isSome _ _).1 hw)
    · rw [aget_tAddM] at hv
      split at hv
      · cases hv; exact hn.2
      · exact h.what w v hv
end
/-- What stays true of a client that asks its next, one behind the other: 'asked' times it was well. -/
structure COnce (n id : Int) (k : Nat) (asked : Nat) (s : CS) (T : List (ByteArray × Nat)) : Prop where
  stamp : s.stamp = asked
  few : asked ≤ k
  accs : ∀ (i : Nat) (h : i < s.acc.length), (s.acc[i]).client = id ∧ (s.acc[i]).stamp = (i : Nat) + 1
  idle : s.wait = none → s.acc.length = asked
  busy : ∀ w, s.wait = some w → s.acc.length + 1 = asked ∧ w.core.stamp = asked ∧ Votes n w.m w.c
  num : Num1 T
  tags : T.length ≤ 8 * k
theorem COnce.start {n id : Int} (av : Value) : COnce n id 0 0 ⟨0, none, [], av⟩ [] := ⟨rfl, Nat.le_refl _, fun i h => by simp at h, fun _ => rfl, by simp, Num1.nil, Nat.le_refl _⟩
theorem COnce.ok {n id : Int} {k asked : Nat} {s : CS} {T : List (ByteArray × Nat)} (h : COnce n id k asked s T) (hk : k ≤ 900) : CSOk n s := by
  refine ⟨fun w hw => (h.busy w hw).2.2, ?_⟩
  have h1 := h.few
  cases hw : s.wait with
  | none => have := h.idle hw; omega
  | some w => have := (h.busy w hw).1; omega
theorem COnce.ask {n id : Int} {k asked : Nat} {s : CS} {T : List (ByteArray × Nat)} (h : COnce n id k asked s T) (x : Core) (z : Nat × Nat × Nat × Nat) :
    COnce n id (k + 1) (if askSE n id s (nextC id s.stamp x) = 0 then asked + 1 else asked) (askS T n id s (nextC id s.stamp x) z) (askST T n id s (nextC id s.stamp x)) := by
  have hl := allN_le n
  obtain ⟨stamp, wait, acc, av⟩ := s
  have hst : stamp = asked := h.stamp
  have hT : COnce n id (k + 1) asked ⟨stamp, wait, acc, av⟩ T := ⟨h.stamp, by have := h.few; omega, h.accs, h.idle, h.busy, h.num, by have := h.tags; omega⟩
  by_cases he : askSE n id ⟨stamp, wait, acc, av⟩ (nextC id stamp x) = 0
  · cases wait with
    | some w => exact absurd he (by show ¬ (15 : Int) = 0; decide)
    | none =>
      have he2 : askE n id stamp (nextC id stamp x) = 0 := he
      have hS : askS T n id ⟨stamp, none, acc, av⟩ (nextC id stamp x) z = ⟨stamp + 1, some ⟨nextC id stamp x, askM T n id (nextC id stamp x), [], [], z.1, z.2.1, z.2.2.1, z.2.2.2⟩, acc, av⟩ := if_pos he2
      have hTT : askST T n id ⟨stamp, none, acc, av⟩ (nextC id stamp x) = askT T n id (nextC id stamp x) := if_pos he
      rw [if_pos he, hS, hTT]
      refine ⟨by show stamp + 1 = ((asked + 1 : Nat) : Int); omega, by have := h.few; omega, h.accs, by simp, fun w hw => ?_, tmG_num h.num _ _, ?_⟩
      · cases hw
        exact ⟨by have := h.idle rfl; show acc.length + 1 = asked + 1; simp only at this; omega, by show stamp + 1 = ((asked + 1 : Nat) : Int); omega, Votes.nil⟩
      · have h1 := tmG_len (gI id (textV 1 (askB (nextC id stamp x)))) T (allN n)
        have h2 := h.tags
        show (tmG _ _ _).length ≤ _
        omega
  · have hS : askS T n id ⟨stamp, wait, acc, av⟩ (nextC id stamp x) z = ⟨stamp, wait, acc, av⟩ := by
      cases wait with
      | some w => rfl
      | none => exact if_neg he
    have hTT : askST T n id ⟨stamp, wait, acc, av⟩ (nextC id stamp x) = T := if_neg he
    rw [if_neg he, hS, hTT]
    exact hT
theorem COnce.recv {n id : Int} {k asked : Nat} {s : CS} {T : List (ByteArray × Nat)} (h : COnce n id k asked s T) (m : Msg) (z : Value) : COnce n id k asked (recvS T n id s m z) T := by
  obtain ⟨stamp, wait, acc, av⟩ := s
  cases wait with
  | none => exact h
  | some w =>
    have hb := h.busy w rfl
    have hb1 : acc.length + 1 = asked := hb.1
    have hst : stamp = asked := h.stamp
    by_cases hD : recvD T n id stamp w.m w.c m = true
    · have hS : recvS T n id ⟨stamp, some w, acc, av⟩ m z = ⟨stamp, none, acc ++ [Oc.mk id (readR T n id stamp true m).1.stamp (readR T n id stamp true m).1.result], z⟩ := if_pos hD
      rw [hS]
      have h0 : (readR T n id stamp true m).2 = 0 := by
        by_cases h1 : (readR T n id stamp true m).2 = 0
        · exact h1
        · rw [(recv_bad (M := w.m) (K := w.c) h1).2.2.2] at hD; cases hD
      have hr := readR_ok h0
      have hs2 : (readR T n id stamp true m).1.stamp = stamp := by rw [hr.val]; exact hr.stamp
      refine ⟨h.stamp, h.few, fun i hi => ?_, fun _ => by show (acc ++ [_]).length = asked; simp; omega, by simp, h.num, h.tags⟩
      have hi' : i < acc.length + 1 := by simpa using hi
      by_cases h2 : i < acc.length
      · have := h.accs i h2
        simp only [List.getElem_append_left h2]
        exact this
      · obtain rfl : i = acc.length := by omega
        simp only [List.getElem_append_right (Nat.le_refl _), Nat.sub_self, List.getElem_cons_zero]
        exact ⟨trivial, by rw [hs2, hst]; omega⟩
    · have hS : recvS T n id ⟨stamp, some w, acc, av⟩ m z = ⟨stamp, some { w with m := recvM T n id stamp w.m m, c := recvC T n id stamp w.m w.c m }, acc, z⟩ := if_neg hD
      rw [hS]
      refine ⟨h.stamp, h.few, h.accs, by simp, fun v hv => ?_, h.num, h.tags⟩
      cases hv
      exact ⟨hb1, hb.2.1, hb.2.2.recv⟩
theorem COnce.more {n id : Int} {k asked : Nat} {s : CS} {T : List (ByteArray × Nat)} (h : COnce n id k asked s T) (g : Int → ByteArray) (b : Int) : COnce n id (k + 1) asked s (tmG g T [b]) :=
  ⟨h.stamp, by have := h.few; omega, h.accs, h.idle, h.busy, tmG_num h.num _ _, by
    have h1 := tmG_len g T [b]
    have h2 := h.tags
    simp only [List.length_singleton] at h1
    omega⟩
/-- A reply just said is well said. -/
theorem chk_said (T : List (ByteArray × Nat)) (a b : Int) (body : List UInt8) : chkMI (tmG (gI a (textV 12 body)) T [b]) ⟨12, a, body, tagsG (gI a (textV 12 body)) T [b]⟩ 0 b = 0 := by
  have e : tmG (gI a (textV 12 body)) T [b] = pm T (gI a (textV 12 body) b) := rfl
  unfold chkMI
  rw [if_neg (by simp [tagsG]), if_pos]
  rw [e]
  have h1 := hasK_pm (T := T) (k := gI a (textV 12 body) b) (gI a (textV 12 body) b)
  rw [decide_eq_true rfl, Bool.true_or] at h1
  unfold hasK at h1
  rw [Bool.and_eq_true]
  refine ⟨h1, decide_eq_true ?_⟩
  rfl
end Go.Proofs.Ytmkijjmbiiiicaa.A
/-
  The program's client as one state: Receive, whole.
-/
set_option maxRecDepth 100000
set_option linter.unusedSimpArgs false
set_option linter.unusedVariables false
namespace Go.Proofs.Ytmkijjmbiiiicaa.A
open Go.RowKit

theorem Spec.withR {P : Program} {f : FuncId} {args : List Abs} {α ys : Blks} {ι : Type} {τ : ι → Blks} {res : ι → Abs} (h : Spec P f args (α ++ ys.map It.toRd) τ res) (hα : ∀ x ∈ α, x.rids = []) (hτ : ∀ z, ∀ x ∈ τ z ++ ys, x.rids = []) : Spec P f args (α ++ ys) (fun z => τ z ++ ys) res := fun G w vals hm hv => by
  have hsp : Split (α ++ ys) (α ++ ys.map It.toRd) ys := by
    refine ⟨?_, fun x hx => ?_, fun x hx => List.mem_append_right _ hx⟩
    · have h0 : mids (ys.map It.toRd) = [] := by
        unfold mids
        simp [List.flatMap_map, toRd_mids]
      rw [mids_append, mids_append, h0, List.append_nil]
    · rcases List.mem_append.1 hx with hx | hx
      · exact .inl ⟨List.mem_append_left _ hx, hα x hx⟩
      · obtain ⟨y, hy, rfl⟩ := List.mem_map.1 hx
        exact .inr ⟨y, hy, rfl⟩
  refine (h.after hm hv (K := fun ν z => ν = τ z ++ ys) ⟨ys, hsp, fun z => ⟨_, List.Perm.refl _, rfl⟩⟩).mono fun e w' ⟨z, u, ν, he, hx, ho, hm', hc, hr', hk⟩ => ?_
  subst hk
  exact ⟨z, u, he, hτ z, hm', hr'⟩
theorem ac_core (a : Ac) : A.part a.abs 3 7 = a.core.cells.map .v := rfl
theorem ac_reply (a : Ac) : A.part a.abs 10 4 = a.reply.abs := rfl
section
variable {p q bd bt : Nat} {n id : Int} {x : Core} {m : Msg} {T : List (ByteArray × Nat)} {s : CS} {a : Ac}
theorem recvF_s (hl : m.body.length ≤ 100000) (hn : Num1 T) (hT : T.length < 1000000) (hs : CSOk n s) (h7 : 1 ≤ n ∧ n ≤ 7) : Spec Try.prog 11 [ptr p, .agg m.abs] (clP p q n id s ++ hidP q bd bt T) (fun z : Value => clP p q n id (recvS T n id s m z) ++ hidP q bd bt T) (fun _ => int (recvSE T n id s m)) :=
  Spec.withR (ys := hidP q bd bt T) (recv_s (p := p) (q := q) (bd := bd) (bt := bt) (id := id) hl hn hT hs h7) (clP_rids _) (fun z => askS_rids)
end
end Go.Proofs.Ytmkijjmbiiiicaa.A
/-
  ClientOnce: the walk.
-/
set_option maxRecDepth 100000
set_option linter.unusedSimpArgs false
set_option linter.unusedVariables false
namespace Go.Proofs.Ytmkijjmbiiiicaa.A
open Go.RowKit

def actsA (l : List Ac) : Abs := .sl 18 (l.map Ac.abs)
structure OnceOk (l : List Ac) (y : Nat × Nat × CS × List (ByteArray × Nat)) : Prop where
  le : y.1 ≤ l.length
  once : COnce 4 4 y.1 y.2.1 y.2.2.1 y.2.2.2
section
variable {l : List Ac}
end
end Go.Proofs.Ytmkijjmbiiiicaa.A
/-
  Clients, plain: the calls whose answers the document fixes.
-/
set_option maxRecDepth 100000
set_option linter.unusedSimpArgs false
set_option linter.unusedVariables false
namespace Go.Proofs.Ytmkijjmbiiiicaa.A
open Go.RowKit

def x31 : Core := ⟨5, 1, 1, ⟨#[97]⟩, 0, 0, ⟨#[]⟩⟩
def r31 : Rp := ⟨0, 5, 1, 0⟩
theorem x31_ask : askE 4 5 0 x31 = 0 := (if_pos rfl).trans (by kernel_rfl)
theorem r31_parse : parseR r31.bytes 4 = (r31, 0) := by kernel_rfl
def m31 (T : List (ByteArray × Nat)) (a : Int) : Msg := ⟨12, a, r31.bytes, tagsG (gI a (textV 12 r31.bytes)) T [5]⟩
def t31 (T : List (ByteArray × Nat)) (a : Int) : List (ByteArray × Nat) := tmG (gI a (textV 12 r31.bytes)) T [5]
theorem r31_read (T : List (ByteArray × Nat)) (a : Int) (h : 0 ≤ a ∧ a < 4) : readR (t31 T a) 4 5 1 true (m31 T a) = (r31, 0) := by
  have h1 := chk_said T a 5 r31.bytes
  have h2 : parseR (m31 T a).body 4 = (r31, 0) := r31_parse
  unfold readR
  rw [if_neg (by show ¬ ((12 : Int) ≠ 12 ∨ a < 0 ∨ 4 ≤ a); omega), if_neg (fun h3 => h3 h1), h2]
  rfl
theorem recv31a (T : List (ByteArray × Nat)) : recvE (t31 T 0) 4 5 1 [] (m31 T 0) = 0 ∧ recvM (t31 T 0) 4 5 1 [] (m31 T 0) = [(0, 0)] ∧ recvC (t31 T 0) 4 5 1 [] [] (m31 T 0) = [(0, 1)] ∧ recvD (t31 T 0) 4 5 1 [] [] (m31 T 0) = false := by
  have h := r31_read T 0 (by decide)
  obtain ⟨h1, h2, h3, h4⟩ := recv_new (T := t31 T 0) (n := 4) (id := 5) (stamp := 1) (m := m31 T 0) (M := []) (K := []) (by rw [h]) rfl
  rw [h] at h2 h3 h4
  refine ⟨h1, h2.trans rfl, h3.trans rfl, h4.trans ?_⟩
  exact decide_eq_false (by show ¬ ((max (4 : Int) 1 - 1) / 3 < ((cget (tAddC ([] : List (Int × Int)) [] 0 0) 0 : Nat) : Int)); decide)
theorem recv31b (T : List (ByteArray × Nat)) : recvE (t31 T 2) 4 5 1 [(0, 0)] (m31 T 2) = 0 ∧ recvD (t31 T 2) 4 5 1 [(0, 0)] [(0, 1)] (m31 T 2) = true := by
  have h := r31_read T 2 (by decide)
  obtain ⟨h1, h2, h3, h4⟩ := recv_new (T := t31 T 2) (n := 4) (id := 5) (stamp := 1) (m := m31 T 2) (M := [(0, 0)]) (K := [(0, 1)]) (by rw [h]) rfl
  rw [h] at h4
  exact ⟨h1, h4.trans (decide_eq_true (by show (max (4 : Int) 1 - 1) / 3 < ((cget (tAddC ([(0, 0)] : List (Int × Int)) [(0, 1)] 2 0) 0 : Nat) : Int); decide))⟩
end Go.Proofs.Ytmkijjmbiiiicaa.A
/-
  Clients: the calls that the document fixes.
-/
set_option maxRecDepth 100000
set_option linter.unusedSimpArgs false
set_option linter.unusedVariables false
namespace Go.Proofs.Ytmkijjmbiiiicaa.A
open Go.RowKit

def s31 : CS := ⟨0, none, [], .slice none 0 0⟩
noncomputable def T31 : List (ByteArray × Nat) := askT [] 4 5 x31
def s31a (z : Nat × Nat × Nat × Nat) : CS := ⟨1, some ⟨x31, askM [] 4 5 x31, [], [], z.1, z.2.1, z.2.2.1, z.2.2.2⟩, [], .slice none 0 0⟩
def s31b (z : Nat × Nat × Nat × Nat) (v : Value) : CS := ⟨1, some ⟨x31, askM [] 4 5 x31, [(0, 0)], [(0, 1)], z.1, z.2.1, z.2.2.1, z.2.2.2⟩, [], v⟩
def s31c (v : Value) : CS := ⟨1, none, [⟨5, 1, 0⟩], v⟩
theorem T31_num : Num1 T31 := tmG_num Num1.nil _ _
theorem T31_len : T31.length ≤ 100 := by
  have h1 := tmG_len (gI 5 (textV 1 (askB x31))) [] (allN 4)
  have h2 := allN_le 4
  simp only [List.length_nil] at h1
  show (tmG _ _ _).length ≤ _
  omega
theorem t31_len (T : List (ByteArray × Nat)) (a : Int) : (t31 T a).length ≤ T.length + 1 := tmG_len _ T [5]
theorem t31_num {T : List (ByteArray × Nat)} (h : Num1 T) (a : Int) : Num1 (t31 T a) := tmG_num h _ _
theorem x31_ins : Core.ins x31 := by
  refine ⟨?_, ?_, ?_, ?_, ?_, by decide, by decide⟩ <;> (simp only [InR, lo, hi, x31]; omega)
section
variable {p q bd bt : Nat} {z : Nat × Nat × Nat × Nat} {v : Value} {T : List (ByteArray × Nat)}
theorem ask31_s : Spec Try.prog 9 [ptr p, coreA x31, .sl 2 []] (clP p q 4 5 s31 ++ hidP q bd bt []) (fun z : Nat × Nat × Nat × Nat => clP p q 4 5 (s31a z) ++ hidP q bd bt T31) (fun _ => .tup [.sl 5 (parcels (askM [] 4 5 x31) (allN 4)), int 0]) := by
  have h := askS_s (p := p) (q := q) (bd := bd) (bt := bt) (n := 4) (id := 5) (s := s31) (x := x31) (T := []) x31_ins x31_ins (by decide) (by decide) Num1.nil (by simp) (by decide)
  have e0 : askSE 4 5 s31 x31 = 0 := x31_ask
  have e1 : (fun z : Nat × Nat × Nat × Nat => clP p q 4 5 (askS [] 4 5 s31 x31 z) ++ hidP q bd bt (askST [] 4 5 s31 x31)) = fun z => clP p q 4 5 (s31a z) ++ hidP q bd bt T31 := by
    funext z
    rw [show askS [] 4 5 s31 x31 z = s31a z from if_pos x31_ask, show askST [] 4 5 s31 x31 = T31 from if_pos e0]
  rw [e1, e0, show askSL [] 4 5 s31 x31 = parcels (askM [] 4 5 x31) (allN 4) from if_pos e0] at h
  exact h
theorem rcv31a_s (hn : Num1 T) (hT : T.length ≤ 1000) : Spec Try.prog 11 [ptr p, .agg (m31 T 0).abs] (clP p q 4 5 (s31a z) ++ hidP q bd bt (t31 T 0)) (fun v : Value => clP p q 4 5 (s31b z v) ++ hidP q bd bt (t31 T 0)) (fun _ => int 0) := by
  have hl := t31_len T 0
  have h := recvF_s (p := p) (q := q) (bd := bd) (bt := bt) (n := 4) (id := 5) (s := s31a z) (m := m31 T 0) (T := t31 T 0) (by show r31.bytes.length ≤ _; rw [Rp.bytes_length]; omega) (t31_num hn 0) (by omega) ⟨fun w hw => by cases hw; exact Votes.nil, by show ([] : List Oc).length ≤ _; decide⟩ (by decide)
  obtain ⟨h1, h2, h3, h4⟩ := recv31a T
  have e1 : (fun v : Value => clP p q 4 5 (recvS (t31 T 0) 4 5 (s31a z) (m31 T 0) v) ++ hidP q bd bt (t31 T 0)) = fun v => clP p q 4 5 (s31b z v) ++ hidP q bd bt (t31 T 0) := by
    funext v
    have e : recvS (t31 T 0) 4 5 (s31a z) (m31 T 0) v = s31b z v := by
      refine (if_neg (by show ¬ recvD (t31 T 0) 4 5 1 [] [] (m31 T 0) = true; rw [h4]; decide)).trans ?_
      show CS.mk 1 (some ⟨x31, askM [] 4 5 x31, recvM (t31 T 0) 4 5 1 [] (m31 T 0), recvC (t31 T 0) 4 5 1 [] [] (m31 T 0), _, _, _, _⟩) [] v = _
      rw [h2, h3]
      rfl
    rw [e]
  rw [e1, show recvSE (t31 T 0) 4 5 (s31a z) (m31 T 0) = 0 from h1] at h
  exact h
theorem votes31 : Votes 4 [(0, 0)] [((0 : Int), 1)] := by
  have h := recv31a []
  have hv := (Votes.nil (n := 4)).recv (T := t31 [] 0) (id := 5) (stamp := 1) (m := m31 [] 0)
  rw [h.2.1, h.2.2.1] at hv
  exact hv
theorem rcv31b_s (hn : Num1 T) (hT : T.length ≤ 1000) : Spec Try.prog 11 [ptr p, .agg (m31 T 2).abs] (clP p q 4 5 (s31b z v) ++ hidP q bd bt (t31 T 2)) (fun v : Value => clP p q 4 5 (s31c v) ++ hidP q bd bt (t31 T 2)) (fun _ => int 0) := by
  have hl := t31_len T 2
  have h := recvF_s (p := p) (q := q) (bd := bd) (bt := bt) (n := 4) (id := 5) (s := s31b z v) (m := m31 T 2) (T := t31 T 2) (by show r31.bytes.length ≤ _; rw [Rp.bytes_length]; omega) (t31_num hn 2) (by omega) ⟨fun w hw => by cases hw; exact votes31, by show ([] : List Oc).length ≤ _; decide⟩ (by decide)
  obtain ⟨h1, h4⟩ := recv31b T
  have e1 : (fun u : Value => clP p q 4 5 (recvS (t31 T 2) 4 5 (s31b z v) (m31 T 2) u) ++ hidP q bd bt (t31 T 2)) = fun u => clP p q 4 5 (s31c u) ++ hidP q bd bt (t31 T 2) := by
    funext u
    have e : recvS (t31 T 2) 4 5 (s31b z v) (m31 T 2) u = s31c u := by
      refine (if_pos h4).trans ?_
      rw [r31_read T 2 (by decide)]
      rfl
    rw [e]
  rw [e1, show recvSE (t31 T 2) 4 5 (s31b z v) (m31 T 2) = 0 from h1] at h
  exact h
end
set_option maxHeartbeats 8000000 in
theorem fixed31_s  : Spec Try.prog 6 [] [] (fun _ : Unit => []) (fun _ => boo true) := by
  refine spec_of Try.func6 rfl Try.ntmps6 rfl fun G w => ?_
  refine SC.seq (SC.region ?_)
  refine SL.val (Val.assign rfl) rfl rfl ?_
  refine SL.nil (SE.seq ?_)
  refine SC.seq (SC.region ?_)
  refine SL.call (inew_s) Casts.refl (by kernel_rfl) rfl rfl rfl ?_
  refine After.make3 (by repeat (first | exact Reads.nil | (refine Reads.blk ?_ ?_; focus ((repeat first|assumption|exact m0|apply m1); done)) | (refine Reads.rd ?_ ?_; focus ((repeat first|assumption|exact m0|apply m1); done)) | (refine Reads.pc ?_ ?_; focus ((repeat first|assumption|exact m0|apply m1); done)) | (refine Reads.rdpc ?_ ?_; focus ((repeat first|assumption|exact m0|apply m1); done)))) (fun _ => rfl) ?_
  intro z0
  refine SL.val (Val.assign rfl) rfl rfl ?_
  refine SL.nil (SE.seq ?_)
  refine SC.seq (SC.region ?_)
  refine SL.val (Val.move rfl) rfl rfl ?_
  refine SL.val (Val.makeIface rfl (fun _ _ => by kernel_rfl)) rfl rfl ?_
  refine SL.call (new_s (q := z0.1) (n := 4) (id := 5) (by decide) (by decide)) Casts.refl (by kernel_rfl) rfl rfl rfl ?_
  refine After.make2 (by repeat (first | exact Reads.nil | (refine Reads.blk ?_ ?_; focus ((repeat first|assumption|exact m0|apply m1); done)) | (refine Reads.rd ?_ ?_; focus ((repeat first|assumption|exact m0|apply m1); done)) | (refine Reads.pc ?_ ?_; focus ((repeat first|assumption|exact m0|apply m1); done)) | (refine Reads.rdpc ?_ ?_; focus ((repeat first|assumption|exact m0|apply m1); done)))) (fun _ => rfl) ?_
  intro z1
  refine SL.val (Val.assign rfl) rfl rfl ?_
  refine SL.nil (SE.seq ?_)
  refine SC.seq ?_
  refine SC.to (T' := St _ _ (clP z1 z0.1 4 5 (s31) ++ hidP z0.1 z0.2.1 z0.2.2 ([])) _) (fun a w h => h.less (by show List.Sublist [_, _, _, _] [_, _, _, _, _]; repeat (first | exact List.nil_sublist _ | exact List.Sublist.refl _ | apply List.Sublist.cons_cons | apply List.Sublist.cons))) ?_
  refine SC.region ?_
  refine SL.val (Val.move rfl) rfl rfl ?_
  refine SL.val (Val.move rfl) rfl rfl ?_
  refine SL.val (Val.buildS (L := (Core.cells ⟨0, 0, 1, ⟨#[97]⟩, 0, 0, ⟨#[]⟩⟩).map .v) tabOk rfl rfl rfl (by rfl)) rfl rfl ?_
  refine SL.call (nextS_s (p := z1) (q := z0.1) (n := 4) (id := 5) (s := s31) (x := ⟨0, 0, 1, ⟨#[97]⟩, 0, 0, ⟨#[]⟩⟩) (by decide) (by decide)) Casts.refl (by kernel_rfl) rfl rfl rfl ?_
  refine After.mid [] (β := hidP z0.1 z0.2.1 z0.2.2 ([])) rfl (clP_rids _) ?_
  intro _
  refine SL.call (ask31_s (p := z1) (q := z0.1) (bd := z0.2.1) (bt := z0.2.2)) (Casts.keep (Casts.keep (Casts.nils (s := 2) Casts.refl))) (by kernel_rfl) rfl rfl rfl ?_
  refine After.mid [] (β := []) (by first | rfl | (simp; done) | (simp [hidP]; done)) askS_rids ?_
  intro za
  refine SL.val (Val.move rfl) rfl rfl ?_
  refine SL.val (Val.extract rfl rfl) rfl rfl ?_
  refine SL.val (Val.extract rfl rfl) rfl rfl ?_
  refine SL.val (Val.assign rfl) rfl rfl ?_
  refine SL.val (Val.assign rfl) rfl rfl ?_
  refine SL.nil (SE.seq ?_)
  refine SC.seq (SC.region ?_)
  refine SL.val (Val.move rfl) rfl rfl ?_
  refine SL.val (Val.move rfl) rfl rfl ?_
  refine SL.val (Val.buildS (L := r31.abs) tabOk rfl rfl rfl (by rfl)) rfl rfl ?_
  refine SL.call (reply_s (q := z0.1) (bd := z0.2.1) (bt := z0.2.2) (a := 0) (b := 5) (r := r31) (T := T31) T31_num (by have := T31_len; omega)) Casts.refl (by kernel_rfl) rfl rfl rfl ?_
  refine After.mid (clP z1 z0.1 4 5 (s31a za)) (β := []) (by first | rfl | (simp [hidP]; done)) (by intro x hx; simp only [hidP, List.mem_cons, List.not_mem_nil, or_false] at hx; rcases hx with rfl | rfl <;> rfl) ?_
  intro _
  refine SL.call (rcv31a_s (p := z1) (q := z0.1) (bd := z0.2.1) (bt := z0.2.2) (z := za) (T := T31) T31_num (by have := T31_len; omega)) Casts.refl (by kernel_rfl) rfl rfl rfl ?_
  refine After.mid [] (β := []) (by first | rfl | (simp; done) | (simp [hidP]; done)) askS_rids ?_
  intro zr
  refine SL.val (Val.assign rfl) rfl rfl ?_
  refine SL.nil (SE.seq ?_)
  refine SC.seq (SC.region ?_)
  refine SL.val (Val.move rfl) rfl rfl ?_
  refine SL.call (accS_s (p := z1) (q := z0.1) (n := 4) (id := 5) (s := s31b za zr) (by show ([] : List Oc).length ≤ _; decide)) Casts.refl (by kernel_rfl) rfl rfl rfl ?_
  refine After.mid [] (β := hidP z0.1 z0.2.1 z0.2.2 ((t31 T31 0))) (by first | rfl | (simp; done) | (simp [hidP, t31]; done)) (clP_rids _) ?_
  intro _
  first
    | refine SL.val (Val.lenSl rfl Try.underlying42 (List.length_map _)) rfl rfl ?_
    | refine SL.val (Val.lenOwn rfl (by repeat first|assumption|exact m0|apply m1) Try.underlying42 (List.length_map _)) rfl rfl ?_
    | refine SL.val (Val.lenNil rfl Try.underlying42) rfl rfl ?_
  refine SL.val (Val.assign rfl) rfl rfl ?_
  refine SL.nil (SE.seq ?_)
  refine SC.seq (SC.region ?_)
  refine SL.val (Val.move rfl) rfl rfl ?_
  refine SL.val (Val.move rfl) rfl rfl ?_
  refine SL.val (Val.buildS (L := r31.abs) tabOk rfl rfl rfl (by rfl)) rfl rfl ?_
  refine SL.call (reply_s (q := z0.1) (bd := z0.2.1) (bt := z0.2.2) (a := 2) (b := 5) (r := r31) (T := (t31 T31 0)) (t31_num T31_num 0) (by have := T31_len; have := t31_len T31 0; omega)) Casts.refl (by kernel_rfl) rfl rfl rfl ?_
  refine After.mid (clP z1 z0.1 4 5 (s31b za zr)) (β := []) (by first | rfl | (simp [hidP]; done)) (by intro x hx; simp only [hidP, List.mem_cons, List.not_mem_nil, or_false] at hx; rcases hx with rfl | rfl <;> rfl) ?_
  intro _
  refine SL.call (rcv31b_s (p := z1) (q := z0.1) (bd := z0.2.1) (bt := z0.2.2) (z := za) (v := zr) (T := (t31 T31 0)) (t31_num T31_num 0) (by have := T31_len; have := t31_len T31 0; omega)) Casts.refl (by kernel_rfl) rfl rfl rfl ?_
  refine After.mid [] (β := []) (by first | rfl | (simp; done) | (simp [hidP]; done)) askS_rids ?_
  intro zs
  refine SL.val (Val.assign rfl) rfl rfl ?_
  refine SL.nil (SE.seq ?_)
  refine SC.seq (SC.region ?_)
  refine SL.val (Val.move rfl) rfl rfl ?_
  refine SL.call (waitS_s (p := z1) (q := z0.1) (n := 4) (id := 5) (s := s31c zs)) Casts.refl (by kernel_rfl) rfl rfl rfl ?_
  refine After.mid [] (β := hidP z0.1 z0.2.1 z0.2.2 ((t31 (t31 T31 0) 2))) (by first | rfl | (simp; done) | (simp [hidP, t31]; done)) (clP_rids _) ?_
  intro _
  refine SL.val (Val.move rfl) rfl rfl ?_
  refine SL.val (Val.extract rfl rfl) rfl rfl ?_
  refine SL.val (Val.extract rfl rfl) rfl rfl ?_
  refine SL.eff (Eff.alloc tabOk rfl) rfl rfl ?_
  rintro _ _ ⟨b8, rfl, rfl⟩
  refine SL.eff (Eff.store tabOk rfl rfl rfl (by repeat first|assumption|exact Upd.here|apply Upd.there) (by rfl) (Nat.le_of_ble_eq_true (by rfl)) (by rfl) (by rfl)) rfl rfl ?_
  rintro _ _ ⟨rfl, rfl⟩
  refine SL.val (Val.assign rfl) rfl rfl ?_
  refine SL.nil (SE.seq ?_)
  refine SC.seq (SC.region ?_)
  refine SL.val (Val.move rfl) rfl rfl ?_
  refine SL.val (Val.to (C := boo true) (Val.eqI rfl rfl) (congrArg (fun b => Abs.v (Value.bool b)) (decide_eq_true (rfl)))) rfl rfl ?_
  refine SL.val (Val.move rfl) rfl rfl ?_
  refine SL.val (Val.move rfl) rfl rfl ?_
  first
    | refine SL.val (Val.lenSl rfl Try.underlying28 (List.length_map _)) rfl rfl ?_
    | refine SL.val (Val.lenOwn rfl (by repeat first|assumption|exact m0|apply m1) Try.underlying28 (List.length_map _)) rfl rfl ?_
    | refine SL.val (Val.lenNil rfl Try.underlying28) rfl rfl ?_
  refine SL.val (Val.to (C := boo true) (Val.eqI rfl rfl) (congrArg (fun b => Abs.v (Value.bool b)) (decide_eq_true (by kernel_rfl)))) rfl rfl ?_
  refine SL.val (Val.pickT rfl rfl) rfl rfl ?_
  refine SL.val (Val.move rfl) rfl rfl ?_
  refine SL.val (Val.move rfl) rfl rfl ?_
  refine SL.val (Val.to (C := boo true) (Val.eqI rfl rfl) (congrArg (fun b => Abs.v (Value.bool b)) (decide_eq_true (rfl)))) rfl rfl ?_
  refine SL.val (Val.pickT rfl rfl) rfl rfl ?_
  refine SL.val (Val.move rfl) rfl rfl ?_
  refine SL.val (Val.move rfl) rfl rfl ?_
  refine SL.val (Val.to (C := boo true) (Val.eqI rfl rfl) (congrArg (fun b => Abs.v (Value.bool b)) (decide_eq_true (rfl)))) rfl rfl ?_
  refine SL.val (Val.pickT rfl rfl) rfl rfl ?_
  refine SL.val (Val.move rfl) rfl rfl ?_
  refine SL.val (Val.move rfl) rfl rfl ?_
  refine SL.val (Val.to (C := boo true) (Val.eqI rfl rfl) (congrArg (fun b => Abs.v (Value.bool b)) (decide_eq_true (by kernel_rfl)))) rfl rfl ?_
  refine SL.val (Val.pickT rfl rfl) rfl rfl ?_
  refine SL.val (Val.move rfl) rfl rfl ?_
  refine SL.val (Val.move rfl) rfl rfl ?_
  refine SL.val (Val.notB rfl) rfl rfl ?_
  refine SL.val (Val.pickT rfl rfl) rfl rfl ?_
  refine SL.val (Val.move rfl) rfl rfl ?_
  refine SL.both (t := 63) rfl ?_ (by intro hc63; exfalso; simp [s31c] at hc63)
  intro hc63
  refine SL.val (Val.move rfl) rfl rfl ?_
  refine SL.call (accS_s (p := z1) (q := z0.1) (n := 4) (id := 5) (s := s31c zs) (by show [_].length ≤ _; decide)) Casts.refl (by kernel_rfl) rfl rfl rfl ?_
  refine After.mid [_] (β := hidP z0.1 z0.2.1 z0.2.2 ((t31 (t31 T31 0) 2))) (by first | rfl | (simp; done) | (simp [hidP, t31]; done)) (clP_rids _) ?_
  intro _
  first
    | refine SL.val (Val.lenSl rfl Try.underlying42 (List.length_map _)) rfl rfl ?_
    | refine SL.val (Val.lenOwn rfl (by repeat first|assumption|exact m0|apply m1) Try.underlying42 (List.length_map _)) rfl rfl ?_
    | refine SL.val (Val.lenNil rfl Try.underlying42) rfl rfl ?_
  refine SL.val (Val.to (C := boo true) (Val.eqI rfl rfl) (congrArg (fun b => Abs.v (Value.bool b)) (decide_eq_true (by kernel_rfl)))) rfl rfl ?_
  refine SL.val (Val.pickT rfl rfl) rfl rfl ?_
  refine SL.val (Val.move rfl) rfl rfl ?_
  refine SL.val (Val.move rfl) rfl rfl ?_
  refine SL.call (accS_s (p := z1) (q := z0.1) (n := 4) (id := 5) (s := s31c zs) (by show [_].length ≤ _; decide)) Casts.refl (by kernel_rfl) rfl rfl rfl ?_
  refine After.mid [_] (β := hidP z0.1 z0.2.1 z0.2.2 ((t31 (t31 T31 0) 2))) (by first | rfl | (simp; done) | (simp [hidP, t31]; done)) (clP_rids _) ?_
  intro _
  refine SL.val (Val.indexSl (q := 0) tabOk Try.underlying42 rfl rfl rfl rfl (show ((s31c zs).acc.map Oc.abs)[0]? = some (Oc.abs ⟨5, 1, 0⟩) from rfl) rfl rfl) rfl rfl ?_
  first
    | refine SL.val (Val.fieldAddr tabOk rfl rfl rfl rfl rfl) rfl rfl ?_
    | refine SL.val (Val.fieldAddrR tabOk rfl rfl rfl rfl rfl) rfl rfl ?_
  first
    | refine SL.val (Val.load1R tabOk rfl rfl rfl) rfl rfl ?_
    | refine SL.val (Val.load1 tabOk rfl rfl (by first|(apply Or.inl;(repeat first|assumption|exact m0|apply m1);done)|(apply Or.inr;(repeat first|assumption|exact m0|apply m1);done)) List.not_mem_nil (by rfl)) rfl rfl ?_
  refine SL.val (Val.to (C := boo true) (Val.eqI rfl rfl) (congrArg (fun b => Abs.v (Value.bool b)) (decide_eq_true (by kernel_rfl)))) rfl rfl ?_
  refine SL.val (Val.pickT rfl rfl) rfl rfl ?_
  refine SL.val (Val.assign rfl) rfl rfl ?_
  refine SL.nil (SE.seq ?_)
  refine SC.ret ?_
  refine SE.fin (rs := [.tmp 0]) rfl (RV.tmp rfl RV.nil) (()) (by repeat first|exact s0 _|exact s1 _|apply s2|apply s3) (by simp [It.rids]) ?_
  exact rfl
end Go.Proofs.Ytmkijjmbiiiicaa.A
/-
  Arguments that are rows of a client's acts, as trees.
-/
set_option maxRecDepth 100000
set_option linter.unusedSimpArgs false
set_option linter.unusedVariables false
namespace Go.Proofs.Ytmkijjmbiiiicaa.A
open Go.RowKit Go.ChangeShapes Go.WideShapes Go.ChangeAt

section
variable {H : Type} {enc : TypeId × Value → H} {w : World} {base : Nat} {spare : Nat → Bool} {held : Bool}
theorem open_bytL {v : Value} (h : LeafAt enc Try.prog w base spare held 37 v) : ∃ l : List UInt8, rep [] w (byt l) v := by
  obtain ⟨fuel, x, h⟩ := h
  obtain ⟨A0, n, c, rfl⟩ : ∃ A n c, v = .slice A n c := by
    rcases Deep.open_slice Try.underlying37 h with ⟨hcs, _⟩ | ⟨a, len, cap, m, n', D, Pl, hcs, _⟩
    · simp at hcs; exact ⟨_, _, _, hcs⟩
    · simp at hcs; exact ⟨_, _, _, hcs⟩
  obtain ⟨l, hl⟩ := open_bytesV h
  obtain ⟨A, c, he, h1, h2, h3, h4⟩ := hl
  refine ⟨l, rep_byt.2 ?_⟩
  rw [he]
  refine ⟨⟨A, c, rfl, h1, h2, h3⟩, fun hn => ?_⟩
  obtain ⟨b, off, rfl, hc⟩ := h4 hn
  exact ⟨b, off, _, _, rfl, by simp, hc⟩
theorem open_tgL (cs : List Value) (hl : cs.length = Try.prog.cellsOf 94) (h : ∃ m y, DataW.trod enc Try.prog w base spare held m 94 cs = some y) : ∃ x : Tg, reps [] w x.abs cs ∧ True := by
  obtain ⟨fuel, x, h⟩ := h
  rw [show Try.prog.cellsOf 94 = 32 by kernel_rfl] at hl
  have hlv : leaves Try.prog 4 94 = some (List.replicate 32 5) := by kernel_rfl
  have hh := leaves_trod 4 _ _ _ _ _ hlv (by simpa using hl.symm) h
  obtain ⟨d, rfl⟩ := open_u8 (cs := cs) fun v hv => by
    obtain ⟨j, hj, rfl⟩ := List.getElem_of_mem hv
    exact hh j cs[j] _ (List.getElem?_eq_getElem hj) (by rw [List.getElem?_replicate, if_pos (by omega)])
  exact ⟨⟨d, by simpa using hl⟩, reps_dig d, trivial⟩
theorem act_leaves : leaves Try.prog 4 55 = some [3, 3, 3, 3, 2, 3, 9, 2, 2, 9, 2, 3, 2, 29, 3, 3, 37, 38] := by kernel_rfl
theorem open_act (cs : List Value) (hl : cs.length = Try.prog.cellsOf 55) (h : ∃ m y, DataW.trod enc Try.prog w base spare held m 55 cs = some y) : ∃ a : Ac, reps [] w a.abs cs ∧ Core.ins a.core := by
  obtain ⟨fuel, x, h⟩ := h
  rw [show Try.prog.cellsOf 55 = 18 by kernel_rfl] at hl
  have hh := leaves_trod 4 _ _ _ _ _ act_leaves (by simpa using hl.symm) h
  match cs, hl with
  | [v0, v1, v2, v3, v4, v5, v6, v7, v8, v9, v10, v11, v12, v13, v14, v15, v16, v17], _ =>
    obtain ⟨n0, rfl, b0⟩ := (hh 0 v0 _ rfl rfl).int Try.underlying3
    obtain ⟨n1, rfl, b1⟩ := (hh 1 v1 _ rfl rfl).int Try.underlying3
    obtain ⟨n2, rfl, b2⟩ := (hh 2 v2 _ rfl rfl).int Try.underlying3
    obtain ⟨n3, rfl, b3⟩ := (hh 3 v3 _ rfl rfl).int Try.underlying3
    obtain ⟨n4, rfl, b4⟩ := (hh 4 v4 _ rfl rfl).int Try.underlying2
    obtain ⟨n5, rfl, b5⟩ := (hh 5 v5 _ rfl rfl).int Try.underlying3
    obtain ⟨s6, rfl, b6⟩ := (hh 6 v6 _ rfl rfl).string Try.underlying9
    obtain ⟨n7, rfl, b7⟩ := (hh 7 v7 _ rfl rfl).int Try.underlying2
    obtain ⟨n8, rfl, b8⟩ := (hh 8 v8 _ rfl rfl).int Try.underlying2
    obtain ⟨s9, rfl, b9⟩ := (hh 9 v9 _ rfl rfl).string Try.underlying9
    obtain ⟨n10, rfl, b10⟩ := (hh 10 v10 _ rfl rfl).int Try.underlying2
    obtain ⟨n11, rfl, b11⟩ := (hh 11 v11 _ rfl rfl).int Try.underlying3
    obtain ⟨n12, rfl, b12⟩ := (hh 12 v12 _ rfl rfl).int Try.underlying2
    obtain ⟨n13, rfl, b13⟩ := (hh 13 v13 _ rfl rfl).int Try.underlying29
    obtain ⟨n14, rfl, b14⟩ := (hh 14 v14 _ rfl rfl).int Try.underlying3
    obtain ⟨n15, rfl, b15⟩ := (hh 15 v15 _ rfl rfl).int Try.underlying3
    obtain ⟨l16, h16⟩ := open_bytL (hh 16 v16 _ rfl rfl)
    obtain ⟨ts, ht, _⟩ := open_slA (abs := Tg.abs) (Ok := fun _ => True) (s := 32) Try.underlying38 (by kernel_rfl) (hh 17 v17 _ rfl rfl) open_tgL
    exact ⟨⟨n0, n1, n2, ⟨n3, n4, n5, s6, n7, n8, s9⟩, ⟨n10, n11, n12, n13⟩, ⟨n14, n15, l16, ts⟩⟩, ⟨_, _, rfl, rfl, _, _, rfl, rfl, _, _, rfl, rfl, _, _, rfl, rfl, _, _, rfl, rfl, _, _, rfl, rfl, _, _, rfl, rfl, _, _, rfl, rfl, _, _, rfl, rfl, _, _, rfl, rfl, _, _, rfl, rfl, _, _, rfl, rfl, _, _, rfl, rfl, _, _, rfl, rfl, _, _, rfl, rfl, _, _, rfl, rfl, _, _, rfl, h16, _, _, rfl, ht, rfl⟩, ⟨wfIn b3, wfIn b4, wfIn b5, wfIn b7, wfIn b8, b6, b9⟩⟩
theorem open_acts {v : Value} (h : LeafAt enc Try.prog w base spare held 22 v) : ∃ l : List Ac, rep [] w (actsA l) v ∧ ∀ a ∈ l, Core.ins a.core :=
  open_slA (abs := Ac.abs) (Ok := fun a => Core.ins a.core) (s := 18) Try.underlying22 (by kernel_rfl) h open_act
end
end Go.Proofs.Ytmkijjmbiiiicaa.A
