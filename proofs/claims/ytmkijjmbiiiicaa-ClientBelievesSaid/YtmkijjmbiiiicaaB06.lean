/-
  Packed out of the texts: L2, AFace, ABook, ABk2, A18, Sum, Doc, A14, A16, A19, Id, V1, CryS.
-/
import Derived.Test.YtmkijjmbiiiicaaB05
/-
  Replies read out of bytes.
-/
set_option maxRecDepth 100000
set_option linter.unusedSimpArgs false
set_option linter.unusedVariables false
namespace Go.Proofs.Ytmkijjmbiiiicaa.A
open Go.RowKit

theorem Rp.fits_no {r : Rp} {n : Int} (h : ¬ (((0 ≤ r.view ∧ r.view ≤ 1048576) ∧ (n ≤ r.client ∧ r.client ≤ n + 3)) ∧ ((1 ≤ r.stamp ∧ r.stamp ≤ 1099511627776) ∧ r.result ≤ 99))) : r.fits n = false := decide_eq_false h
theorem Rp.fits_yes {r : Rp} {n : Int} (h : ((0 ≤ r.view ∧ r.view ≤ 1048576) ∧ (n ≤ r.client ∧ r.client ≤ n + 3)) ∧ ((1 ≤ r.stamp ∧ r.stamp ≤ 1099511627776) ∧ r.result ≤ 99)) : r.fits n = true := decide_eq_true h
section
variable {r : Rp} {l : List UInt8} {n v s c : Int} {p : Nat} {z : Rd}
theorem vview_s  : Spec Try.prog 71 [int v] [] (fun _ : Unit => []) (fun _ => boo (decide (0 ≤ v ∧ v ≤ 1048576))) := by
  refine spec_of Try.func71 rfl Try.ntmps71 rfl fun G w => ?_
  refine SC.seq (SC.region ?_)
  refine SL.val (Val.assign rfl) rfl rfl ?_
  refine SL.nil (SE.seq ?_)
  refine SC.seq (SC.region ?_)
  refine SL.val (Val.move rfl) rfl rfl ?_
  refine SL.val (Val.geI rfl rfl) rfl rfl ?_
  refine SL.val (Val.move rfl) rfl rfl ?_
  refine SL.bothP (t := 5) rfl ?_ ?_
  · intro hc5
    refine SL.val (Val.move rfl) rfl rfl ?_
    refine SL.val (Val.leI rfl rfl) rfl rfl ?_
    refine SL.val (Val.pickT rfl rfl) rfl rfl ?_
    refine SL.val (Val.assign rfl) rfl rfl ?_
    refine SL.nil (SE.seq ?_)
    refine SC.ret ?_
    refine SE.fin (rs := [.tmp 2]) rfl (RV.tmp rfl RV.nil) (()) (by repeat first|exact s0 _|exact s1 _|apply s2|apply s3) (by simp [It.rids]) ?_
    refine congrArg (fun b => Abs.v (Value.bool b)) ?_
    first | (rw [decide_eq_decide]; omega) | (symm; rw [decide_eq_false_iff_not]; omega)
  intro hc5
  iterate 2 refine SL.skip rfl rfl ?_
  refine SL.val (Val.pickF rfl rfl) rfl rfl ?_
  refine SL.val (Val.assign rfl) rfl rfl ?_
  refine SL.nil (SE.seq ?_)
  refine SC.ret ?_
  refine SE.fin (rs := [.tmp 2]) rfl (RV.tmp rfl RV.nil) (()) (by repeat first|exact s0 _|exact s1 _|apply s2|apply s3) (by simp [It.rids]) ?_
  refine congrArg (fun b => Abs.v (Value.bool b)) ?_
  first | (rw [decide_eq_decide]; omega) | (symm; rw [decide_eq_false_iff_not]; omega)
theorem vstamp_s  : Spec Try.prog 73 [int v] [] (fun _ : Unit => []) (fun _ => boo (decide (1 ≤ v ∧ v ≤ 1099511627776))) := by
  refine spec_of Try.func73 rfl Try.ntmps73 rfl fun G w => ?_
  refine SC.seq (SC.region ?_)
  refine SL.val (Val.assign rfl) rfl rfl ?_
  refine SL.nil (SE.seq ?_)
  refine SC.seq (SC.region ?_)
  refine SL.val (Val.move rfl) rfl rfl ?_
  refine SL.val (Val.geI rfl rfl) rfl rfl ?_
  refine SL.val (Val.move rfl) rfl rfl ?_
  refine SL.bothP (t := 5) rfl ?_ ?_
  · intro hc5
    refine SL.val (Val.move rfl) rfl rfl ?_
    refine SL.val (Val.leI rfl rfl) rfl rfl ?_
    refine SL.val (Val.pickT rfl rfl) rfl rfl ?_
    refine SL.val (Val.assign rfl) rfl rfl ?_
    refine SL.nil (SE.seq ?_)
    refine SC.ret ?_
    refine SE.fin (rs := [.tmp 2]) rfl (RV.tmp rfl RV.nil) (()) (by repeat first|exact s0 _|exact s1 _|apply s2|apply s3) (by simp [It.rids]) ?_
    refine congrArg (fun b => Abs.v (Value.bool b)) ?_
    first | (rw [decide_eq_decide]; omega) | (symm; rw [decide_eq_false_iff_not]; omega)
  intro hc5
  iterate 2 refine SL.skip rfl rfl ?_
  refine SL.val (Val.pickF rfl rfl) rfl rfl ?_
  refine SL.val (Val.assign rfl) rfl rfl ?_
  refine SL.nil (SE.seq ?_)
  refine SC.ret ?_
  refine SE.fin (rs := [.tmp 2]) rfl (RV.tmp rfl RV.nil) (()) (by repeat first|exact s0 _|exact s1 _|apply s2|apply s3) (by simp [It.rids]) ?_
  refine congrArg (fun b => Abs.v (Value.bool b)) ?_
  first | (rw [decide_eq_decide]; omega) | (symm; rw [decide_eq_false_iff_not]; omega)
theorem vodd_s  : Spec Try.prog 66 [.agg [int n]] [] (fun _ : Unit => []) (fun _ => boo (decide (n < 1 ∨ 7 < n))) := by
  refine spec_of Try.func66 rfl Try.ntmps66 rfl fun G w => ?_
  refine SC.seq (SC.region ?_)
  refine SL.eff (Eff.boxA (cs := [int n]) rfl) rfl rfl ?_
  rintro _ _ ⟨b1, rfl, rfl⟩
  refine SL.val (Val.assign rfl) rfl rfl ?_
  refine SL.nil (SE.seq ?_)
  refine SC.seq (SC.region ?_)
  refine SL.val (Val.fieldAddr tabOk rfl rfl rfl rfl rfl) rfl rfl ?_
  refine SL.val (Val.load1 tabOk rfl rfl (by first|(apply Or.inl;(repeat first|assumption|exact m0|apply m1);done)|(apply Or.inr;(repeat first|assumption|exact m0|apply m1);done)) List.not_mem_nil (by rfl)) rfl rfl ?_
  refine SL.val (Val.ltI rfl rfl) rfl rfl ?_
  refine SL.val (Val.move rfl) rfl rfl ?_
  refine SL.bothP (t := 6) rfl ?_ ?_
  · intro hc6
    iterate 3 refine SL.skip rfl rfl ?_
    refine SL.val (Val.pickT rfl rfl) rfl rfl ?_
    refine SL.val (Val.assign rfl) rfl rfl ?_
    refine SL.nil (SE.seq ?_)
    refine SC.ret ?_
    refine SE.fin (rs := [.tmp 2]) rfl (RV.tmp rfl RV.nil) (()) (by repeat first|exact s0 _|exact s1 _|apply s2|apply s3) (by simp [It.rids]) ?_
    refine congrArg (fun b => Abs.v (Value.bool b)) ?_
    first | (rw [decide_eq_decide]; omega) | (symm; rw [decide_eq_true_iff]; omega)
  intro hc6
  refine SL.val (Val.fieldAddr tabOk rfl rfl rfl rfl rfl) rfl rfl ?_
  refine SL.val (Val.load1 tabOk rfl rfl (by first|(apply Or.inl;(repeat first|assumption|exact m0|apply m1);done)|(apply Or.inr;(repeat first|assumption|exact m0|apply m1);done)) List.not_mem_nil (by rfl)) rfl rfl ?_
  refine SL.val (Val.gtI rfl rfl) rfl rfl ?_
  refine SL.val (Val.pickF rfl rfl) rfl rfl ?_
  refine SL.val (Val.assign rfl) rfl rfl ?_
  refine SL.nil (SE.seq ?_)
  refine SC.ret ?_
  refine SE.fin (rs := [.tmp 2]) rfl (RV.tmp rfl RV.nil) (()) (by repeat first|exact s0 _|exact s1 _|apply s2|apply s3) (by simp [It.rids]) ?_
  refine congrArg (fun b => Abs.v (Value.bool b)) ?_
  first | (rw [decide_eq_decide]; omega) | (symm; rw [decide_eq_true_iff]; omega)
theorem vclient_s (hn : 1 ≤ n ∧ n ≤ 7) : Spec Try.prog 72 [.agg [int n], int c] [] (fun _ : Unit => []) (fun _ => boo (decide (n ≤ c ∧ c ≤ n + 3))) := by
  refine spec_of Try.func72 rfl Try.ntmps72 rfl fun G w => ?_
  refine SC.seq (SC.region ?_)
  refine SL.eff (Eff.boxA (cs := [int n]) rfl) rfl rfl ?_
  rintro _ _ ⟨b2, rfl, rfl⟩
  refine SL.val (Val.assign rfl) rfl rfl ?_
  refine SL.nil (SE.seq ?_)
  refine SC.seq (SC.region ?_)
  refine SL.val (Val.move rfl) rfl rfl ?_
  refine SL.val (Val.fieldAddr tabOk rfl rfl rfl rfl rfl) rfl rfl ?_
  refine SL.val (Val.load1 tabOk rfl rfl (by first|(apply Or.inl;(repeat first|assumption|exact m0|apply m1);done)|(apply Or.inr;(repeat first|assumption|exact m0|apply m1);done)) List.not_mem_nil (by rfl)) rfl rfl ?_
  refine SL.val (Val.geI rfl rfl) rfl rfl ?_
  refine SL.val (Val.move rfl) rfl rfl ?_
  refine SL.bothP (t := 9) rfl ?_ ?_
  rotate_left
  · intro hc9
    iterate 5 refine SL.skip rfl rfl ?_
    refine SL.val (Val.pickF rfl rfl) rfl rfl ?_
    refine SL.val (Val.assign rfl) rfl rfl ?_
    refine SL.nil (SE.seq ?_)
    refine SC.ret ?_
    refine SE.fin (rs := [.tmp 4]) rfl (RV.tmp rfl RV.nil) (()) (by repeat first|exact s0 _|exact s1 _|apply s2|apply s3) (by simp [It.rids]) ?_
    refine congrArg (fun b => Abs.v (Value.bool b)) ?_
    first | (rw [decide_eq_decide]; omega) | (symm; rw [decide_eq_false_iff_not]; omega)
  intro hc9
  refine SL.val (Val.move rfl) rfl rfl ?_
  refine SL.val (Val.fieldAddr tabOk rfl rfl rfl rfl rfl) rfl rfl ?_
  refine SL.val (Val.load1 tabOk rfl rfl (by first|(apply Or.inl;(repeat first|assumption|exact m0|apply m1);done)|(apply Or.inr;(repeat first|assumption|exact m0|apply m1);done)) List.not_mem_nil (by rfl)) rfl rfl ?_
  first
    | refine SL.val (Val.addI rfl rfl (by simp only [InR, lo, hi]; omega)) rfl rfl ?_
    | refine SL.val (Val.addW rfl rfl) rfl rfl ?_
  refine SL.val (Val.ltI rfl rfl) rfl rfl ?_
  refine SL.val (Val.pickT rfl rfl) rfl rfl ?_
  refine SL.val (Val.assign rfl) rfl rfl ?_
  refine SL.nil (SE.seq ?_)
  refine SC.ret ?_
  refine SE.fin (rs := [.tmp 4]) rfl (RV.tmp rfl RV.nil) (()) (by repeat first|exact s0 _|exact s1 _|apply s2|apply s3) (by simp [It.rids]) ?_
  refine congrArg (fun b => Abs.v (Value.bool b)) ?_
  first | (rw [decide_eq_decide]; omega) | (symm; rw [decide_eq_false_iff_not]; omega)
theorem vnumber_s (hl : z.l.length ≤ lots) : Spec Try.prog 68 [ptr p] [rdA 141 p z] (fun _ : Unit => [rdA 141 p (z.fixed 8)]) (fun _ => int (IntKind.i64.wrap (z.num 8 : Nat))) := by
  refine spec_of Try.func68 rfl Try.ntmps68 rfl fun G w => ?_
  refine SC.seq (SC.region ?_)
  refine SL.val (Val.assign rfl) rfl rfl ?_
  refine SL.nil (SE.seq ?_)
  refine SC.seq (SC.region ?_)
  refine SL.val (Val.move rfl) rfl rfl ?_
  refine SL.call (number_s (s := z) (n := 8) hl rfl) Casts.refl (by kernel_rfl) rfl rfl rfl ?_
  refine After.one rfl (by repeat first|assumption|exact m0|apply m1) (fun _ => rfl) ?_
  intro _
  refine ⟨_, (by repeat first|assumption|exact Upd.here|apply Upd.there), ?_⟩
  first
    | refine SL.val (Val.convI rfl Try.underlying2 (by kernel_rfl) (by simp only [InR, lo, hi]; omega)) rfl rfl ?_
    | refine SL.val (Val.convW rfl Try.underlying2 (by kernel_rfl)) rfl rfl ?_
  refine SL.val (Val.assign rfl) rfl rfl ?_
  refine SL.nil (SE.seq ?_)
  refine SC.ret ?_
  refine SE.fin (rs := [.tmp 2]) rfl (RV.tmp rfl RV.nil) (()) (by repeat first|exact s0 _|exact s1 _|apply s2|apply s3) (by simp [It.rids]) ?_
  exact rfl
theorem vsmall_s (hl : z.l.length ≤ lots) : Spec Try.prog 69 [ptr p] [rdA 141 p z] (fun _ : Unit => [rdA 141 p (z.fixed 1)]) (fun _ => int (z.num 1 : Nat)) := by
  have n0 := z.num_lt (n := 1) (k := 1) (Nat.le_refl _)
  refine spec_of Try.func69 rfl Try.ntmps69 rfl fun G w => ?_
  refine SC.seq (SC.region ?_)
  refine SL.val (Val.assign rfl) rfl rfl ?_
  refine SL.nil (SE.seq ?_)
  refine SC.seq (SC.region ?_)
  refine SL.val (Val.move rfl) rfl rfl ?_
  refine SL.call (number_s (s := z) (n := 1) hl rfl) Casts.refl (by kernel_rfl) rfl rfl rfl ?_
  refine After.one rfl (by repeat first|assumption|exact m0|apply m1) (fun _ => rfl) ?_
  intro _
  refine ⟨_, (by repeat first|assumption|exact Upd.here|apply Upd.there), ?_⟩
  first
    | refine SL.val (Val.convI rfl Try.underlying3 (by kernel_rfl) (by simp only [InR, lo, hi]; omega)) rfl rfl ?_
    | refine SL.val (Val.convW rfl Try.underlying3 (by kernel_rfl)) rfl rfl ?_
  refine SL.val (Val.assign rfl) rfl rfl ?_
  refine SL.nil (SE.seq ?_)
  refine SC.ret ?_
  refine SE.fin (rs := [.tmp 2]) rfl (RV.tmp rfl RV.nil) (()) (by repeat first|exact s0 _|exact s1 _|apply s2|apply s3) (by simp [It.rids]) ?_
  exact rfl
set_option maxHeartbeats 2000000 in
theorem pparse_s (hl : l.length ≤ 1000000) : Spec Try.prog 48 [byt l, int n] [] (fun _ : Unit => []) (fun _ => .tup [.agg (parseR l n).1.abs, int (parseR l n).2]) := by
  have hL : lots = 100000000000 := rfl
  have hof : (Rd.of l).l = l := rfl
  have q1 := (Rd.of l).fixed_length 8
  have q2 := (((Rd.of l).fixed 8)).fixed_length 1
  have q3 := ((((Rd.of l).fixed 8).fixed 1)).fixed_length 8
  have q4 := (((((Rd.of l).fixed 8).fixed 1).fixed 8)).fixed_length 1
  have n1 := (((Rd.of l).fixed 8)).num_lt (n := 1) (k := 1) (Nat.le_refl _)
  have n3 := (((((Rd.of l).fixed 8).fixed 1).fixed 8)).num_lt (n := 1) (k := 1) (Nat.le_refl _)
  rw [hof] at q1
  refine spec_of Try.func48 rfl Try.ntmps48 rfl fun G w => ?_
  refine SC.seq (SC.region ?_)
  refine SL.eff (Eff.alloc tabOk rfl) rfl rfl ?_
  rintro _ _ ⟨b4, rfl, rfl⟩
  refine SL.val (Val.assign rfl) rfl rfl ?_
  refine SL.nil (SE.seq ?_)
  refine SC.seq (SC.region ?_)
  refine SL.val (Val.move rfl) rfl rfl ?_
  refine SL.val (Val.buildS tabOk rfl rfl rfl rfl) rfl rfl ?_
  refine SL.eff (Eff.alloc tabOk rfl) rfl rfl ?_
  rintro _ _ ⟨b6, rfl, rfl⟩
  refine SL.eff (Eff.store tabOk rfl rfl rfl (by repeat first|assumption|exact Upd.here|apply Upd.there) (by rfl) (Nat.le_of_ble_eq_true (by rfl)) (by rfl) (by rfl)) rfl rfl ?_
  rintro _ _ ⟨rfl, rfl⟩
  refine SL.nil (SE.seq ?_)
  refine SC.seq ?_
  refine SC.seq (SC.region ?_)
  first
    | refine SL.val (Val.loadA tabOk rfl rfl rfl (by first|(apply Or.inl;(repeat first|assumption|exact m0|apply m1);done)|(apply Or.inr;(repeat first|assumption|exact m0|apply m1);done)) List.not_mem_nil (by rfl)) rfl rfl ?_
    | refine SL.val (Val.loadP tabOk rfl rfl rfl (by first|(apply Or.inl;(repeat first|assumption|exact m0|apply m1);done)|(apply Or.inr;(repeat first|assumption|exact m0|apply m1);done)) List.not_mem_nil (Nat.le_of_ble_eq_true (by rfl))) rfl rfl ?_
  refine SL.call (vodd_s (n := n)) Casts.refl (by kernel_rfl) rfl rfl rfl ?_
  refine After.pure (by repeat first|exact .nil|refine .blk (by repeat first|assumption|exact m0|apply m1) ?_|refine .rd (by repeat first|assumption|exact m0|apply m1) ?_|refine .pc (by repeat first|assumption|exact m0|apply m1) ?_|refine .rdpc (by repeat first|assumption|exact m0|apply m1) ?_) (fun _ => rfl) ?_
  intro _
  refine SL.nil (SE.seq ?_)
  refine SC.cond rfl ?_ ?_
  · intro hc12
    have h12 := of_decide_eq_true hc12
    refine SC.seq (SC.region ?_)
    refine SL.val (Val.buildS tabOk rfl rfl rfl rfl) rfl rfl ?_
    refine SL.eff (Eff.store tabOk rfl rfl rfl (by repeat first|assumption|exact Upd.here|apply Upd.there) (by rfl) (Nat.le_of_ble_eq_true (by rfl)) (by rfl) (by rfl)) rfl rfl ?_
    rintro _ _ ⟨rfl, rfl⟩
    refine SL.val (Val.assign rfl) rfl rfl ?_
    refine SL.nil (SE.seq ?_)
    refine SC.ret ?_
    refine SE.then_ (by intro h; cases h) ?_
    refine SE.fin (rs := [.cell 4 53, .tmp 5]) rfl (RV.cell rfl (RV.cellA tabOk rfl rfl (by first|(apply Or.inl;(repeat first|assumption|exact m0|apply m1);done)|(apply Or.inr;(repeat first|assumption|exact m0|apply m1);done)) (by rfl)) (RV.tmp rfl RV.nil)) (()) (by repeat first|exact s0 _|exact s1 _|apply s2|apply s3) (by simp [It.rids]) ?_
    first
      | (rw [parseR_out (by omega)]; rfl)
      | (rw [parseR_form (by omega) (by assumption)]; rfl)
      | (rw [parseR_odd (by omega) (by assumption) (Rp.fits_no (fun h => by omega))]; rfl)
      | (rw [parseR_ok (by omega) (by assumption) (Rp.fits_yes (by omega))]; rfl)
  intro hc12
  have h12 := of_decide_eq_false hc12
  refine SC.skip ?_
  refine SE.seq ?_
  refine SC.seq (SC.region ?_)
  refine SL.val (Val.move rfl) rfl rfl ?_
  refine SL.call (read_s (l := l) (by omega)) Casts.refl (by kernel_rfl) rfl rfl rfl ?_
  refine After.make (by repeat first|exact .nil|refine .blk (by repeat first|assumption|exact m0|apply m1) ?_|refine .rd (by repeat first|assumption|exact m0|apply m1) ?_|refine .pc (by repeat first|assumption|exact m0|apply m1) ?_|refine .rdpc (by repeat first|assumption|exact m0|apply m1) ?_) (fun _ => rfl) ?_
  intro p7
  refine SL.val (Val.assign rfl) rfl rfl ?_
  refine SL.nil (SE.seq ?_)
  refine SC.seq (SC.region ?_)
  refine SL.val (Val.move rfl) rfl rfl ?_
  refine SL.call (vnumber_s (z := Rd.of l) (by rw [hof]; omega)) Casts.refl (by kernel_rfl) rfl rfl rfl ?_
  refine After.one rfl (by repeat first|assumption|exact m0|apply m1) (fun _ => rfl) ?_
  intro _
  refine ⟨_, (by repeat first|assumption|exact Upd.here|apply Upd.there), ?_⟩
  refine SL.val (Val.move rfl) rfl rfl ?_
  refine SL.call (vsmall_s (z := ((Rd.of l).fixed 8)) (by omega)) Casts.refl (by kernel_rfl) rfl rfl rfl ?_
  refine After.one rfl (by repeat first|assumption|exact m0|apply m1) (fun _ => rfl) ?_
  intro _
  refine ⟨_, (by repeat first|assumption|exact Upd.here|apply Upd.there), ?_⟩
  refine SL.val (Val.move rfl) rfl rfl ?_
  refine SL.call (vnumber_s (z := (((Rd.of l).fixed 8).fixed 1)) (by omega)) Casts.refl (by kernel_rfl) rfl rfl rfl ?_
  refine After.one rfl (by repeat first|assumption|exact m0|apply m1) (fun _ => rfl) ?_
  intro _
  refine ⟨_, (by repeat first|assumption|exact Upd.here|apply Upd.there), ?_⟩
  refine SL.val (Val.move rfl) rfl rfl ?_
  refine SL.call (vsmall_s (z := ((((Rd.of l).fixed 8).fixed 1).fixed 8)) (by omega)) Casts.refl (by kernel_rfl) rfl rfl rfl ?_
  refine After.one rfl (by repeat first|assumption|exact m0|apply m1) (fun _ => rfl) ?_
  intro _
  refine ⟨_, (by repeat first|assumption|exact Upd.here|apply Upd.there), ?_⟩
  refine SL.val (Val.buildS (L := (Rp.of l).abs) tabOk rfl rfl rfl (by rfl)) rfl rfl ?_
  refine SL.eff (Eff.alloc tabOk rfl) rfl rfl ?_
  rintro _ _ ⟨b8, rfl, rfl⟩
  refine SL.eff (Eff.store (L' := (Rp.of l).abs) tabOk rfl rfl rfl (by repeat first|assumption|exact Upd.here|apply Upd.there) rfl (Nat.le_of_ble_eq_true (by rfl)) rfl (by exact putL_whole rfl)) rfl rfl ?_
  rintro _ _ ⟨rfl, rfl⟩
  refine SL.nil (SE.seq ?_)
  refine SC.seq ?_
  refine SC.block ?_
  refine SC.seq (SC.region ?_)
  refine SL.val (Val.move rfl) rfl rfl ?_
  refine SL.call (end_s (s := Rd.last l)) Casts.refl (by kernel_rfl) rfl rfl rfl ?_
  refine After.one rfl (by repeat first|assumption|exact m0|apply m1) (fun _ => rfl) ?_
  intro _
  refine ⟨_, (by repeat first|assumption|exact Upd.here|apply Upd.there), ?_⟩
  refine SL.val (Val.neI rfl rfl) rfl rfl ?_
  refine SL.val (Val.assign rfl) rfl rfl ?_
  refine SL.nil (SE.seq ?_)
  refine SC.condP rfl ?_ ?_
  · intro hc25
    refine SC.seq (SC.region ?_)
    refine SL.val (Val.buildS tabOk rfl rfl rfl rfl) rfl rfl ?_
    refine SL.eff (Eff.store tabOk rfl rfl rfl (by repeat first|assumption|exact Upd.here|apply Upd.there) (by rfl) (Nat.le_of_ble_eq_true (by rfl)) (by rfl) (by rfl)) rfl rfl ?_
    rintro _ _ ⟨rfl, rfl⟩
    refine SL.val (Val.assign rfl) rfl rfl ?_
    refine SL.nil (SE.seq ?_)
    refine SC.ret ?_
    refine SE.ret ?_
    refine SE.then_ (by intro h; cases h) ?_
    refine SE.fin (rs := [.cell 4 53, .tmp 5]) rfl (RV.cell rfl (RV.cellA tabOk rfl rfl (by first|(apply Or.inl;(repeat first|assumption|exact m0|apply m1);done)|(apply Or.inr;(repeat first|assumption|exact m0|apply m1);done)) (by rfl)) (RV.tmp rfl RV.nil)) (()) (by repeat first|exact s0 _|exact s1 _|apply s2|apply s3) (by simp [It.rids]) ?_
    first
      | (rw [parseR_out (by omega)]; rfl)
      | (rw [parseR_form (by omega) (by assumption)]; rfl)
      | (rw [parseR_odd (by omega) (by assumption) (Rp.fits_no (fun h => by omega))]; rfl)
      | (rw [parseR_ok (by omega) (by assumption) (Rp.fits_yes (by omega))]; rfl)
  intro hc25
  refine SC.seq (SC.region ?_)
  refine SL.val (Val.fieldAddr tabOk rfl rfl rfl rfl rfl) rfl rfl ?_
  refine SL.val (Val.load1 tabOk rfl rfl (by first|(apply Or.inl;(repeat first|assumption|exact m0|apply m1);done)|(apply Or.inr;(repeat first|assumption|exact m0|apply m1);done)) List.not_mem_nil (by rfl)) rfl rfl ?_
  refine SL.call (vview_s (v := (Rp.of l).view)) Casts.refl (by kernel_rfl) rfl rfl rfl ?_
  refine After.pure (by repeat (first | exact Reads.nil | (refine Reads.blk ?_ ?_; focus ((repeat first|assumption|exact m0|apply m1); done)) | (refine Reads.rd ?_ ?_; focus ((repeat first|assumption|exact m0|apply m1); done)) | (refine Reads.pc ?_ ?_; focus ((repeat first|assumption|exact m0|apply m1); done)) | (refine Reads.rdpc ?_ ?_; focus ((repeat first|assumption|exact m0|apply m1); done)))) (fun _ => rfl) ?_
  intro _
  refine SL.val (Val.notB rfl) rfl rfl ?_
  refine SL.val (Val.move rfl) rfl rfl ?_
  refine SL.both (t := 35) rfl ?_ ?_
  · intro hc35
    have h35 := hc35
    simp only [Bool.not_eq_true', decide_eq_false_iff_not] at h35
    iterate 5 refine SL.skip rfl rfl ?_
    refine SL.val (Val.pickT rfl rfl) rfl rfl ?_
    refine SL.val (Val.move rfl) rfl rfl ?_
    iterate 4 refine SL.skip rfl rfl ?_
    refine SL.val (Val.pickT rfl rfl) rfl rfl ?_
    refine SL.val (Val.move rfl) rfl rfl ?_
    iterate 3 refine SL.skip rfl rfl ?_
    refine SL.val (Val.pickT rfl rfl) rfl rfl ?_
    refine SL.val (Val.assign rfl) rfl rfl ?_
    refine SL.nil (SE.seq ?_)
    refine SC.condT rfl ?_
    refine SC.seq (SC.region ?_)
    refine SL.val (Val.buildS tabOk rfl rfl rfl rfl) rfl rfl ?_
    refine SL.eff (Eff.store tabOk rfl rfl rfl (by repeat first|assumption|exact Upd.here|apply Upd.there) (by rfl) (Nat.le_of_ble_eq_true (by rfl)) (by rfl) (by rfl)) rfl rfl ?_
    rintro _ _ ⟨rfl, rfl⟩
    refine SL.val (Val.assign rfl) rfl rfl ?_
    refine SL.nil (SE.seq ?_)
    refine SC.ret ?_
    refine SE.ret ?_
    refine SE.then_ (by intro h; cases h) ?_
    refine SE.fin (rs := [.cell 4 53, .tmp 5]) rfl (RV.cell rfl (RV.cellA tabOk rfl rfl (by first|(apply Or.inl;(repeat first|assumption|exact m0|apply m1);done)|(apply Or.inr;(repeat first|assumption|exact m0|apply m1);done)) (by rfl)) (RV.tmp rfl RV.nil)) (()) (by repeat first|exact s0 _|exact s1 _|apply s2|apply s3) (by simp [It.rids]) ?_
    first
      | (rw [parseR_out (by omega)]; rfl)
      | (rw [parseR_form (by omega) (by assumption)]; rfl)
      | (rw [parseR_odd (by omega) (by assumption) (Rp.fits_no (fun h => by omega))]; rfl)
      | (rw [parseR_ok (by omega) (by assumption) (Rp.fits_yes (by omega))]; rfl)
  intro hc35
  have h35 := hc35
  simp only [Bool.not_eq_false', decide_eq_true_eq] at h35
  first
    | refine SL.val (Val.loadA tabOk rfl rfl rfl (by first|(apply Or.inl;(repeat first|assumption|exact m0|apply m1);done)|(apply Or.inr;(repeat first|assumption|exact m0|apply m1);done)) List.not_mem_nil (by rfl)) rfl rfl ?_
    | refine SL.val (Val.loadP tabOk rfl rfl rfl (by first|(apply Or.inl;(repeat first|assumption|exact m0|apply m1);done)|(apply Or.inr;(repeat first|assumption|exact m0|apply m1);done)) List.not_mem_nil (Nat.le_of_ble_eq_true (by rfl))) rfl rfl ?_
  refine SL.val (Val.fieldAddr tabOk rfl rfl rfl rfl rfl) rfl rfl ?_
  refine SL.val (Val.load1 tabOk rfl rfl (by first|(apply Or.inl;(repeat first|assumption|exact m0|apply m1);done)|(apply Or.inr;(repeat first|assumption|exact m0|apply m1);done)) List.not_mem_nil (by rfl)) rfl rfl ?_
  refine SL.call (vclient_s (n := n) (c := (Rp.of l).client) (by omega)) Casts.refl (by kernel_rfl) rfl rfl rfl ?_
  refine After.pure (by repeat (first | exact Reads.nil | (refine Reads.blk ?_ ?_; focus ((repeat first|assumption|exact m0|apply m1); done)) | (refine Reads.rd ?_ ?_; focus ((repeat first|assumption|exact m0|apply m1); done)) | (refine Reads.pc ?_ ?_; focus ((repeat first|assumption|exact m0|apply m1); done)) | (refine Reads.rdpc ?_ ?_; focus ((repeat first|assumption|exact m0|apply m1); done)))) (fun _ => rfl) ?_
  intro _
  refine SL.val (Val.notB rfl) rfl rfl ?_
  refine SL.val (Val.pickF rfl rfl) rfl rfl ?_
  refine SL.val (Val.move rfl) rfl rfl ?_
  refine SL.both (t := 42) rfl ?_ ?_
  · intro hc42
    have h42 := hc42
    simp only [Bool.not_eq_true', decide_eq_false_iff_not] at h42
    iterate 4 refine SL.skip rfl rfl ?_
    refine SL.val (Val.pickT rfl rfl) rfl rfl ?_
    refine SL.val (Val.move rfl) rfl rfl ?_
    iterate 3 refine SL.skip rfl rfl ?_
    refine SL.val (Val.pickT rfl rfl) rfl rfl ?_
    refine SL.val (Val.assign rfl) rfl rfl ?_
    refine SL.nil (SE.seq ?_)
    refine SC.condT rfl ?_
    refine SC.seq (SC.region ?_)
    refine SL.val (Val.buildS tabOk rfl rfl rfl rfl) rfl rfl ?_
    refine SL.eff (Eff.store tabOk rfl rfl rfl (by repeat first|assumption|exact Upd.here|apply Upd.there) (by rfl) (Nat.le_of_ble_eq_true (by rfl)) (by rfl) (by rfl)) rfl rfl ?_
    rintro _ _ ⟨rfl, rfl⟩
    refine SL.val (Val.assign rfl) rfl rfl ?_
    refine SL.nil (SE.seq ?_)
    refine SC.ret ?_
    refine SE.ret ?_
    refine SE.then_ (by intro h; cases h) ?_
    refine SE.fin (rs := [.cell 4 53, .tmp 5]) rfl (RV.cell rfl (RV.cellA tabOk rfl rfl (by first|(apply Or.inl;(repeat first|assumption|exact m0|apply m1);done)|(apply Or.inr;(repeat first|assumption|exact m0|apply m1);done)) (by rfl)) (RV.tmp rfl RV.nil)) (()) (by repeat first|exact s0 _|exact s1 _|apply s2|apply s3) (by simp [It.rids]) ?_
    first
      | (rw [parseR_out (by omega)]; rfl)
      | (rw [parseR_form (by omega) (by assumption)]; rfl)
      | (rw [parseR_odd (by omega) (by assumption) (Rp.fits_no (fun h => by omega))]; rfl)
      | (rw [parseR_ok (by omega) (by assumption) (Rp.fits_yes (by omega))]; rfl)
  intro hc42
  have h42 := hc42
  simp only [Bool.not_eq_false', decide_eq_true_eq] at h42
  refine SL.val (Val.fieldAddr tabOk rfl rfl rfl rfl rfl) rfl rfl ?_
  refine SL.val (Val.load1 tabOk rfl rfl (by first|(apply Or.inl;(repeat first|assumption|exact m0|apply m1);done)|(apply Or.inr;(repeat first|assumption|exact m0|apply m1);done)) List.not_mem_nil (by rfl)) rfl rfl ?_
  refine SL.call (vstamp_s (v := (Rp.of l).stamp)) Casts.refl (by kernel_rfl) rfl rfl rfl ?_
  refine After.pure (by repeat (first | exact Reads.nil | (refine Reads.blk ?_ ?_; focus ((repeat first|assumption|exact m0|apply m1); done)) | (refine Reads.rd ?_ ?_; focus ((repeat first|assumption|exact m0|apply m1); done)) | (refine Reads.pc ?_ ?_; focus ((repeat first|assumption|exact m0|apply m1); done)) | (refine Reads.rdpc ?_ ?_; focus ((repeat first|assumption|exact m0|apply m1); done)))) (fun _ => rfl) ?_
  intro _
  refine SL.val (Val.notB rfl) rfl rfl ?_
  refine SL.val (Val.pickF rfl rfl) rfl rfl ?_
  refine SL.val (Val.move rfl) rfl rfl ?_
  refine SL.both (t := 48) rfl ?_ ?_
  · intro hc48
    have h48 := hc48
    simp only [Bool.not_eq_true', decide_eq_false_iff_not] at h48
    iterate 3 refine SL.skip rfl rfl ?_
    refine SL.val (Val.pickT rfl rfl) rfl rfl ?_
    refine SL.val (Val.assign rfl) rfl rfl ?_
    refine SL.nil (SE.seq ?_)
    refine SC.condT rfl ?_
    refine SC.seq (SC.region ?_)
    refine SL.val (Val.buildS tabOk rfl rfl rfl rfl) rfl rfl ?_
    refine SL.eff (Eff.store tabOk rfl rfl rfl (by repeat first|assumption|exact Upd.here|apply Upd.there) (by rfl) (Nat.le_of_ble_eq_true (by rfl)) (by rfl) (by rfl)) rfl rfl ?_
    rintro _ _ ⟨rfl, rfl⟩
    refine SL.val (Val.assign rfl) rfl rfl ?_
    refine SL.nil (SE.seq ?_)
    refine SC.ret ?_
    refine SE.ret ?_
    refine SE.then_ (by intro h; cases h) ?_
    refine SE.fin (rs := [.cell 4 53, .tmp 5]) rfl (RV.cell rfl (RV.cellA tabOk rfl rfl (by first|(apply Or.inl;(repeat first|assumption|exact m0|apply m1);done)|(apply Or.inr;(repeat first|assumption|exact m0|apply m1);done)) (by rfl)) (RV.tmp rfl RV.nil)) (()) (by repeat first|exact s0 _|exact s1 _|apply s2|apply s3) (by simp [It.rids]) ?_
    first
      | (rw [parseR_out (by omega)]; rfl)
      | (rw [parseR_form (by omega) (by assumption)]; rfl)
      | (rw [parseR_odd (by omega) (by assumption) (Rp.fits_no (fun h => by omega))]; rfl)
      | (rw [parseR_ok (by omega) (by assumption) (Rp.fits_yes (by omega))]; rfl)
  intro hc48
  have h48 := hc48
  simp only [Bool.not_eq_false', decide_eq_true_eq] at h48
  refine SL.val (Val.fieldAddr tabOk rfl rfl rfl rfl rfl) rfl rfl ?_
  refine SL.val (Val.load1 tabOk rfl rfl (by first|(apply Or.inl;(repeat first|assumption|exact m0|apply m1);done)|(apply Or.inr;(repeat first|assumption|exact m0|apply m1);done)) List.not_mem_nil (by rfl)) rfl rfl ?_
  refine SL.val (Val.gtI rfl rfl) rfl rfl ?_
  refine SL.val (Val.pickF rfl rfl) rfl rfl ?_
  refine SL.val (Val.assign rfl) rfl rfl ?_
  refine SL.nil (SE.seq ?_)
  refine SC.condP rfl ?_ ?_
  · intro hc30
    refine SC.seq (SC.region ?_)
    refine SL.val (Val.buildS tabOk rfl rfl rfl rfl) rfl rfl ?_
    refine SL.eff (Eff.store tabOk rfl rfl rfl (by repeat first|assumption|exact Upd.here|apply Upd.there) (by rfl) (Nat.le_of_ble_eq_true (by rfl)) (by rfl) (by rfl)) rfl rfl ?_
    rintro _ _ ⟨rfl, rfl⟩
    refine SL.val (Val.assign rfl) rfl rfl ?_
    refine SL.nil (SE.seq ?_)
    refine SC.ret ?_
    refine SE.ret ?_
    refine SE.then_ (by intro h; cases h) ?_
    refine SE.fin (rs := [.cell 4 53, .tmp 5]) rfl (RV.cell rfl (RV.cellA tabOk rfl rfl (by first|(apply Or.inl;(repeat first|assumption|exact m0|apply m1);done)|(apply Or.inr;(repeat first|assumption|exact m0|apply m1);done)) (by rfl)) (RV.tmp rfl RV.nil)) (()) (by repeat first|exact s0 _|exact s1 _|apply s2|apply s3) (by simp [It.rids]) ?_
    first
      | (rw [parseR_out (by omega)]; rfl)
      | (rw [parseR_form (by omega) (by assumption)]; rfl)
      | (rw [parseR_odd (by omega) (by assumption) (Rp.fits_no (fun h => by omega))]; rfl)
      | (rw [parseR_ok (by omega) (by assumption) (Rp.fits_yes (by omega))]; rfl)
  intro hc30
  refine SC.skip ?_
  refine SE.inBlock ?_
  refine SE.seq ?_
  refine SC.seq (SC.region ?_)
  first
    | refine SL.val (Val.loadA tabOk rfl rfl rfl (by first|(apply Or.inl;(repeat first|assumption|exact m0|apply m1);done)|(apply Or.inr;(repeat first|assumption|exact m0|apply m1);done)) List.not_mem_nil (by rfl)) rfl rfl ?_
    | refine SL.val (Val.loadP tabOk rfl rfl rfl (by first|(apply Or.inl;(repeat first|assumption|exact m0|apply m1);done)|(apply Or.inr;(repeat first|assumption|exact m0|apply m1);done)) List.not_mem_nil (Nat.le_of_ble_eq_true (by rfl))) rfl rfl ?_
  refine SL.eff (Eff.store tabOk rfl rfl rfl (by repeat first|assumption|exact Upd.here|apply Upd.there) (by rfl) (Nat.le_of_ble_eq_true (by rfl)) (by rfl) (by rfl)) rfl rfl ?_
  rintro _ _ ⟨rfl, rfl⟩
  refine SL.val (Val.assign rfl) rfl rfl ?_
  refine SL.nil (SE.seq ?_)
  refine SC.ret ?_
  refine SE.fin (rs := [.cell 4 53, .tmp 5]) rfl (RV.cell rfl (RV.cellA tabOk rfl rfl (by first|(apply Or.inl;(repeat first|assumption|exact m0|apply m1);done)|(apply Or.inr;(repeat first|assumption|exact m0|apply m1);done)) (by rfl)) (RV.tmp rfl RV.nil)) (()) (by repeat first|exact s0 _|exact s1 _|apply s2|apply s3) (by simp [It.rids]) ?_
  first
    | (rw [parseR_out (by omega)]; rfl)
    | (rw [parseR_form (by omega) (by assumption)]; rfl)
    | (rw [parseR_odd (by omega) (by assumption) (Rp.fits_no (fun h => by omega))]; rfl)
    | (rw [parseR_ok (by omega) (by assumption) (Rp.fits_yes (by omega))]; rfl)
end
end Go.Proofs.Ytmkijjmbiiiicaa.A
/-
  The second engine: calls of methods through interfaces.
-/
set_option maxRecDepth 100000
set_option linter.unusedSimpArgs false
set_option linter.unusedVariables false
namespace Go.Proofs.Ytmkijjmbiiiicaa.A
open Go.RowKit

/-- A call of a method through an interface, in a region that draws. -/
theorem SX.invokeR {P : Program} {n : Nat} {W : Wd} {ops : Array Oper} {l : Slots} {σ : Blks} {X : List Nat} {Q : Exit → Act → World → Prop} {ix : Plan} {f : FuncId} {args args' : List Abs} {σ1 : Blks} {ι : Type} {τ' : ι → Blks} {res : ι → Abs} {xs : List Operand} {ats : Array TypeId} {d : Option Nat} {ty : TypeId} {pos : String} {aft : Array Edge} {g : Option (Nat × Bool)} {i : Nat} {x : Operand} {m : String} {t : TypeId} {y : Abs}
    (hi : ops[i]? = some ⟨d, .call { callee := .invoke x m, args := xs.toArray, argTypes := ats }, ty, pos, aft, g⟩) (hs : Spec P f args' σ1 τ' res) (hX : ∀ k ∈ mids σ1, k ∈ X) (hx : look l x = some (.ifc t y)) (hca : Casts (y :: args) args')
    (hmm : ∀ (u : Value) (ρ : Operand → Value) w, (Go.invoke (.fn (.method m) #[]) (#[.iface t u] ++ (xs.map ρ).toArray)).run P w = .ok (.enter f (#[u] ++ (xs.map ρ).toArray)) w) (hv : looks l xs = some args)
    (hg : gd ops l ⟨d, .call { callee := .invoke x m, args := xs.toArray, argTypes := ats }, ty, pos, aft, g⟩ = some true) (hd : lt? d n = true)
    (k : After σ σ1 τ' fun ν z => SX P ops ix X (St n W ν (put? l d (res z))) Q) : SX P ops (.e i ix) X (St n W σ l) Q := fun a w h => by
  unfold planW wpOp
  simp only [hi, h.wanted hg, if_true]
  refine .inl ?_
  unfold Oper.wp
  obtain ⟨u, h1, h2⟩ := h.eval hx
  rw [run_invoke rfl h1 (hmm u a.eval), Oper.upon_enter]
  have : reps (mids σ ++ W.G) w (y :: args) (u :: xs.map a.eval) := ⟨u, _, rfl, h2, h.evals hv⟩
  rw [show #[u] ++ (xs.map a.eval).toArray = (u :: xs.map a.eval).toArray by simp]
  refine (hs.after h.mem (hca _ _ _ this) k).mono fun e w' ⟨z, r, ν, he, hx, _, hm, hc, hr, hk⟩ => ?_
  subst he
  exact ⟨fun w2 => Ext X w' w2, fun w2 h2 => (hx.mono (fun k hk => .inl (hX k hk))).trans h2 fun k hk => .inl hk, Ext.refl w', hk _ _ ((h.to hm hc).put hd hr)⟩
/-- A call of a method through an interface. -/
theorem SL.invokeR {P : Program} {n : Nat} {W : Wd} {ops : Array Oper} {l : Slots} {σ : Blks} {Q : Exit → Act → World → Prop} {rest : List Oper} {f : FuncId} {args args' : List Abs} {σ1 : Blks} {ι : Type} {τ' : ι → Blks} {res : ι → Abs} {xs : List Operand} {ats : Array TypeId} {d : Option Nat} {ty : TypeId} {pos : String} {aft : Array Edge} {g : Option (Nat × Bool)} {x : Operand} {m : String} {t : TypeId} {y : Abs}
    (hs : Spec P f args' σ1 τ' res) (hx : look l x = some (.ifc t y)) (hca : Casts (y :: args) args')
    (hmm : ∀ (u : Value) (ρ : Operand → Value) w, (Go.invoke (.fn (.method m) #[]) (#[.iface t u] ++ (xs.map ρ).toArray)).run P w = .ok (.enter f (#[u] ++ (xs.map ρ).toArray)) w) (hv : looks l xs = some args)
    (hg : gd ops l ⟨d, .call { callee := .invoke x m, args := xs.toArray, argTypes := ats }, ty, pos, aft, g⟩ = some true) (hd : lt? d n = true)
    (k : After σ σ1 τ' fun ν z => SL P ops rest (St n W ν (put? l d (res z))) Q) : SL P ops (⟨d, .call { callee := .invoke x m, args := xs.toArray, argTypes := ats }, ty, pos, aft, g⟩ :: rest) (St n W σ l) Q := fun a w h =>
  wpList_step fun K hK => by
    rw [if_pos (h.wanted hg)]
    unfold Oper.wp
    obtain ⟨u, h1, h2⟩ := h.eval hx
    rw [run_invoke rfl h1 (hmm u a.eval), Oper.upon_enter]
    have : reps (mids σ ++ W.G) w (y :: args) (u :: xs.map a.eval) := ⟨u, _, rfl, h2, h.evals hv⟩
    rw [show #[u] ++ (xs.map a.eval).toArray = (u :: xs.map a.eval).toArray by simp]
    refine (hs.after h.mem (hca _ _ _ this) k).mono fun e w' ⟨z, r, ν, he, _, _, hm, hc, hr, hk⟩ => ?_
    subst he
    exact hK _ _ (hk _ _ ((h.to hm hc).put hd hr))
/-- A method value, ahead of its call: its receiver is no nil pointer that would be followed. -/
theorem Val.nilMethod {P : Program} {n : Nat} {W : Wd} {σ : Blks} {l : Slots} {X : List Nat} {x : Operand} {d : Option Nat} {ty : TypeId} {pos : String} {aft : Array Edge} {g : Option (Nat × Bool)} {m : String} {t : TypeId} {u : Value}
    (hx : look l x = some (.fn (.method m) [.ifc t (.v u)] [])) (h : ∀ w, (nilAhead (P.types.size + Made.depth) t u m).run P w = .ok (some false) w) : Val P n W σ l X ⟨d, .nilCheck x, ty, pos, aft, g⟩ (.fn (.method m) [.ifc t (.v u)] []) := fun a w hs _ => by
  have hr := hs.eval hx
  obtain ⟨us, vs, h1, ⟨_, _, rfl, ⟨_, rfl, h2⟩, h3⟩, h4⟩ := hr
  have h2 : _ = u := h2
  have h3 : _ = [] := h3
  have h4 : vs = [] := h4
  subst h2 h3 h4
  refine ⟨_, hs.eval hx, fun w' _ => ?_⟩
  simp [execOp, h1, Sem.run_bind, program, Sem.run, h w', Result.andThen]
end Go.Proofs.Ytmkijjmbiiiicaa.A
/-
  The second engine: a book as a piece of memory; its calls, and a change's or a batch's digest by it.
-/
set_option maxRecDepth 100000
set_option linter.unusedSimpArgs false
set_option linter.unusedVariables false
namespace Go.Proofs.Ytmkijjmbiiiicaa.A
open Go.RowKit

abbrev DMap := List ((Nat × List UInt8) × Nat)
abbrev TMap := List (((Int × Int) × List UInt8) × Nat)
section
variable {p bd bt : Nat} {D : DMap} {T : TMap} {k x y : Int} {l : List UInt8}
end
end Go.Proofs.Ytmkijjmbiiiicaa.A
/-
  The second engine: a book's other calls: Tag, Check, Sizes; the law's own check of books.
-/
set_option maxRecDepth 100000
set_option linter.unusedSimpArgs false
set_option linter.unusedVariables false
namespace Go.Proofs.Ytmkijjmbiiiicaa.A
open Go.RowKit

section
variable {from_ to_ : Int} {l M : List UInt8} {p bd bt : Nat} {D : DMap} {T : TMap}
/-! ### The program's calls -/
end
end Go.Proofs.Ytmkijjmbiiiicaa.A
/-
  The second engine: pieces of memory put together to one, and taken apart.
-/
set_option maxRecDepth 100000
set_option linter.unusedSimpArgs false
set_option linter.unusedVariables false
namespace Go.Proofs.Ytmkijjmbiiiicaa.A
open Go.RowKit

/-- Many pieces as one. -/
def bigP (l : List Pc) : Pc where
  ids := l.flatMap Pc.ids
  p := fun K w => ∀ c ∈ l, c.p K w
  carry := fun K w K' w' hc hs h c hm => c.carry K w K' w' hc (fun k hk => hs k (List.mem_flatMap.2 ⟨c, hm, hk⟩)) (h c hm)
  lt := fun K w h k hk => by
    obtain ⟨c, hm, hk⟩ := List.mem_flatMap.1 hk
    exact c.lt K w (h c hm) k hk
section
variable {w0 w : World} {F G : List Nat} {α β xs ys : Blks}
end
section
variable {P : Program} {n : Nat} {W : Wd} {σ τ : Blks} {l : Slots} {X : List Nat} {ops : Array Oper} {rest : List Oper} {Q : Exit → Act → World → Prop} {ix : Plan} {α β xs ys : Blks}
/-- One way to say pieces, and another one. -/
structure Re (xs ys : Blks) : Prop where
  ids : ∃ zs : List Nat, (mids xs).Perm (mids ys ++ zs)
  rd : ∀ y ∈ ys, y.rids = []
  hh : ∀ K w, (∀ x ∈ xs, x.holds K w) → ∀ y ∈ ys, y.holds K w
end
theorem Re.refl {xs : Blks} (h : ∀ x ∈ xs, x.rids = []) : Re xs xs := ⟨⟨[], by simp⟩, h, fun _ _ h => h⟩
theorem Re.trans {xs ys zs : Blks} (h : Re xs ys) (k : Re ys zs) : Re xs zs where
  ids := by
    obtain ⟨a, ha⟩ := h.ids
    obtain ⟨b, hb⟩ := k.ids
    exact ⟨b ++ a, ha.trans ((hb.append_right a).trans (by rw [List.append_assoc]))⟩
  rd := k.rd
  hh := fun K w hx => k.hh K w (h.hh K w hx)
/-- One of many, taken out. -/
theorem Re.out {l1 l2 : List Pc} {c : Pc} : Re [.pc (bigP (l1 ++ c :: l2))] [.pc c, .pc (bigP (l1 ++ l2))] where
  ids := ⟨[], by
    simp only [mids, List.flatMap_cons, List.flatMap_nil, It.mids, bigP, List.flatMap_append, List.append_nil]
    exact List.perm_append_comm_assoc _ _ _⟩
  rd := by simp [It.rids]
  hh := fun K w h y hy => by
    have h1 : ∀ d ∈ l1 ++ c :: l2, d.p K w := h _ (List.mem_singleton.2 rfl)
    simp only [List.mem_cons, List.not_mem_nil, or_false] at hy
    rcases hy with rfl | rfl
    · exact h1 c (by simp)
    · intro d hd
      exact h1 d (by
        rcases List.mem_append.1 hd with hd | hd
        · simp [hd]
        · simp [hd])
/-- Some of many are let go; or they stand in another order. -/
theorem Re.part {l l' : List Pc} (h : ∃ z, l.Perm (l' ++ z)) : Re [.pc (bigP l)] [.pc (bigP l')] where
  ids := by
    obtain ⟨z, hz⟩ := h
    refine ⟨z.flatMap Pc.ids, ?_⟩
    simp only [mids, List.flatMap_cons, List.flatMap_nil, It.mids, bigP, List.append_nil]
    rw [← List.flatMap_append]
    exact hz.flatMap_right _
  rd := by simp [It.rids]
  hh := fun K w h1 y hy => by
    obtain ⟨z, hz⟩ := h
    have h2 : ∀ d ∈ l, d.p K w := h1 _ (List.mem_singleton.2 rfl)
    rw [List.mem_singleton.1 hy]
    exact fun d hd => h2 d (hz.mem_iff.2 (List.mem_append_left _ hd))
end Go.Proofs.Ytmkijjmbiiiicaa.A
/-
  Sums: what the program's rounds come to, as plain functions on words.
-/
set_option maxRecDepth 100000
set_option linter.unusedSimpArgs false
set_option linter.unusedVariables false
namespace Go.Proofs.Ytmkijjmbiiiicaa.A
open Go.RowKit

abbrev bs (l : List UInt8) : List (List Abs) := l.map fun b => [Abs.v (bc b)]
def rot (x : Wo) (n : Nat) : Wo := x >>> n ||| x <<< (32 - n)
def mixW (x : Wo) (a b c : Nat) : Wo := rot x a ^^^ rot x b ^^^ rot x c
def byW (l : List UInt8) (i : Nat) : Wo := BitVec.ofNat 32 (l.getD i 0).toNat
def wordAt (l : List UInt8) (i : Nat) : Wo := byW l (4 * i + 0) <<< 24 ||| byW l (4 * i + 1) <<< 16 ||| byW l (4 * i + 2) <<< 8 ||| byW l (4 * i + 3)
def nextW (l : List Wo) (z : Nat) : Wo := l.getD z 0 + (rot (l.getD (z + 1) 0) 7 ^^^ rot (l.getD (z + 1) 0) 18 ^^^ l.getD (z + 1) 0 >>> 3) + l.getD (z + 9) 0 + (rot (l.getD (z + 14) 0) 17 ^^^ rot (l.getD (z + 14) 0) 19 ^^^ l.getD (z + 14) 0 >>> 10)
def sched0 (l : List UInt8) (k : Nat) : List Wo := (List.range k).map (wordAt l)
def grow (l : List Wo) : Nat → List Wo
  | 0 => l
  | k + 1 => grow l k ++ [nextW (grow l k) k]
def sched (l : List UInt8) : List Wo := grow (sched0 l 16) 48
def roundsL : List Wo := [0x428a2f98#32, 0x71374491#32, 0xb5c0fbcf#32, 0xe9b5dba5#32, 0x3956c25b#32, 0x59f111f1#32, 0x923f82a4#32, 0xab1c5ed5#32, 0xd807aa98#32, 0x12835b01#32, 0x243185be#32, 0x550c7dc3#32, 0x72be5d74#32, 0x80deb1fe#32, 0x9bdc06a7#32, 0xc19bf174#32, 0xe49b69c1#32, 0xefbe4786#32, 0x0fc19dc6#32, 0x240ca1cc#32, 0x2de92c6f#32, 0x4a7484aa#32, 0x5cb0a9dc#32, 0x76f988da#32, 0x983e5152#32, 0xa831c66d#32, 0xb00327c8#32, 0xbf597fc7#32, 0xc6e00bf3#32, 0xd5a79147#32, 0x06ca6351#32, 0x14292967#32, 0x27b70a85#32, 0x2e1b2138#32, 0x4d2c6dfc#32, 0x53380d13#32, 0x650a7354#32, 0x766a0abb#32, 0x81c2c92e#32, 0x92722c85#32, 0xa2bfe8a1#32, 0xa81a664b#32, 0xc24b8b70#32, 0xc76c51a3#32, 0xd192e819#32, 0xd6990624#32, 0xf40e3585#32, 0x106aa070#32, 0x19a4c116#32, 0x1e376c08#32, 0x2748774c#32, 0x34b0bcb5#32, 0x391c0cb3#32, 0x4ed8aa4a#32, 0x5b9cca4f#32, 0x682e6ff3#32, 0x748f82ee#32, 0x78a5636f#32, 0x84c87814#32, 0x8cc70208#32, 0x90befffa#32, 0xa4506ceb#32, 0xbef9a3f7#32, 0xc67178f2#32]
structure R8 where
  (a0 a1 a2 a3 e0 e1 e2 e3 : Wo)
def R8.a (r : R8) : List Wo := [r.a0, r.a1, r.a2, r.a3]
def R8.e (r : R8) : List Wo := [r.e0, r.e1, r.e2, r.e3]
def R8.l (r : R8) : List Wo := [r.a0, r.a1, r.a2, r.a3, r.e0, r.e1, r.e2, r.e3]
def firstR : R8 := ⟨0x6a09e667#32, 0xbb67ae85#32, 0x3c6ef372#32, 0xa54ff53a#32, 0x510e527f#32, 0x9b05688c#32, 0x1f83d9ab#32, 0x5be0cd19#32⟩
def t1W (r : R8) (k w : Wo) : Wo := r.e3 + mixW r.e0 6 11 25 + (r.e2 ^^^ (r.e0 &&& (r.e1 ^^^ r.e2))) + k + w
def t2W (r : R8) : Wo := mixW r.a0 2 13 22 + ((r.a0 &&& r.a1) ^^^ (r.a0 &&& r.a2) ^^^ (r.a1 &&& r.a2))
def rnd (r : R8) (k w : Wo) : R8 := ⟨t1W r k w + t2W r, r.a0, r.a1, r.a2, r.a3 + t1W r k w, r.e0, r.e1, r.e2⟩
def rnds (r : R8) (ws : List Wo) : Nat → R8
  | 0 => r
  | i + 1 => rnd (rnds r ws i) (roundsL.getD i 0) (ws.getD i 0)
def R8.add (r s : R8) : R8 := ⟨r.a0 + s.a0, r.a1 + s.a1, r.a2 + s.a2, r.a3 + s.a3, r.e0 + s.e0, r.e1 + s.e1, r.e2 + s.e2, r.e3 + s.e3⟩
def blockW (r : R8) (l : List UInt8) : R8 := r.add (rnds r (sched l) 64)
/-- So many blocks of a text. -/
def blocks (r : R8) (l : List UInt8) : Nat → R8
  | 0 => r
  | k + 1 => blockW (blocks r l k) (l.drop (64 * k))
def padded (l : List UInt8) (n : Nat) : List UInt8 := l ++ [128] ++ List.replicate ((119 - l.length) % 64) 0 ++ beBytes (n * 8) 8
def byteAt (ws : List Wo) (q : Nat) : UInt8 := UInt8.ofNat (ws.getD (q / 4) 0 >>> (24 - 8 * (q % 4))).toNat
def outN (ws : List Wo) (j : Nat) : List UInt8 := (List.range j).map (byteAt ws) ++ List.replicate (32 - j) 0
/-- The sum of what was taken in so far. -/
def finish (r : R8) (rest : List UInt8) (n : Nat) : List UInt8 := outN (blocks r (padded rest n) ((padded rest n).length / 64)).l 32
/-- A sum that is under way. -/
structure Sm where
  (r : R8) (rest : List UInt8) (n : Nat)
def Sm.new : Sm := ⟨firstR, [], 0⟩
def Sm.add (s : Sm) (l : List UInt8) : Sm := ⟨blocks s.r (s.rest ++ l) ((s.rest ++ l).length / 64), (s.rest ++ l).drop (64 * ((s.rest ++ l).length / 64)), s.n + l.length⟩
def Sm.sum (s : Sm) : List UInt8 := finish s.r s.rest s.n
def Sm.Ok (s : Sm) : Prop := s.rest.length < 64
theorem bs_ones (l : List UInt8) : ∀ c ∈ bs l, ones c = true := by
  intro c hc
  obtain ⟨b, _, rfl⟩ := List.mem_map.1 hc
  rfl
theorem ones_dig (l : List UInt8) : ones (digA l) = true := by
  rw [ones_iff]
  intro a ha
  obtain ⟨p, _, rfl⟩ := List.mem_map.1 ha
  rfl
end Go.Proofs.Ytmkijjmbiiiicaa.A
/-
  Sums: what the document's answer comes to, as plain functions; the same as the program's.
-/
set_option maxRecDepth 100000
set_option linter.unusedSimpArgs false
set_option linter.unusedVariables false
namespace Go.Proofs.Ytmkijjmbiiiicaa.A
open Go.RowKit

section
variable {P : Program} {n : Nat} {W : Wd} {σ τ : Blks} {l : Slots} {X : List Nat} {x y z : Operand} {d : Option Nat} {ty t t' e : TypeId} {pos : String} {aft : Array Edge} {g : Option (Nat × Bool)} {k k' : IntKind} {a b : Int} {p q : Nat} {c : Wo}
end
/-! ### Constants -/
abbrev ws (l : List Wo) : List (List Abs) := l.map fun p => [u32 p]
end Go.Proofs.Ytmkijjmbiiiicaa.A
/-
  The second engine: slices of arrays in blocks; bytes mixed.
-/
set_option maxRecDepth 100000
set_option linter.unusedSimpArgs false
set_option linter.unusedVariables false
namespace Go.Proofs.Ytmkijjmbiiiicaa.A
open Go.RowKit
section
variable {P : Program} {n : Nat} {W : Wd} {σ τ : Blks} {l : Slots} {X : List Nat} {x y z : Operand} {d : Option Nat} {ty t t' e : TypeId} {pos : String} {aft : Array Edge} {g : Option (Nat × Bool)} {A : Abs} {tab : List (Nat × TI)} {ops : Array Oper} {Q : Exit → Act → World → Prop} {k : IntKind}
theorem ofInt8 (c : UInt8) : BitVec.ofInt IntKind.u8.bits ((c.toNat : Nat) : Int) = c.toBitVec := by
  show BitVec.ofInt 8 ((c.toBitVec.toNat : Nat) : Int) = _
  rw [BitVec.ofInt_natCast, BitVec.ofNat_toNat, BitVec.setWidth_eq]
theorem wrap8 (p : BitVec 8) : IntKind.u8.wrap (p.toNat : Nat) = (p.toNat : Nat) := by
  have := p.isLt
  simp only [IntKind.wrap, IntKind.bits, IntKind.signed]
  simp
  omega
theorem Val.or8 {c f : UInt8} (hx : look l x = some (.v (bc c))) (hy : look l y = some (.v (bc f))) : Val P n W σ l X ⟨d, .binOp .or t x y t', ty, pos, aft, g⟩ (.v (bc (c ||| f))) :=
  Val.bitI hx hy (fun w => by
    simp only [Op.intBits, ofInt8]
    exact congrArg (fun r => Result.ok (Value.int .u8 r) w) (wrap8 (c.toBitVec ||| f.toBitVec))) rfl
end
/-! ### Rows of words -/
end Go.Proofs.Ytmkijjmbiiiicaa.A
/-
  The second engine: rows of the call's own, cut; 'clear'.
-/
set_option maxRecDepth 100000
set_option linter.unusedSimpArgs false
set_option linter.unusedVariables false
namespace Go.Proofs.Ytmkijjmbiiiicaa.A
open Go.RowKit

section
variable {P : Program} {n : Nat} {W : Wd} {σ τ : Blks} {l : Slots} {X : List Nat} {x y z : Operand} {d : Option Nat} {ty t e e' : TypeId} {pos : String} {aft : Array Edge} {g : Option (Nat × Bool)} {v u : Value} {k : IntKind} {tab : List (Nat × TI)} {xs ys : List (List Abs)} {s q : Nat} {ops : Array Oper} {rest : List Oper} {Q : Exit → Act → World → Prop}
end
/-- Pieces that are read alone. -/
def RdAll (σ : Blks) : Prop := ∀ x ∈ σ, (∃ b t cs, x = .rd b t cs) ∨ ∃ c, x = .rdpc c
theorem RdAll.reads {σ τ : Blks} (h : RdAll τ) (hs : ∀ x ∈ τ, x ∈ σ) : Reads σ τ := by
  induction τ with
  | nil => exact .nil
  | cons x τ ih =>
    have h1 := ih (fun y hy => h y (List.mem_cons_of_mem _ hy)) (fun y hy => hs y (List.mem_cons_of_mem _ hy))
    have hx := hs x List.mem_cons_self
    rcases h x List.mem_cons_self with ⟨b, t, cs, rfl⟩ | ⟨c, rfl⟩
    · exact .rd hx h1
    · exact .rdpc hx h1
end Go.Proofs.Ytmkijjmbiiiicaa.A
/-
  The second engine: regions that draw and make memory of their own.
-/
set_option maxRecDepth 100000
set_option linter.unusedSimpArgs false
set_option linter.unusedVariables false
namespace Go.Proofs.Ytmkijjmbiiiicaa.A
open Go.RowKit

section
variable {P : Program} {n : Nat} {W : Wd} {σ σ0 : Blks} {l : Slots} {X0 : List Nat} {ops : Array Oper} {Q : Exit → Act → World → Prop} {ix : Plan} {o : Oper}
end
/-- A row made that is at once a row read. -/
theorem Eff.frozen {P : Program} {n : Nat} {W : Wd} {σ : Blks} {l : Slots} {Y : List Nat} {o : Oper} {e : TypeId} {s : Nat} {zs : List (List Abs)} (pre : Blks) {post : Blks} (hE : Eff P n W σ l Y o fun r τ => ∃ u, r = .v u ∧ τ = pre ++ own e s u zs :: post) : Eff P n W σ l Y o fun r τ => r = .sl s zs ∧ τ = pre ++ post := fun a w h => by
  obtain ⟨v, w', y, τ, ⟨u, rfl, rfl⟩, hx, hr, hm, hc, hrun⟩ := hE a w h
  have hv : v = u := hr
  subst hv
  have hs := hm.sub (τ := pre ++ post) (List.Sublist.append (List.Sublist.refl _) (List.sublist_cons_self _ _))
  exact ⟨v, w', _, _, ⟨rfl, rfl⟩, hx, own_sl hm, hs.1, hc.trans hs.2, hrun⟩
/-- A block's cells said otherwise. -/
theorem Re.cast {b : Nat} {t : TypeId} {cs ds : List Abs} (h : Casts cs ds) : Re [.blk b t cs] [.blk b t ds] := ⟨⟨[], by simp [mids, It.mids]⟩, by simp [It.rids], fun K w hx y hy => by
  rw [List.mem_singleton.1 hy]
  obtain ⟨us, h1, h2⟩ := hx (.blk b t cs) (by simp)
  exact ⟨us, h1, h K w us h2⟩⟩
theorem Re.cons {xs ys : Blks} {x : It} (hx : x.rids = []) (h : Re xs ys) : Re (x :: xs) (x :: ys) where
  ids := by
    obtain ⟨a, ha⟩ := h.ids
    refine ⟨a, ?_⟩
    rw [mids_cons, mids_cons, List.append_assoc]
    exact List.Perm.append_left _ ha
  rd := fun y hy => by
    rcases List.mem_cons.1 hy with rfl | hy
    · exact hx
    · exact h.rd y hy
  hh := fun K w hk y hy => by
    rcases List.mem_cons.1 hy with rfl | hy
    · exact hk _ List.mem_cons_self
    · exact h.hh K w (fun z hz => hk z (List.mem_cons_of_mem _ hz)) y hy
theorem Re.perm {xs ys : Blks} (h : xs.Perm ys) (hr : ∀ x ∈ xs, x.rids = []) : Re xs ys := ⟨⟨[], by rw [List.append_nil]; exact mids_perm h⟩, fun y hy => hr y (h.mem_iff.2 hy), fun K w hx y hy => hx y (h.mem_iff.2 hy)⟩
end Go.Proofs.Ytmkijjmbiiiicaa.A
/-
  The document's Ideal.
-/
set_option maxRecDepth 100000
set_option linter.unusedSimpArgs false
set_option linter.unusedVariables false
namespace Go.Proofs.Ytmkijjmbiiiicaa.A
open Go.RowKit

theorem kint_zero : ∀ w, (zeroValue 3).run Try.prog w = .ok (cntV 0) w := fun w => by
  kernel_rfl
/-- A number as a digest, its last z bytes laid. -/
def num6 (f n z : Nat) : List UInt8 := UInt8.ofNat f :: (List.replicate 23 0 ++ (beBytes n 8).take z ++ List.replicate (8 - z) 0)
theorem num6_len {f n z : Nat} (hz : z ≤ 8) : (num6 f n z).length = 32 := by
  simp [num6, beBytes_length]
  omega
theorem num6_lenA {f n z : Nat} (hz : z ≤ 8) : (digA (num6 f n z)).length = 32 := by rw [digA, List.length_map, num6_len hz]
theorem num6_end {f n : Nat} : num6 f n 8 = numB f n := by
  unfold num6 numB
  rw [List.take_of_length_le (by rw [beBytes_length]; exact Nat.le_refl _)]
  simp
theorem num6_put {f n z : Nat} (hz : z < (beBytes n 8).length) : putL (digA (num6 f n z)) (24 + z) [.v (bc (beBytes n 8)[z])] = digA (num6 f n (z + 1)) := by
  have h8 : (beBytes n 8).length = 8 := beBytes_length _ _
  rw [putL_eq _ _ _ (by rw [num6_lenA (by omega)]; omega)]
  have e1 : num6 f n z = (UInt8.ofNat f :: (List.replicate 23 0 ++ (beBytes n 8).take z)) ++ (0 :: List.replicate (8 - (z + 1)) 0) := by
    unfold num6
    rw [show 8 - z = (8 - (z + 1)) + 1 by omega, List.replicate_succ (n := 8 - (z + 1)), ← List.cons_append]
  have e2 : num6 f n (z + 1) = (UInt8.ofNat f :: (List.replicate 23 0 ++ (beBytes n 8).take z)) ++ ((beBytes n 8)[z] :: List.replicate (8 - (z + 1)) 0) := by
    unfold num6
    rw [List.take_succ_eq_append_getElem hz, List.cons_append, List.append_assoc, List.append_assoc, List.append_assoc, List.singleton_append]
  have hl : (UInt8.ofNat f :: (List.replicate 23 0 ++ (beBytes n 8).take z)).length = 24 + z := by
    simp [h8]
    omega
  rw [e1, e2]
  unfold digA
  rw [List.map_append, List.map_append, List.take_append_of_le_length (by rw [List.length_map, hl]; exact Nat.le_refl _), List.take_of_length_le (by rw [List.length_map, hl]; exact Nat.le_refl _), List.drop_append, List.drop_of_length_le (by rw [List.length_map, hl]; simp), List.length_map, hl, List.map_cons, List.map_cons]
  simp
theorem plains_di (d : List UInt8) : plains (digA d) = some (d.map bc) := by
  have h := plains_map bc d
  simpa [digA] using h
theorem dig_ones (d : List UInt8) : ones (digA d) = true := ones_iff.2 fun a ha => by
  obtain ⟨b, _, rfl⟩ := List.mem_map.1 ha
  rfl
section
variable {f n : Nat} {l : List UInt8} {x : UInt8} {a b : Int}
theorem rputO_s {x n : Nat} (hl : l.length + 8 ≤ lots) (hn : sizeB n = true) : Spec Try.prog 54 [byt l, wrd x, int n] [] (fun r : Value => [own 5 1 r (bs (l ++ beBytes x n))]) (fun r => .v r) := Spec.ofOwnB fun K w vals hK hv => by
  obtain ⟨v, us', rfl, h1, h2⟩ := hv
  have := (reps_plain (us := [.int .u64 x, .int .i64 n])).1 h2
  subst this
  exact (rput_own ((enter2 w K).add (z := bytesD v l) (row2 (rep_byt.1 h1))) (by simp) hl hn).mono fun e w' ⟨r, he, hm⟩ => ⟨r, _, he, hm⟩
set_option maxHeartbeats 2000000 in
theorem inum_s (hf : f < 256) (hn : n < 9223372036854775808) : Spec Try.prog 56 [.v (.int .u8 (f : Nat)), int (n : Nat)] [] (fun _ : Unit => []) (fun _ => .agg (digA (numB f n))) := by
  refine spec_of Try.func56 rfl Try.ntmps56 rfl fun G w => ?_
  refine SC.seq (SC.region ?_)
  refine SL.eff (Eff.alloc tabOk rfl) rfl rfl ?_
  rintro _ _ ⟨b4, rfl, rfl⟩
  refine SL.nil (SE.seq ?_)
  refine SC.seq (SC.region ?_)
  refine SL.eff (Eff.alloc tabOk rfl) rfl rfl ?_
  rintro _ _ ⟨b5, rfl, rfl⟩
  refine SL.nil (SE.seq ?_)
  refine SC.seq (SC.region ?_)
  refine SL.val (Val.move rfl) rfl rfl ?_
  refine SL.val (Val.indexArP (q := 0) tabOk Try.underlying93 rfl rfl rfl rfl (by decide) rfl) rfl rfl ?_
  refine SL.eff (Eff.store (L' := digA (num6 f n 0)) tabOk rfl rfl rfl (by repeat first|assumption|exact Upd.here|apply Upd.there) (by rfl) (Nat.le_of_ble_eq_true (by rfl)) (by rfl) (by simp [num6, zabs, putL, digA, beBytes, cellsA, bc]; omega)) rfl rfl ?_
  rintro _ _ ⟨rfl, rfl⟩
  refine SL.nil (SE.seq ?_)
  refine SC.seq ?_
  refine SC.seq (SC.region ?_)
  refine SL.val (Val.move rfl) rfl rfl ?_
  first
    | refine SL.val (Val.convI rfl Try.underlying105 (by kernel_rfl) (by simp only [InR, lo, hi]; omega)) rfl rfl ?_
    | refine SL.val (Val.convU rfl Try.underlying105 (by kernel_rfl)) rfl rfl ?_
  refine SL.call (rput_s (l := []) (x := n) (n := 8) (by decide) rfl) (Casts.nils (s := 1) Casts.refl) (by kernel_rfl) rfl rfl rfl ?_
  refine After.pure (by repeat first|exact .nil|refine .blk (by repeat first|assumption|exact m0|apply m1) ?_|refine .rd (by repeat first|assumption|exact m0|apply m1) ?_|refine .pc (by repeat first|assumption|exact m0|apply m1) ?_|refine .rdpc (by repeat first|assumption|exact m0|apply m1) ?_) (fun _ => rfl) ?_
  intro _
  first
    | refine SL.val (Val.lenSl rfl Try.underlying37 (List.length_map _)) rfl rfl ?_
    | refine SL.val (Val.lenOwn rfl (by repeat first|assumption|exact m0|apply m1) Try.underlying37 (List.length_map _)) rfl rfl ?_
    | refine SL.val (Val.lenNil rfl Try.underlying37) rfl rfl ?_
  refine SL.val (Val.move rfl) rfl rfl ?_
  refine SL.nil (SE.seq ?_)
  refine SC.block ?_
  refine SC.loop (ι := Nat) (fun z => [.blk b5 93 (digA (num6 f n z)), .blk b4 93 (zabs (List.replicate 32 (.int .u8 0)))]) (fun z => [(4, ptr b4), (5, ptr b5), (12, byt (beBytes n 8)), (13, int (8 : Nat)), (14, int (z : Nat))]) (fun z => z ≤ 8) (fun z => 8 - z) (0) (Nat.zero_le _) (by exact ⟨rfl, rfl, rfl, congrArg (fun x : Nat => some (int (x : Nat))) (show ([] ++ beBytes n 8).length = 8 by simp [beBytes_length]), rfl, trivial⟩) (by repeat first|exact s0 _|exact s1 _|apply s2|apply s3) ?_
  intro z hz
  refine SC.seq (SC.region ?_)
  refine SL.val (Val.ltI rfl rfl) rfl rfl ?_
  refine SL.nil (SE.seq ?_)
  refine SC.seq ?_
  refine SC.condP rfl ?_ ?_
  rotate_left
  · intro hc15
    have h8 : ([] ++ beBytes n 8).length = 8 := by simp [beBytes_length]
    have hz8 : z = 8 := by omega
    refine SC.exit ?_
    refine SE.then_ (by intro h; cases h) ?_
    refine SE.then_ (by intro h; cases h) ?_
    refine SE.exit ?_
    refine SE.seq ?_
    refine SC.seq (SC.region ?_)
    refine SL.val (Val.loadA tabOk rfl rfl rfl (by first|(apply Or.inl;(repeat first|assumption|exact m0|apply m1);done)|(apply Or.inr;(repeat first|assumption|exact m0|apply m1);done)) List.not_mem_nil (num6_lenA (by omega))) rfl rfl ?_
    refine SL.eff (Eff.store (L' := digA (num6 f n z)) tabOk rfl rfl rfl (by repeat first|assumption|exact Upd.here|apply Upd.there) (by simp only [cellsA]; rw [num6_lenA (by omega)]) (Nat.le_of_ble_eq_true (by rfl)) (dig_ones _) (by exact putL_whole (by simp only [cellsA]; rw [num6_lenA (by omega)]; rfl))) rfl rfl ?_
    rintro _ _ ⟨rfl, rfl⟩
    refine SL.nil (SE.seq ?_)
    refine SC.ret ?_
    refine SE.fin (rs := [.cell 4 93]) rfl (RV.cell rfl (RV.cellA tabOk rfl rfl (by first|(apply Or.inl;(repeat first|assumption|exact m0|apply m1);done)|(apply Or.inr;(repeat first|assumption|exact m0|apply m1);done)) (num6_lenA (by omega))) RV.nil) () (by repeat first|exact s0 _|exact s1 _|apply s2|apply s3) (by simp [It.rids]) ?_
    show Abs.agg (digA (num6 f n z)) = _
    rw [hz8, num6_end]
  intro hc15
  have h8 : ([] ++ beBytes n 8).length = 8 := by simp [beBytes_length]
  have hlt : z < (beBytes n 8).length := by rw [beBytes_length]; omega
  refine SC.skip ?_
  refine SE.seq ?_
  refine SC.seq ?_
  refine SC.block ?_
  refine SC.seq (SC.region ?_)
  refine SL.val (Val.move rfl) rfl rfl ?_
  refine SL.val (Val.indexSl (q := z) tabOk Try.underlying37 rfl rfl rfl rfl (at_map hlt) rfl rfl) rfl rfl ?_
  refine SL.val (Val.to (C := .v (bc ((beBytes n 8)[z]'hlt))) (Val.load1R tabOk rfl rfl rfl) rfl) rfl rfl ?_
  refine SL.val (Val.assign rfl) rfl rfl ?_
  refine SL.val (Val.assign rfl) rfl rfl ?_
  refine SL.nil (SE.seq ?_)
  refine SC.region ?_
  refine SL.val (Val.move rfl) rfl rfl ?_
  refine SL.val (Val.to (C := int ((24 + z : Nat) : Int)) (Val.addI rfl rfl (by simp only [InR, lo, hi]; omega)) (congrArg int (by omega))) rfl rfl ?_
  refine SL.val (Val.move rfl) rfl rfl ?_
  refine SL.val (Val.indexArP (q := 24 + z) tabOk Try.underlying93 rfl rfl rfl rfl (by omega) rfl) rfl rfl ?_
  refine SL.eff (Eff.store (L' := digA (num6 f n (z + 1))) tabOk rfl rfl rfl (by repeat first|assumption|exact Upd.here|apply Upd.there) rfl (by rw [num6_lenA (by omega)]; show 0 + (24 + z) * 1 + 1 ≤ 32; omega) rfl (by rw [show 0 + (24 + z) * 1 = 24 + z by omega]; exact num6_put hlt)) rfl rfl ?_
  rintro _ _ ⟨rfl, rfl⟩
  refine SL.nil ?_
  refine SE.inBlock ?_
  refine SE.seq ?_
  refine SC.region ?_
  first
    | refine SL.val (Val.addI rfl rfl (by simp only [InR, lo, hi]; omega)) rfl rfl ?_
    | refine SL.val (Val.addW rfl rfl) rfl rfl ?_
  refine SL.val (Val.move rfl) rfl rfl ?_
  refine SL.nil ?_
  refine SE.round (z + 1) (by first | omega | (dsimp only; omega)) (by first | omega | (dsimp only; omega)) (by exact ⟨rfl, rfl, rfl, rfl, rfl, trivial⟩) (by repeat first|exact s0 _|exact s1 _|apply s2|apply s3)
def sKey (a b : Int) (l : List UInt8) : ByteArray := ⟨(beBytes (u64 a) 8 ++ beBytes (u64 b) 8 ++ l).toArray⟩
theorem sKey_len (a b : Int) (l : List UInt8) : (sKey a b l).size = 16 + l.length := by
  simp [sKey, ByteArray.size, beBytes_length]
  omega
theorem sKey_ok {a b : Int} {l : List UInt8} (h : l.length ≤ 1000000) : sOk (sKey a b l) := by
  unfold sOk
  rw [sKey_len]
  unfold maxLen
  omega
theorem said_s (hl : l.length ≤ 1000000) : Spec Try.prog 55 [int a, int b, byt l] [] (fun _ : Unit => []) (fun _ => .v (.string (sKey a b l))) := by
  refine spec_of Try.func55 rfl Try.ntmps55 rfl fun G w => ?_
  refine SC.seq (SC.region ?_)
  refine SL.val (Val.assign rfl) rfl rfl ?_
  refine SL.nil (SE.seq ?_)
  refine SC.seq (SC.region ?_)
  refine SL.val (Val.move rfl) rfl rfl ?_
  first
    | refine SL.val (Val.convI rfl Try.underlying105 (by kernel_rfl) (by simp only [InR, lo, hi]; omega)) rfl rfl ?_
    | refine SL.val (Val.convU rfl Try.underlying105 (by kernel_rfl)) rfl rfl ?_
  refine SL.call (rput_s (l := []) (x := u64 a) (n := 8) (by decide) rfl) (Casts.nils (s := 1) Casts.refl) (by kernel_rfl) rfl rfl rfl ?_
  refine After.pure (by repeat first|exact .nil|refine .blk (by repeat first|assumption|exact m0|apply m1) ?_|refine .rd (by repeat first|assumption|exact m0|apply m1) ?_|refine .pc (by repeat first|assumption|exact m0|apply m1) ?_|refine .rdpc (by repeat first|assumption|exact m0|apply m1) ?_) (fun _ => rfl) ?_
  intro _
  refine SL.val (Val.move rfl) rfl rfl ?_
  first
    | refine SL.val (Val.convI rfl Try.underlying105 (by kernel_rfl) (by simp only [InR, lo, hi]; omega)) rfl rfl ?_
    | refine SL.val (Val.convU rfl Try.underlying105 (by kernel_rfl)) rfl rfl ?_
  refine SL.call (rputO_s (l := [] ++ beBytes (u64 a) 8) (x := u64 b) (n := 8) (by rw [List.nil_append, beBytes_length]; decide) rfl) Casts.refl (by kernel_rfl) rfl rfl rfl ?_
  refine After.make (by repeat first|exact .nil|refine .blk (by repeat first|assumption|exact m0|apply m1) ?_|refine .rd (by repeat first|assumption|exact m0|apply m1) ?_|refine .pc (by repeat first|assumption|exact m0|apply m1) ?_|refine .rdpc (by repeat first|assumption|exact m0|apply m1) ?_) (fun _ => rfl) ?_
  intro r12
  refine SL.val (Val.move rfl) rfl rfl ?_
  refine SL.eff (Eff.append tabOk [] Try.underlying37 rfl rfl rfl rfl rfl rfl (bs_ones _) (by unfold maxLen; simp only [List.length_map, List.nil_append, List.length_append, beBytes_length]; omega) (by rw [show Try.prog.bytesOf 5 = 1 by kernel_rfl]; simp only [List.length_map, List.nil_append, List.length_append, beBytes_length]; omega)) rfl rfl ?_
  rintro _ _ ⟨r14, rfl, rfl⟩
  rw [← List.map_append]
  refine SL.freeze [] (t := 14) rfl rfl ?_
  refine SL.val (Val.strOf rfl) rfl rfl ?_
  refine SL.val (Val.assign rfl) rfl rfl ?_
  refine SL.nil (SE.seq ?_)
  refine SC.ret ?_
  refine SE.fin (rs := [.tmp 6]) rfl (RV.tmp rfl RV.nil) (()) (by repeat first|exact s0 _|exact s1 _|apply s2|apply s3) (by simp [It.rids]) ?_
  exact rfl
end
section
variable {q bd bt : Nat} {D T : List (ByteArray × Nat)} {a b : Int} {l M : List UInt8}
theorem cg_is (c : List (ByteArray × Nat)) (v : ByteArray) : (int ((cget c v : Nat) : Int)).is (((aget c v).map cntV).getD (cntV 0)) := cget_is c v
theorem inew_s  : Spec Try.prog 7 [] [] (fun z : Nat × Nat × Nat => [.blk z.1 68 [mapV z.2.1, mapV z.2.2], .pc (mapPc z.2.1 Value.string cntV sOk []), .pc (mapPc z.2.2 Value.string cntV sOk [])]) (fun z => ptr z.1) := by
  refine spec_of Try.func7 rfl Try.ntmps7 rfl fun G w => ?_
  refine SC.seq (SC.region ?_)
  refine SL.val (Val.assign rfl) rfl rfl ?_
  refine SL.nil (SE.seq ?_)
  refine SC.seq (SC.region ?_)
  refine SL.eff (Eff.makeMap Value.string cntV sOk (fun ac w => by simp [execOp, Instr.makeMap, newObj, Sem.run, Sem.run_bind, Result.andThen])) rfl rfl ?_
  rintro _ _ ⟨m1, rfl, rfl⟩
  refine SL.eff (Eff.makeMap Value.string cntV sOk (fun ac w => by simp [execOp, Instr.makeMap, newObj, Sem.run, Sem.run_bind, Result.andThen])) rfl rfl ?_
  rintro _ _ ⟨m2, rfl, rfl⟩
  refine SL.val (Val.buildS tabOk rfl rfl rfl rfl) rfl rfl ?_
  refine SL.eff (Eff.boxA rfl) rfl rfl ?_
  rintro _ _ ⟨b4, rfl, rfl⟩
  refine SL.val (Val.assign rfl) rfl rfl ?_
  refine SL.nil (SE.seq ?_)
  refine SC.ret ?_
  refine SE.perm (List.Perm.cons _ (List.Perm.swap _ _ _)) ?_
  refine SE.fin (rs := [.tmp 0]) rfl (RV.tmp rfl RV.nil) (b4, m1, m2) (by repeat first|exact s0 _|exact s1 _|apply s2|apply s3) (by simp [It.rids]) ?_
  exact rfl
set_option maxHeartbeats 1000000 in
theorem itag_s (hl : l.length ≤ 1000000) (hn : Num1 T) (hT : T.length < 1000000) : Spec Try.prog 51 [ptr q, int a, int b, byt l] [.blk q 68 [mapV bd, mapV bt], .pc (mapPc bt Value.string cntV sOk T)] (fun _ : Unit => [.blk q 68 [mapV bd, mapV bt], .pc (mapPc bt Value.string cntV sOk (pm T (sKey a b l)))]) (fun _ => .agg (digA (numB 255 (pl T (sKey a b l))))) := by
  have hp := hn.pl_le (sKey a b l)
  refine spec_of Try.func51 rfl Try.ntmps51 rfl fun G w => ?_
  refine SC.seq (SC.region ?_)
  refine SL.eff (Eff.alloc tabOk rfl) rfl rfl ?_
  rintro _ _ ⟨b8, rfl, rfl⟩
  refine SL.nil (SE.seq ?_)
  refine SC.seq (SC.region ?_)
  refine SL.val (Val.move rfl) rfl rfl ?_
  refine SL.val (Val.move rfl) rfl rfl ?_
  refine SL.val (Val.move rfl) rfl rfl ?_
  refine SL.call (said_s (a := a) (b := b) (l := l) hl) Casts.refl (by kernel_rfl) rfl rfl rfl ?_
  refine After.pure (by repeat (first | exact Reads.nil | (refine Reads.blk ?_ ?_; focus ((repeat first|assumption|exact m0|apply m1); done)) | (refine Reads.rd ?_ ?_; focus ((repeat first|assumption|exact m0|apply m1); done)) | (refine Reads.pc ?_ ?_; focus ((repeat first|assumption|exact m0|apply m1); done)) | (refine Reads.rdpc ?_ ?_; focus ((repeat first|assumption|exact m0|apply m1); done)))) (fun _ => rfl) ?_
  intro _
  refine SL.val (Val.assign rfl) rfl rfl ?_
  refine SL.nil (SE.seq ?_)
  refine SC.cutS (ι := Unit) (fun z => [.blk b8 94 (zabs (List.replicate 32 (.int .u8 0))), .blk q 68 [mapV bd, mapV bt], .pc (mapPc bt Value.string cntV sOk (pm T (sKey a b l)))]) (fun z => [(0, ptr q), (8, ptr b8), (9, .v (.string (sKey a b l)))]) (fun z => True) ?_ ?_
  · skip
    refine SC.seq (SC.region ?_)
    refine SL.val (Val.move rfl) rfl rfl ?_
    refine SL.val (Val.nilCheck rfl) rfl rfl ?_
    refine SL.val (Val.fieldAddr tabOk rfl rfl rfl rfl rfl) rfl rfl ?_
    refine SL.val (Val.load1 tabOk rfl rfl (by first|(apply Or.inl;(repeat first|assumption|exact m0|apply m1);done)|(apply Or.inr;(repeat first|assumption|exact m0|apply m1);done)) List.not_mem_nil (by rfl)) rfl rfl ?_
    refine SL.val (Val.move rfl) rfl rfl ?_
    refine SL.val (Val.mapGet (a := sKey a b l) (zv := cntV 0) (C := int ((cget T (sKey a b l) : Nat) : Int)) s_fit Try.underlying66 kint_zero rfl (by first|(apply Or.inl;(repeat first|assumption|exact m0|apply m1);done)|(apply Or.inr;(repeat first|assumption|exact m0|apply m1);done)) List.not_mem_nil rfl is_v (sKey_ok hl) (cg_is _ _)) rfl rfl ?_
    refine SL.val (Val.eqI rfl rfl) rfl rfl ?_
    refine SL.nil (SE.seq ?_)
    refine SC.condP rfl ?_ ?_
    rotate_left
    · intro hc20
      have hz0 : ¬ aget T (sKey a b l) = none := fun h => hc20 (by have := (hn.zero _).2 h; omega)
      refine SC.skip ?_
      refine SE.meet (()) (trivial) (by exact ⟨rfl, rfl, rfl, trivial⟩) (by rw [pm_old hz0]; exact List.Sublist.refl _)
    intro hc20
    have hz0 : aget T (sKey a b l) = none := (hn.zero _).1 (by omega)
    refine SC.drawZ [] (.q 0 (.q 1 (.q 2 (.q 3 (.q 4 (.q 5 (.q 6 (.q 7 (.q 8 (.q 9 (.q 10 .nil))))))))))) (by kernel_rfl) (by kernel_rfl) ?_
    refine SX.val rfl (Val.move rfl) (by simp) rfl rfl ?_
    refine SX.val rfl (Val.nilCheck rfl) (by simp) rfl rfl ?_
    refine SX.val rfl (Val.fieldAddr tabOk rfl rfl rfl rfl rfl) (by simp) rfl rfl ?_
    refine SX.val rfl (Val.load1 tabOk rfl rfl (by first|(apply Or.inl;(repeat first|assumption|exact m0|apply m1);done)|(apply Or.inr;(repeat first|assumption|exact m0|apply m1);done)) List.not_mem_nil (by rfl)) (by simp) rfl rfl ?_
    refine SX.val rfl (Val.move rfl) (by simp) rfl rfl ?_
    refine SX.val rfl (Val.move rfl) (by simp) rfl rfl ?_
    refine SX.val rfl (Val.nilCheck rfl) (by simp) rfl rfl ?_
    refine SX.val rfl (Val.fieldAddr tabOk rfl rfl rfl rfl rfl) (by simp) rfl rfl ?_
    refine SX.val rfl (Val.load1 tabOk rfl rfl (by first|(apply Or.inl;(repeat first|assumption|exact m0|apply m1);done)|(apply Or.inr;(repeat first|assumption|exact m0|apply m1);done)) List.not_mem_nil (by rfl)) (by simp) rfl rfl ?_
    refine SX.val rfl (Val.lenMap Try.underlying66 rfl (by first|(apply Or.inl;(repeat first|assumption|exact m0|apply m1);done)|(apply Or.inr;(repeat first|assumption|exact m0|apply m1);done)) List.not_mem_nil) (by first | (simp [mids, It.mids, ownPc, mapPc]; done) | (intro k hk; simp [mids, It.mids, ownPc, mapPc] at hk ⊢; grind)) rfl rfl ?_
    refine SX.val rfl (Val.to (C := int ((T.length + 1 : Nat) : Int)) (Val.addI rfl rfl (by simp only [InR, lo, hi]; omega)) rfl) (by first | (simp [mids, It.mids, ownPc, mapPc]; done) | (intro k hk; simp [mids, It.mids, ownPc, mapPc] at hk ⊢; grind)) rfl rfl ?_
    refine SX.nil ?_
    refine SE.effZ rfl (Eff.mapPut (a := sKey a b l) (v := T.length + 1) (m' := pm T (sKey a b l)) s_fit Try.underlying66 rfl (by repeat first|assumption|exact Upd.here|apply Upd.there) rfl is_v (sKey_ok hl) rfl is_v (pm_new hz0).symm) rfl rfl ?_
    rintro _ _ ⟨rfl, rfl⟩
    refine SE.meet (()) (trivial) (by exact ⟨rfl, rfl, rfl, trivial⟩) (by repeat first|exact s0 _|exact s1 _|apply s2|apply s3)
  · intro z hz
    refine SC.seq (SC.region ?_)
    refine SL.val (Val.move rfl) rfl rfl ?_
    refine SL.val (Val.nilCheck rfl) rfl rfl ?_
    refine SL.val (Val.fieldAddr tabOk rfl rfl rfl rfl rfl) rfl rfl ?_
    refine SL.val (Val.load1 tabOk rfl rfl (by first|(apply Or.inl;(repeat first|assumption|exact m0|apply m1);done)|(apply Or.inr;(repeat first|assumption|exact m0|apply m1);done)) List.not_mem_nil (by rfl)) rfl rfl ?_
    refine SL.val (Val.move rfl) rfl rfl ?_
    refine SL.val (Val.mapGet (a := sKey a b l) (zv := cntV 0) (C := int ((pl T (sKey a b l) : Nat) : Int)) s_fit Try.underlying66 kint_zero rfl (by first|(apply Or.inl;(repeat first|assumption|exact m0|apply m1);done)|(apply Or.inr;(repeat first|assumption|exact m0|apply m1);done)) List.not_mem_nil rfl is_v (sKey_ok hl) (by rw [← cget_pm]; exact cg_is _ _)) rfl rfl ?_
    refine SL.call (inum_s (f := 255) (n := pl T (sKey a b l)) (by omega) (by omega)) Casts.refl (by kernel_rfl) rfl rfl rfl ?_
    refine After.pure (by repeat (first | exact Reads.nil | (refine Reads.blk ?_ ?_; focus ((repeat first|assumption|exact m0|apply m1); done)) | (refine Reads.rd ?_ ?_; focus ((repeat first|assumption|exact m0|apply m1); done)) | (refine Reads.pc ?_ ?_; focus ((repeat first|assumption|exact m0|apply m1); done)) | (refine Reads.rdpc ?_ ?_; focus ((repeat first|assumption|exact m0|apply m1); done)))) (fun _ => rfl) ?_
    intro _
    refine SL.eff (Eff.store (L' := digA (numB 255 (pl T (sKey a b l)))) tabOk rfl rfl rfl (by repeat first|assumption|exact Upd.here|apply Upd.there) (by simp only [cellsA, digA, List.length_map]; rw [numB_length]) (Nat.le_of_ble_eq_true (by rfl)) (dig_ones _) (by exact putL_whole (by simp only [cellsA, digA, List.length_map]; rw [numB_length]; rfl))) rfl rfl ?_
    rintro _ _ ⟨rfl, rfl⟩
    refine SL.nil (SE.seq ?_)
    refine SC.ret ?_
    refine SE.fin (rs := [.cell 8 94]) rfl (RV.cell rfl (RV.cellA tabOk rfl rfl (by first|(apply Or.inl;(repeat first|assumption|exact m0|apply m1);done)|(apply Or.inr;(repeat first|assumption|exact m0|apply m1);done)) (by simp only [digA, List.length_map]; rw [numB_length])) RV.nil) (()) (by repeat first|exact s0 _|exact s1 _|apply s2|apply s3) (by simp [It.rids]) ?_
    exact rfl
set_option maxHeartbeats 1000000 in
theorem icheck_s (hl : l.length ≤ 1000000) (hn : Num1 T) (hT : T.length < 1000000) (hM : M.length = 32) : Spec Try.prog 38 [ptr q, int a, int b, byt l, .agg (digA M)] [.rd q 68 [mapV bd, mapV bt], .rdpc (mapPc bt Value.string cntV sOk T)] (fun _ : Unit => []) (fun _ => boo ((aget T (sKey a b l)).isSome && decide (M = numB 255 (pl T (sKey a b l))))) := by
  have hp := hn.pl_le (sKey a b l)
  have hcg : cget T (sKey a b l) ≤ 1000000 := by
    unfold cget
    cases h : aget T (sKey a b l) with
    | none => exact Nat.zero_le _
    | some v =>
      have := hn.pos _ v h
      show v ≤ _
      omega
  refine spec_of Try.func38 rfl Try.ntmps38 rfl fun G w => ?_
  refine SC.seq (SC.region ?_)
  refine SL.eff (Eff.boxA (cs := digA M) rfl) rfl rfl ?_
  rintro _ _ ⟨b9, rfl, rfl⟩
  refine SL.val (Val.assign rfl) rfl rfl ?_
  refine SL.nil (SE.seq ?_)
  refine SC.seq ?_
  refine SC.draw [] (.q 0 (.q 1 (.q 2 (.q 3 (.q 4 (.q 5 (.q 6 (.e 7 (.q 8 (.q 9 .nil)))))))))) (by kernel_rfl) (by kernel_rfl) ?_
  refine SX.val rfl (Val.move rfl) (by simp) rfl rfl ?_
  refine SX.val rfl (Val.nilCheck rfl) (by simp) rfl rfl ?_
  refine SX.val rfl (Val.fieldAddr tabOk rfl rfl rfl rfl rfl) (by simp) rfl rfl ?_
  refine SX.val rfl (Val.load1 tabOk rfl rfl (by first|(apply Or.inl;(repeat first|assumption|exact m0|apply m1);done)|(apply Or.inr;(repeat first|assumption|exact m0|apply m1);done)) List.not_mem_nil (by rfl)) (by simp) rfl rfl ?_
  refine SX.val rfl (Val.move rfl) (by simp) rfl rfl ?_
  refine SX.val rfl (Val.move rfl) (by simp) rfl rfl ?_
  refine SX.val rfl (Val.move rfl) (by simp) rfl rfl ?_
  refine SX.call rfl (said_s (a := a) (b := b) (l := l) hl) (by simp [mids, It.mids]) Casts.refl (by kernel_rfl) rfl rfl rfl ?_
  refine After.pure (by repeat (first | exact Reads.nil | (refine Reads.blk ?_ ?_; focus ((repeat first|assumption|exact m0|apply m1); done)) | (refine Reads.rd ?_ ?_; focus ((repeat first|assumption|exact m0|apply m1); done)) | (refine Reads.pc ?_ ?_; focus ((repeat first|assumption|exact m0|apply m1); done)) | (refine Reads.rdpc ?_ ?_; focus ((repeat first|assumption|exact m0|apply m1); done)))) (fun _ => rfl) ?_
  intro _
  refine SX.val rfl (Val.mapGet (a := sKey a b l) (zv := cntV 0) (C := int ((cget T (sKey a b l) : Nat) : Int)) s_fit Try.underlying66 kint_zero rfl (by first|(apply Or.inl;(repeat first|assumption|exact m0|apply m1);done)|(apply Or.inr;(repeat first|assumption|exact m0|apply m1);done)) List.not_mem_nil rfl is_v (sKey_ok hl) (cg_is _ _)) (by first | (simp [mids, It.mids, ownPc, mapPc]; done) | (intro k hk; simp [mids, It.mids, ownPc, mapPc] at hk ⊢; grind)) rfl rfl ?_
  refine SX.val rfl (Val.assign rfl) (by simp) rfl rfl ?_
  refine SX.nil (SE.seq ?_)
  refine SC.seq ?_
  refine SC.draw [] (.q 0 (.q 1 (.q 2 (.q 3 (.q 4 (.e 5 (.q 6 (.q 7 (.q 8 .nil))))))))) (by kernel_rfl) (by kernel_rfl) ?_
  refine SX.val rfl (Val.move rfl) (by simp) rfl rfl ?_
  refine SX.val rfl (Val.gtI rfl rfl) (by simp) rfl rfl ?_
  refine SX.val rfl (Val.move rfl) (by simp) rfl rfl ?_
  refine SX.bothP (t := 23) rfl ?_ ?_
  rotate_left
  · intro hc23
    have hz0 : aget T (sKey a b l) = none := (hn.zero _).1 (by omega)
    iterate 2 refine SX.skip rfl rfl rfl ?_
    refine SX.skip' rfl rfl rfl ?_
    refine SX.skip rfl rfl rfl ?_
    refine SX.val rfl (Val.pickF rfl rfl) (by simp) rfl rfl ?_
    refine SX.val rfl (Val.assign rfl) (by simp) rfl rfl ?_
    refine SX.nil (SE.seq ?_)
    refine SC.ret ?_
    refine SE.fin (rs := [.tmp 10]) rfl (RV.tmp rfl RV.nil) (()) (by repeat first|exact s0 _|exact s1 _|apply s2|apply s3) (by simp [It.rids]) ?_
    first
      | (rw [← hcp, show (aget T (sKey a b l)).isSome = true by cases h : aget T (sKey a b l) with | none => exact absurd h hz0 | some v => rfl, Bool.true_and]; rfl)
      | (rw [hz0]; rfl)
  intro hc23
  have hz0 : ¬ aget T (sKey a b l) = none := fun h => by have := (hn.zero _).2 h; omega
  have hcp : cget T (sKey a b l) = pl T (sKey a b l) := by
    rw [← cget_pm, pm_old hz0]
  refine SX.val rfl (Val.loadA tabOk rfl rfl rfl (by first|(apply Or.inl;(repeat first|assumption|exact m0|apply m1);done)|(apply Or.inr;(repeat first|assumption|exact m0|apply m1);done)) List.not_mem_nil (by simp only [digA, List.length_map]; exact hM)) (by first | (simp [mids, It.mids, ownPc, mapPc]; done) | (intro k hk; simp [mids, It.mids, ownPc, mapPc] at hk ⊢; grind)) rfl rfl ?_
  refine SX.val rfl (Val.move rfl) (by simp) rfl rfl ?_
  refine SX.call rfl (inum_s (f := 255) (n := cget T (sKey a b l)) (by omega) (by omega)) (by simp [mids, It.mids]) Casts.refl (by kernel_rfl) rfl rfl rfl ?_
  refine After.pure (by repeat (first | exact Reads.nil | (refine Reads.blk ?_ ?_; focus ((repeat first|assumption|exact m0|apply m1); done)) | (refine Reads.rd ?_ ?_; focus ((repeat first|assumption|exact m0|apply m1); done)) | (refine Reads.pc ?_ ?_; focus ((repeat first|assumption|exact m0|apply m1); done)) | (refine Reads.rdpc ?_ ?_; focus ((repeat first|assumption|exact m0|apply m1); done)))) (fun _ => rfl) ?_
  intro _
  refine SX.val rfl (Val.eqA rfl rfl (plains_di _) (plains_di _) (by kernel_rfl) (eqlB Try.underlying94 (by kernel_rfl) (by kernel_rfl) _ _ hM (numB_length _ _) _ rfl)) (by first | (simp [mids, It.mids, ownPc, mapPc]; done) | (intro k hk; simp [mids, It.mids, ownPc, mapPc] at hk ⊢; grind)) rfl rfl ?_
  refine SX.val rfl (Val.pickT rfl rfl) (by simp) rfl rfl ?_
  refine SX.val rfl (Val.assign rfl) (by simp) rfl rfl ?_
  refine SX.nil (SE.seq ?_)
  refine SC.ret ?_
  refine SE.fin (rs := [.tmp 10]) rfl (RV.tmp rfl RV.nil) (()) (by repeat first|exact s0 _|exact s1 _|apply s2|apply s3) (by simp [It.rids]) ?_
  first
    | (rw [← hcp, show (aget T (sKey a b l)).isSome = true by cases h : aget T (sKey a b l) with | none => exact absurd h hz0 | some v => rfl, Bool.true_and]; rfl)
    | (rw [hz0]; rfl)
end
end Go.Proofs.Ytmkijjmbiiiicaa.A
/-
  Messages: texts, and all.
-/
set_option maxRecDepth 100000
set_option linter.unusedSimpArgs false
set_option linter.unusedVariables false
namespace Go.Proofs.Ytmkijjmbiiiicaa.A
open Go.RowKit

section
variable {l : List UInt8} {n : Int} {k f place who : Int} {to : List Int} {p bd bt : Nat} {Dm : DMap} {T : TMap}
theorem wrap_u8 (k : Int) : (Value.int .u8 (IntKind.u8.wrap k)) = .int .u8 (k8 k : Nat) := by
  simp [IntKind.wrap, IntKind.bits, IntKind.signed, k8]
  omega
theorem wrap_bc (k : Int) : (Value.int .u8 (IntKind.u8.wrap k)) = bc (UInt8.ofNat (k8 k)) := by
  rw [wrap_u8]
  simp [bc, k8]
  omega
def textV (k : Int) (l : List UInt8) : List UInt8 := UInt8.ofNat (k8 k) :: l
def allN (n : Int) : List Int := if 7 < n then [] else (List.range n.toNat).map fun i => (i : Nat)
theorem clone_s (hl : l.length ≤ 1000000) : Spec Try.prog 45 [byt l] [] (fun _ : Unit => []) (fun _ => byt l) := by
  refine spec_of Try.func45 rfl Try.ntmps45 rfl fun G w => ?_
  refine SC.seq (SC.region ?_)
  refine SL.val (Val.assign rfl) rfl rfl ?_
  refine SL.nil (SE.seq ?_)
  refine SC.seq ?_
  refine SC.seq (SC.region ?_)
  refine SL.val (Val.move rfl) rfl rfl ?_
  refine SL.eqNil Try.underlying37 rfl rfl rfl ?_
  intro b hb
  refine SL.nil (SE.seq ?_)
  refine SC.cond rfl ?_ ?_
  · intro hc4
    have hnil : l = [] := List.map_eq_nil_iff.1 (hb hc4)
    refine SC.seq (SC.region ?_)
    refine SL.val (Val.assign rfl) rfl rfl ?_
    refine SL.nil (SE.seq ?_)
    refine SC.ret ?_
    refine SE.then_ (by intro h; cases h) ?_
    subst hnil
    refine SE.finC (rs := [.tmp 2]) rfl (RV.tmp rfl RV.nil) (Casts.nils (s := 1) Casts.refl) () (by repeat first|exact s0 _|exact s1 _|apply s2|apply s3) (by simp [It.rids]) rfl
  intro hc4
  refine SC.skip ?_
  refine SE.seq ?_
  refine SC.seq (SC.region ?_)
  refine SL.eff (Eff.buildOwn tabOk Try.underlying37 rfl rfl rfl rfl rfl rfl rfl) rfl rfl ?_
  rintro _ _ ⟨r5, rfl, rfl⟩
  refine SL.val (Val.move rfl) rfl rfl ?_
  refine SL.eff (Eff.appendE (zs := bs l) tabOk [] (rfl) Try.underlying37 rfl rfl rfl rfl rfl rfl (bs_ones _) (by unfold maxLen; simp only [bs, List.length_map, List.length_cons, List.length_nil]; omega) (by rw [show Try.prog.bytesOf 5 = 1 by kernel_rfl]; simp only [List.length_map, List.length_cons, List.length_nil]; omega)) rfl rfl ?_
  rintro _ _ ⟨r7, rfl, rfl⟩
  refine SL.val (Val.assign rfl) rfl rfl ?_
  refine SL.nil (SE.seq ?_)
  refine SC.ret ?_
  refine SE.freeze [] (t := 2) rfl rfl ?_
  refine SE.fin (rs := [.tmp 2]) rfl (RV.tmp rfl RV.nil) (()) (by repeat first|exact s0 _|exact s1 _|apply s2|apply s3) (by simp [It.rids]) ?_
  exact rfl
theorem text_s (hl : l.length ≤ 1000000) : Spec Try.prog 46 [int k, byt l] [] (fun _ : Unit => []) (fun _ => byt (textV k l)) := by
  refine spec_of Try.func46 rfl Try.ntmps46 rfl fun G w => ?_
  refine SC.seq (SC.region ?_)
  refine SL.val (Val.assign rfl) rfl rfl ?_
  refine SL.nil (SE.seq ?_)
  refine SC.seq (SC.region ?_)
  refine SL.val (Val.move rfl) rfl rfl ?_
  refine SL.val (Val.to (C := .v (.int .u8 (k8 k : Nat))) (Val.convW rfl Try.underlying5 (by kernel_rfl)) (congrArg Abs.v (wrap_u8 k))) rfl rfl ?_
  refine SL.eff (Eff.buildOwn tabOk Try.underlying37 rfl rfl rfl rfl rfl rfl rfl) rfl rfl ?_
  rintro _ _ ⟨r7, rfl, rfl⟩
  refine SL.val (Val.move rfl) rfl rfl ?_
  refine SL.eff (Eff.appendE (zs := bs (textV k l)) tabOk [] (by
      show [[Abs.v (Value.int .u8 (k8 k : Nat))]] ++ bs l = _
      rw [← wrap_u8, wrap_bc]
      rfl) Try.underlying37 rfl rfl rfl rfl rfl rfl (bs_ones _) (by unfold maxLen; simp only [bs, List.length_map, List.length_cons, List.length_nil]; omega) (by rw [show Try.prog.bytesOf 5 = 1 by kernel_rfl]; simp only [List.length_map, List.length_cons, List.length_nil]; omega)) rfl rfl ?_
  rintro _ _ ⟨r9, rfl, rfl⟩
  refine SL.val (Val.assign rfl) rfl rfl ?_
  refine SL.nil (SE.seq ?_)
  refine SC.ret ?_
  refine SE.freeze [] (t := 4) rfl rfl ?_
  refine SE.fin (rs := [.tmp 4]) rfl (RV.tmp rfl RV.nil) (()) (by repeat first|exact s0 _|exact s1 _|apply s2|apply s3) (by simp [It.rids]) ?_
  exact rfl
theorem ints_all (n : Int) (h : ¬ 7 < n) : (Abs.sl 1 ((List.range n.toNat).map fun i : Nat => [int (i : Nat)])) = ints (allN n) := by
  unfold allN
  rw [if_neg h]
  show _ = Abs.sl 1 (((List.range n.toNat).map fun i : Nat => (i : Int)).map fun x => [int x])
  rw [List.map_map]
  rfl
theorem ints_none (n : Int) (h : 7 < n) : (Abs.sl 1 []) = ints (allN n) := by
  unfold allN
  rw [if_pos h]
  rfl
theorem range_snoc (k : Nat) : (List.range k).map (fun i : Nat => [int (i : Nat)]) ++ [[int (k : Nat)]] = (List.range (k + 1)).map fun i : Nat => [int (i : Nat)] := by
  rw [List.range_succ, List.map_append]
  rfl
set_option maxHeartbeats 2000000 in
theorem all_s  : Spec Try.prog 25 [int n] [] (fun _ : Unit => []) (fun _ => ints (allN n)) := by
  refine spec_of Try.func25 rfl Try.ntmps25 rfl fun G w => ?_
  refine SC.seq (SC.region ?_)
  refine SL.val (Val.assign rfl) rfl rfl ?_
  refine SL.nil (SE.seq ?_)
  refine SC.seq ?_
  refine SC.seq (SC.region ?_)
  refine SL.val (Val.move rfl) rfl rfl ?_
  refine SL.val (Val.gtI rfl rfl) rfl rfl ?_
  refine SL.nil (SE.seq ?_)
  refine SC.condP rfl ?_ ?_
  · intro hc6
    refine SC.seq (SC.region ?_)
    refine SL.val (Val.assign rfl) rfl rfl ?_
    refine SL.nil (SE.seq ?_)
    refine SC.ret ?_
    refine SE.then_ (by intro h; cases h) ?_
    refine SE.finC (rs := [.tmp 2]) rfl (RV.tmp rfl RV.nil) (Casts.nils (s := 1) Casts.refl) () (by repeat first|exact s0 _|exact s1 _|apply s2|apply s3) (by simp [It.rids]) (ints_none n (by omega))
  intro hc6
  refine SC.skip ?_
  refine SE.seq ?_
  refine SC.seq (SC.region ?_)
  refine SL.val (Val.assign rfl) rfl rfl ?_
  refine SL.nil (SE.seq ?_)
  refine SC.seq ?_
  refine SC.seq (SC.region ?_)
  refine SL.val (Val.move rfl) rfl rfl ?_
  refine SL.val (Val.maxI rfl rfl) rfl rfl ?_
  refine SL.val (Val.move rfl) rfl rfl ?_
  refine SL.nil (SE.seq ?_)
  refine SC.block ?_
  refine SC.own0 3 1 ?_
  refine SC.loop (ι := Nat × Value) (fun z => [own 3 1 z.2 ((List.range z.1).map fun i : Nat => [int (i : Nat)])]) (fun z => [(3, .v z.2), (8, int (max n 0)), (9, int (z.1 : Nat))]) (fun z => z.1 ≤ n.toNat) (fun z => n.toNat - z.1) (0, .slice none 0 0) (Nat.zero_le _) (by exact ⟨rfl, rfl, rfl, trivial⟩) (by repeat first|exact s0 _|exact s1 _|apply s2|apply s3) ?_
  intro z hz
  refine SC.seq (SC.region ?_)
  refine SL.val (Val.ltI rfl rfl) rfl rfl ?_
  refine SL.nil (SE.seq ?_)
  refine SC.seq ?_
  refine SC.condP rfl ?_ ?_
  rotate_left
  · intro hc10
    refine SC.exit ?_
    refine SE.then_ (by intro h; cases h) ?_
    refine SE.then_ (by intro h; cases h) ?_
    refine SE.exit ?_
    refine SE.seq ?_
    refine SC.seq (SC.region ?_)
    refine SL.val (Val.move rfl) rfl rfl ?_
    refine SL.val (Val.assign rfl) rfl rfl ?_
    refine SL.nil (SE.seq ?_)
    refine SC.ret ?_
    have hz1 : z.1 = n.toNat := by omega
    refine SE.freeze [] (t := 2) rfl rfl ?_
    rw [hz1]
    refine SE.fin (rs := [.tmp 2]) rfl (RV.tmp rfl RV.nil) (()) (by repeat first|exact s0 _|exact s1 _|apply s2|apply s3) (by simp [It.rids]) ?_
    exact ints_all n (by omega)
  intro hc10
  refine SC.skip ?_
  refine SE.seq ?_
  refine SC.seq ?_
  refine SC.block ?_
  refine SC.seq (SC.region ?_)
  refine SL.val (Val.move rfl) rfl rfl ?_
  refine SL.val (Val.assign rfl) rfl rfl ?_
  refine SL.nil (SE.seq ?_)
  refine SC.region ?_
  refine SL.val (Val.move rfl) rfl rfl ?_
  refine SL.val (Val.move rfl) rfl rfl ?_
  refine SL.eff (Eff.buildSl tabOk Try.underlying77 rfl rfl rfl rfl rfl rfl rfl) rfl rfl ?_
  rintro _ _ ⟨rfl, rfl⟩
  refine SL.eff (Eff.appendE (zs := ((List.range (z.1 + 1)).map fun i : Nat => [int (i : Nat)])) tabOk [] (range_snoc z.1) Try.underlying77 rfl rfl rfl rfl rfl rfl (by intro c hc; rw [List.mem_singleton] at hc; subst hc; rfl) (by unfold maxLen; simp only [List.length_map, List.length_range, List.length_cons, List.length_nil]; omega) (by rw [show Try.prog.bytesOf 3 = 8 by kernel_rfl]; simp only [List.length_map, List.length_range, List.length_cons, List.length_nil]; omega)) rfl rfl ?_
  rintro _ _ ⟨r15, rfl, rfl⟩
  refine SL.val (Val.assign rfl) rfl rfl ?_
  refine SL.nil ?_
  refine SE.inBlock ?_
  refine SE.seq ?_
  refine SC.region ?_
  first
    | refine SL.val (Val.addI rfl rfl (by simp only [InR, lo, hi]; omega)) rfl rfl ?_
    | refine SL.val (Val.addW rfl rfl) rfl rfl ?_
  refine SL.val (Val.move rfl) rfl rfl ?_
  refine SL.nil ?_
  refine SE.round (z.1 + 1, r15) (by first | omega | (dsimp only; omega)) (by dsimp only; omega) (by exact ⟨rfl, rfl, rfl, trivial⟩) (by repeat first|exact s0 _|exact s1 _|apply s2|apply s3)
end
end Go.Proofs.Ytmkijjmbiiiicaa.A
/-
  Messages signed by the document's Ideal, and by a book.
-/
set_option maxRecDepth 100000
set_option linter.unusedSimpArgs false
set_option linter.unusedVariables false
namespace Go.Proofs.Ytmkijjmbiiiicaa.A
open Go.RowKit

theorem take_snocI {l : List Int} {z : Nat} (h : z < l.length) : l.take (z + 1) = l.take z ++ [l[z]] := List.take_succ_eq_append_getElem h
theorem dig32 {l : List UInt8} (h : l.length = 32) : (digA l).length = 32 := by simp only [digA, List.length_map]; exact h
theorem After.at3 {ι : Type} {a b c x1 x2 : It} {β : Blks} {τ' : ι → Blks} {y1 y2 : ι → It} {K : Blks → ι → Prop} (hr : x1.rids = [] ∧ x2.rids = []) (hτ : ∀ z, τ' z = [y1 z, y2 z]) (k : ∀ z, K (a :: b :: c :: y1 z :: y2 z :: β) z) : After (a :: b :: c :: x1 :: x2 :: β) [x1, x2] τ' K :=
  After.mid [a, b, c] (β := β) rfl (by intro x hx; simp only [List.mem_cons, List.not_mem_nil, or_false] at hx; rcases hx with rfl | rfl; exact hr.1; exact hr.2) fun z => by rw [hτ z]; exact k z
/-- The keys of those told. -/
abbrev gI (f : Int) (t : List UInt8) (w : Int) : ByteArray := sKey f w t
section
variable {k f n : Int} {body : List UInt8} {to : List Int} {p bd bt q : Nat} {Dm : DMap} {Tb : TMap} {T : List (ByteArray × Nat)}
set_option maxHeartbeats 4000000 in
theorem signi_s (hb : body.length ≤ 999000) (hn : Num1 T) (hT : T.length ≤ 900000) (hl : to.length ≤ 1000) : Spec Try.prog 24 [.ifc 24 (ptr q), int k, int f, byt body, ints to] [.blk q 68 [mapV bd, mapV bt], .pc (mapPc bt Value.string cntV sOk (T))] (fun _ : Unit => [.blk q 68 [mapV bd, mapV bt], .pc (mapPc bt Value.string cntV sOk (tmG (gI f (textV k body)) T to))]) (fun _ => .agg (Msg.mk k f body (tagsG (gI f (textV k body)) T to)).abs) := by
  refine spec_of Try.func24 rfl Try.ntmps24 rfl fun G w => ?_
  refine SC.seq (SC.region ?_)
  refine SL.eff (Eff.alloc tabOk rfl) rfl rfl ?_
  rintro _ _ ⟨b10, rfl, rfl⟩
  refine SL.nil (SE.seq ?_)
  refine SC.seq (SC.region ?_)
  refine SL.val (Val.move rfl) rfl rfl ?_
  refine SL.val (Val.move rfl) rfl rfl ?_
  refine SL.val (Val.move rfl) rfl rfl ?_
  refine SL.call (clone_s (l := body) (by omega)) Casts.refl (by kernel_rfl) rfl rfl rfl ?_
  refine After.pure (by repeat first|exact .nil|refine .blk (by repeat first|assumption|exact m0|apply m1) ?_|refine .rd (by repeat first|assumption|exact m0|apply m1) ?_|refine .pc (by repeat first|assumption|exact m0|apply m1) ?_|refine .rdpc (by repeat first|assumption|exact m0|apply m1) ?_) (fun _ => rfl) ?_
  intro _
  refine SL.val (Val.buildS tabOk rfl rfl rfl rfl) rfl rfl ?_
  refine SL.eff (Eff.alloc tabOk rfl) rfl rfl ?_
  rintro _ _ ⟨b11, rfl, rfl⟩
  refine SL.eff (Eff.store tabOk rfl rfl rfl (by repeat first|assumption|exact Upd.here|apply Upd.there) (by rfl) (Nat.le_of_ble_eq_true (by rfl)) (by rfl) (by rfl)) rfl rfl ?_
  rintro _ _ ⟨rfl, rfl⟩
  refine SL.nil (SE.seq ?_)
  refine SC.seq ?_
  refine SC.seq (SC.region ?_)
  refine SL.val (Val.move rfl) rfl rfl ?_
  refine SL.val (Val.ifaceNil Try.underlying70 rfl) rfl rfl ?_
  refine SL.nil (SE.seq ?_)
  refine SC.condF rfl ?_
  refine SC.skip ?_
  refine SE.seq ?_
  refine SC.seq (SC.region ?_)
  refine SL.val (Val.move rfl) rfl rfl ?_
  refine SL.val (Val.move rfl) rfl rfl ?_
  refine SL.call (text_s (k := k) (l := body) (by omega)) Casts.refl (by kernel_rfl) rfl rfl rfl ?_
  refine After.pure (by repeat first|exact .nil|refine .blk (by repeat first|assumption|exact m0|apply m1) ?_|refine .rd (by repeat first|assumption|exact m0|apply m1) ?_|refine .pc (by repeat first|assumption|exact m0|apply m1) ?_|refine .rdpc (by repeat first|assumption|exact m0|apply m1) ?_) (fun _ => rfl) ?_
  intro _
  refine SL.val (Val.assign rfl) rfl rfl ?_
  refine SL.nil (SE.seq ?_)
  refine SC.seq ?_
  refine SC.seq (SC.region ?_)
  refine SL.val (Val.move rfl) rfl rfl ?_
  first
    | refine SL.val (Val.lenSl rfl Try.underlying77 (List.length_map _)) rfl rfl ?_
    | refine SL.val (Val.lenOwn rfl (by repeat first|assumption|exact m0|apply m1) Try.underlying77 (List.length_map _)) rfl rfl ?_
    | refine SL.val (Val.lenNil rfl Try.underlying77) rfl rfl ?_
  refine SL.val (Val.move rfl) rfl rfl ?_
  refine SL.nil (SE.seq ?_)
  refine SC.block ?_
  refine SC.own0 94 32 ?_
  refine SC.loop (ι := Nat × Value × Unit) (fun z => [own 94 32 z.2.1 ((tagsG (gI f (textV k body)) T (to.take z.1)).map Tg.abs), .blk b11 40 [int k, int f, byt body, .v z.2.1], .blk b10 40 (zabs [.int .i64 0, .int .i64 0, .slice none 0 0, .slice none 0 0]), .blk q 68 [mapV bd, mapV bt], .pc (mapPc bt Value.string cntV sOk (tmG (gI f (textV k body)) T (to.take z.1)))]) (fun z => [(0, .ifc 24 (ptr q)), (2, int f), (10, ptr b10), (11, ptr b11), (12, byt (textV k body)), (26, ints to), (27, int (to.length : Nat)), (28, int (z.1 : Nat))]) (fun z => z.1 ≤ to.length) (fun z => to.length - z.1) (0, .slice none 0 0, ()) (Nat.zero_le _) (by exact ⟨rfl, rfl, rfl, rfl, rfl, rfl, rfl, rfl, trivial⟩) (by repeat first|exact s0 _|exact s1 _|apply s2|apply s3) ?_
  intro z hz
  refine SC.seq (SC.region ?_)
  refine SL.val (Val.ltI rfl rfl) rfl rfl ?_
  refine SL.nil (SE.seq ?_)
  refine SC.seq ?_
  refine SC.condP rfl ?_ ?_
  rotate_left
  · intro hc29
    refine SC.exit ?_
    refine SE.then_ (by intro h; cases h) ?_
    refine SE.then_ (by intro h; cases h) ?_
    refine SE.exit ?_
    refine SE.seq ?_
    refine SC.seq ?_
    have hz4 : z.1 = to.length := by omega
    refine SC.freezeC [] 3 rfl (by repeat first|assumption|exact Upd.here|apply Upd.there) rfl ?_
    rw [hz4, List.take_of_length_le (Nat.le_refl _)]
    refine SC.region ?_
    first
      | refine SL.val (Val.loadA tabOk rfl rfl rfl (by first|(apply Or.inl;(repeat first|assumption|exact m0|apply m1);done)|(apply Or.inr;(repeat first|assumption|exact m0|apply m1);done)) List.not_mem_nil (by rfl)) rfl rfl ?_
      | refine SL.val (Val.loadP tabOk rfl rfl rfl (by first|(apply Or.inl;(repeat first|assumption|exact m0|apply m1);done)|(apply Or.inr;(repeat first|assumption|exact m0|apply m1);done)) List.not_mem_nil (Nat.le_of_ble_eq_true (by rfl))) rfl rfl ?_
    refine SL.eff (Eff.store tabOk rfl rfl rfl (by repeat first|assumption|exact Upd.here|apply Upd.there) (by rfl) (Nat.le_of_ble_eq_true (by rfl)) (by rfl) (by rfl)) rfl rfl ?_
    rintro _ _ ⟨rfl, rfl⟩
    refine SL.nil (SE.seq ?_)
    refine SC.ret ?_
    refine SE.fin (rs := [.cell 10 40]) rfl (RV.cell rfl (RV.cellA tabOk rfl rfl (by first|(apply Or.inl;(repeat first|assumption|exact m0|apply m1);done)|(apply Or.inr;(repeat first|assumption|exact m0|apply m1);done)) (by rfl)) RV.nil) (()) (by repeat first|exact s0 _|exact s1 _|apply s2|apply s3) (by simp [It.rids]) ?_
    exact rfl
  intro hc29
  have hlt : z.1 < to.length := by omega
  have hT2 := tmG_len (gI f (textV k body)) T (to.take z.1)
  have hTn := tmG_num hn (gI f (textV k body)) (to.take z.1)
  have hTp := hTn.pl_le (gI f (textV k body) (to[z.1]'hlt))
  have hlen9 : (to.take z.1).length = z.1 := by rw [List.length_take]; omega
  refine SC.skip ?_
  refine SE.seq ?_
  refine SC.seq ?_
  refine SC.block ?_
  refine SC.seq (SC.region ?_)
  refine SL.val (Val.indexSl tabOk Try.underlying77 rfl rfl rfl rfl (at_map (by omega)) rfl rfl) rfl rfl ?_
  refine SL.val (Val.to (C := int (to[z.1]'hlt)) (Val.load1R tabOk rfl rfl rfl) rfl) rfl rfl ?_
  refine SL.val (Val.assign rfl) rfl rfl ?_
  refine SL.nil (SE.seq ?_)
  refine SC.draw (z.2.1.ownBlock.toList ++ [b11, q, bt]) (.q 0 (.q 2 (.q 3 (.q 4 (.q 5 (.two 1 6 (.e 6 (.e 7 (.e 8 (.q 9 (.e 10 .nil))))) (.two 1 7 (.e 7 (.e 8 (.q 9 (.e 10 .nil)))) (.e 1 (.e 8 (.q 9 (.e 10 .nil))))))))))) (by kernel_rfl) (by kernel_rfl) ?_
  refine SX.val rfl (Val.fieldAddr tabOk rfl rfl rfl rfl rfl) (by first | (simp [mids, It.mids, ownPc, mapPc]; done) | (intro k hk; simp [mids, It.mids, ownPc, mapPc] at hk ⊢; grind)) rfl rfl ?_
  refine SX.val rfl (Val.move rfl) (by first | (simp [mids, It.mids, ownPc, mapPc]; done) | (intro k hk; simp [mids, It.mids, ownPc, mapPc] at hk ⊢; grind)) rfl rfl ?_
  refine SX.val rfl (Val.move rfl) (by first | (simp [mids, It.mids, ownPc, mapPc]; done) | (intro k hk; simp [mids, It.mids, ownPc, mapPc] at hk ⊢; grind)) rfl rfl ?_
  refine SX.val rfl (Val.move rfl) (by first | (simp [mids, It.mids, ownPc, mapPc]; done) | (intro k hk; simp [mids, It.mids, ownPc, mapPc] at hk ⊢; grind)) rfl rfl ?_
  refine SX.val rfl (Val.move rfl) (by first | (simp [mids, It.mids, ownPc, mapPc]; done) | (intro k hk; simp [mids, It.mids, ownPc, mapPc] at hk ⊢; grind)) rfl rfl ?_
  refine SX.two ?_ ?_
  · skip
    refine SX.valE rfl (Val.load1 tabOk rfl rfl (by first|(apply Or.inl;(repeat first|assumption|exact m0|apply m1);done)|(apply Or.inr;(repeat first|assumption|exact m0|apply m1);done)) List.not_mem_nil (by rfl)) rfl rfl ?_
    refine SX.invokeR rfl (itag_s (q := q) (bd := bd) (bt := bt) (T := (tmG (gI f (textV k body)) T (to.take z.1))) (a := f) (b := to[z.1]) (l := (textV k body)) (by simp [textV]; omega) hTn (by omega)) (by simp [mids, It.mids, mapPc]) rfl Casts.refl (fun _ _ _ => by kernel_rfl) rfl rfl rfl ?_
    refine After.at3 ⟨rfl, rfl⟩ (fun _ => rfl) ?_
    intro _
    refine SX.eff rfl (Eff.buildSl tabOk Try.underlying38 rfl rfl rfl (elems_one (dig32 (numB_length _ _))) rfl rfl rfl) (by simp) rfl rfl ?_
    rintro _ _ ⟨rfl, rfl⟩
    refine SX.effX [b11] rfl (Eff.appendE (zs := (tagsG (gI f (textV k body)) T (to.take (z.1 + 1))).map Tg.abs) tabOk [] (by rw [take_snocI hlt]; exact tagsG_snoc _ _ _ _) Try.underlying38 rfl rfl rfl rfl rfl rfl (by intro c hc; rw [List.mem_singleton] at hc; subst hc; exact ones_dig _) (by unfold maxLen; simp only [tagsG, List.length_map, List.length_take, List.length_cons, List.length_nil]; omega) (by rw [show Try.prog.bytesOf 94 = 32 by kernel_rfl]; simp only [tagsG, List.length_map, List.length_take, List.length_cons, List.length_nil]; omega)) (fun k hk => List.mem_append_left _ hk) (by simp) rfl rfl ?_
    rintro _ _ ⟨r40, rfl, rfl⟩
    refine SX.val rfl (Val.fieldAddr tabOk rfl rfl rfl rfl rfl) (by first | (simp [mids, It.mids, ownPc, mapPc]; done) | (intro k hk; simp [mids, It.mids, ownPc, mapPc] at hk ⊢; grind)) rfl rfl ?_
    first
      | refine SX.eff rfl (Eff.store tabOk rfl rfl rfl (by repeat first|assumption|exact Upd.here|apply Upd.there) (by rfl) (Nat.le_of_ble_eq_true (by rfl)) (by rfl) (by rfl)) (by simp) rfl rfl ?_
      | refine SX.eff rfl (Eff.storeOwn tabOk rfl rfl rfl rfl (by repeat first|assumption|exact m0|apply m1) (by repeat first|assumption|exact Upd.here|apply Upd.there) rfl (by rfl)) (by simp) rfl rfl ?_
    rintro _ _ ⟨rfl, rfl⟩
    refine SX.nil ?_
    refine SE.inBlock ?_
    refine SE.seq ?_
    refine SC.region ?_
    first
      | refine SL.val (Val.addI rfl rfl (by simp only [InR, lo, hi]; omega)) rfl rfl ?_
      | refine SL.val (Val.addW rfl rfl) rfl rfl ?_
    refine SL.val (Val.move rfl) rfl rfl ?_
    refine SL.nil ?_
    refine SE.round (z.1 + 1, r40, ()) (by first | omega | (dsimp only; omega)) (by dsimp only; omega) (by exact ⟨rfl, rfl, rfl, rfl, rfl, rfl, rfl, rfl, trivial⟩) (by rw [take_snocI hlt, tmG_snoc]; exact List.Sublist.refl _)
  · skip
    refine SX.invokeR rfl (itag_s (q := q) (bd := bd) (bt := bt) (T := (tmG (gI f (textV k body)) T (to.take z.1))) (a := f) (b := to[z.1]) (l := (textV k body)) (by simp [textV]; omega) hTn (by omega)) (by simp [mids, It.mids, mapPc]) rfl Casts.refl (fun _ _ _ => by kernel_rfl) rfl rfl rfl ?_
    refine After.at3 ⟨rfl, rfl⟩ (fun _ => rfl) ?_
    intro _
    refine SX.two ?_ ?_
    · skip
      refine SX.valE rfl (Val.load1 tabOk rfl rfl (by first|(apply Or.inl;(repeat first|assumption|exact m0|apply m1);done)|(apply Or.inr;(repeat first|assumption|exact m0|apply m1);done)) List.not_mem_nil (by rfl)) rfl rfl ?_
      refine SX.eff rfl (Eff.buildSl tabOk Try.underlying38 rfl rfl rfl (elems_one (dig32 (numB_length _ _))) rfl rfl rfl) (by simp) rfl rfl ?_
      rintro _ _ ⟨rfl, rfl⟩
      refine SX.effX [b11] rfl (Eff.appendE (zs := (tagsG (gI f (textV k body)) T (to.take (z.1 + 1))).map Tg.abs) tabOk [] (by rw [take_snocI hlt]; exact tagsG_snoc _ _ _ _) Try.underlying38 rfl rfl rfl rfl rfl rfl (by intro c hc; rw [List.mem_singleton] at hc; subst hc; exact ones_dig _) (by unfold maxLen; simp only [tagsG, List.length_map, List.length_take, List.length_cons, List.length_nil]; omega) (by rw [show Try.prog.bytesOf 94 = 32 by kernel_rfl]; simp only [tagsG, List.length_map, List.length_take, List.length_cons, List.length_nil]; omega)) (fun k hk => List.mem_append_left _ hk) (by simp) rfl rfl ?_
      rintro _ _ ⟨r40, rfl, rfl⟩
      refine SX.val rfl (Val.fieldAddr tabOk rfl rfl rfl rfl rfl) (by first | (simp [mids, It.mids, ownPc, mapPc]; done) | (intro k hk; simp [mids, It.mids, ownPc, mapPc] at hk ⊢; grind)) rfl rfl ?_
      first
        | refine SX.eff rfl (Eff.store tabOk rfl rfl rfl (by repeat first|assumption|exact Upd.here|apply Upd.there) (by rfl) (Nat.le_of_ble_eq_true (by rfl)) (by rfl) (by rfl)) (by simp) rfl rfl ?_
        | refine SX.eff rfl (Eff.storeOwn tabOk rfl rfl rfl rfl (by repeat first|assumption|exact m0|apply m1) (by repeat first|assumption|exact Upd.here|apply Upd.there) rfl (by rfl)) (by simp) rfl rfl ?_
      rintro _ _ ⟨rfl, rfl⟩
      refine SX.nil ?_
      refine SE.inBlock ?_
      refine SE.seq ?_
      refine SC.region ?_
      first
        | refine SL.val (Val.addI rfl rfl (by simp only [InR, lo, hi]; omega)) rfl rfl ?_
        | refine SL.val (Val.addW rfl rfl) rfl rfl ?_
      refine SL.val (Val.move rfl) rfl rfl ?_
      refine SL.nil ?_
      refine SE.round (z.1 + 1, r40, ()) (by first | omega | (dsimp only; omega)) (by dsimp only; omega) (by exact ⟨rfl, rfl, rfl, rfl, rfl, rfl, rfl, rfl, trivial⟩) (by rw [take_snocI hlt, tmG_snoc]; exact List.Sublist.refl _)
    · skip
      refine SX.eff rfl (Eff.buildSl tabOk Try.underlying38 rfl rfl rfl (elems_one (dig32 (numB_length _ _))) rfl rfl rfl) (by simp) rfl rfl ?_
      rintro _ _ ⟨rfl, rfl⟩
      refine SX.valE rfl (Val.load1 tabOk rfl rfl (by first|(apply Or.inl;(repeat first|assumption|exact m0|apply m1);done)|(apply Or.inr;(repeat first|assumption|exact m0|apply m1);done)) List.not_mem_nil (by rfl)) rfl rfl ?_
      refine SX.effX [b11] rfl (Eff.appendE (zs := (tagsG (gI f (textV k body)) T (to.take (z.1 + 1))).map Tg.abs) tabOk [] (by rw [take_snocI hlt]; exact tagsG_snoc _ _ _ _) Try.underlying38 rfl rfl rfl rfl rfl rfl (by intro c hc; rw [List.mem_singleton] at hc; subst hc; exact ones_dig _) (by unfold maxLen; simp only [tagsG, List.length_map, List.length_take, List.length_cons, List.length_nil]; omega) (by rw [show Try.prog.bytesOf 94 = 32 by kernel_rfl]; simp only [tagsG, List.length_map, List.length_take, List.length_cons, List.length_nil]; omega)) (fun k hk => List.mem_append_left _ hk) (by simp) rfl rfl ?_
      rintro _ _ ⟨r40, rfl, rfl⟩
      refine SX.val rfl (Val.fieldAddr tabOk rfl rfl rfl rfl rfl) (by first | (simp [mids, It.mids, ownPc, mapPc]; done) | (intro k hk; simp [mids, It.mids, ownPc, mapPc] at hk ⊢; grind)) rfl rfl ?_
      first
        | refine SX.eff rfl (Eff.store tabOk rfl rfl rfl (by repeat first|assumption|exact Upd.here|apply Upd.there) (by rfl) (Nat.le_of_ble_eq_true (by rfl)) (by rfl) (by rfl)) (by simp) rfl rfl ?_
        | refine SX.eff rfl (Eff.storeOwn tabOk rfl rfl rfl rfl (by repeat first|assumption|exact m0|apply m1) (by repeat first|assumption|exact Upd.here|apply Upd.there) rfl (by rfl)) (by simp) rfl rfl ?_
      rintro _ _ ⟨rfl, rfl⟩
      refine SX.nil ?_
      refine SE.inBlock ?_
      refine SE.seq ?_
      refine SC.region ?_
      first
        | refine SL.val (Val.addI rfl rfl (by simp only [InR, lo, hi]; omega)) rfl rfl ?_
        | refine SL.val (Val.addW rfl rfl) rfl rfl ?_
      refine SL.val (Val.move rfl) rfl rfl ?_
      refine SL.nil ?_
      refine SE.round (z.1 + 1, r40, ()) (by first | omega | (dsimp only; omega)) (by dsimp only; omega) (by exact ⟨rfl, rfl, rfl, rfl, rfl, rfl, rfl, rfl, trivial⟩) (by rw [take_snocI hlt, tmG_snoc]; exact List.Sublist.refl _)
end
end Go.Proofs.Ytmkijjmbiiiicaa.A
