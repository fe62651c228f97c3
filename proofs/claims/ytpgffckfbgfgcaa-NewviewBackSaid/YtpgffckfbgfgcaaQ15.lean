/-
  Packed out of the texts: N2, N3.
-/
import Derived.Test.YtpgffckfbgfgcaaQ14
/-
  New views out of bytes, over the second engine.
-/
set_option maxRecDepth 100000
set_option linter.unusedSimpArgs false
set_option linter.unusedVariables false
namespace Go.Proofs.Ytpgffckfbgfgcaa.A
open Go.RowKit

theorem parseC_sized {l : List UInt8} {n : Int} (hl : l.length ≤ 10000000) : (parseC l n).1.Sized := by
  have hz : Chg.zero.Sized := ⟨by simp [Chg.zero], by simp [Chg.zero, Long], by simp [Chg.zero, Long]⟩
  unfold parseC
  split
  · exact hz
  · split
    · exact hz
    · clear hz
      have hof : (Rd.of l).l = l := rfl
      have q1 := (Rd.of l).fixed_length 8
      have q2 := ((Rd.of l).fixed 8).fixed_length 8
      have q3 := Rd.count_length (Rd.chgHead l) 4
      have q4 := Rd.countN_lt (Rd.chgHead l) 4
      unfold Rd.chgHead at q3
      rw [hof] at q1
      have w1 := pnts_left ((Rd.chgHead l).countN 4) ((Rd.chgHead l).count 4) []
      have w2 : (Rd.chgPts l).2.l.length ≤ l.length := by unfold Rd.chgPts; unfold Rd.chgHead at w1 ⊢; omega
      have w3 := prfs_left n l.length ((Rd.chgPts l).2.countN 8) ((Rd.chgPts l).2.count 8) [] false
      have w4 := Rd.count_length (Rd.chgPts l).2 8
      have w5 : (Rd.chgPre l n).2.2.l.length ≤ l.length := by unfold Rd.chgPre; omega
      have w6 := prfs_left n l.length ((Rd.chgPre l n).2.2.countN 64) ((Rd.chgPre l n).2.2.count 64) [] false
      have w7 := Rd.countN_lt (Rd.chgPts l).2 8
      have w8 := Rd.countN_lt (Rd.chgPre l n).2.2 64
      have w9 := Rd.count_length (Rd.chgPre l n).2.2 64
      refine ⟨by show (Rd.chgPts l).1.length < _; unfold Rd.chgPts; rw [w1.1, List.length_nil]; omega, ⟨by show (Rd.chgPre l n).1.length < _; unfold Rd.chgPre; rw [w3.1, List.length_nil]; omega, ?_⟩, ⟨by show (Rd.chgPro l n).1.length < _; unfold Rd.chgPro; rw [w6.1, List.length_nil]; omega, ?_⟩⟩
      · exact prfs_all (fun p => p.batch.length ≤ 1000000) (B := 10000000) (fun a b l h => parseS_few) _ _ _ _ (by omega) (by simp)
      · exact prfs_all (fun p => p.batch.length ≤ 1000000) (B := 10000000) (fun a b l h => parseS_few) _ _ _ _ (by omega) (by simp)
theorem rparseC_fit {l : List UInt8} {n : Int} (hl : l.length ≤ 100000) : (rparseC l n).1.Fit := by
  have h := rparseC_read (l := l) (n := n) (by omega)
  have hz : Lets Chg.zero.prepared ∧ Lets Chg.zero.proposed := ⟨by simp [Chg.zero, Lets], by simp [Chg.zero, Lets]⟩
  have hlets : Lets (rparseC l n).1.prepared ∧ Lets (rparseC l n).1.proposed := by
    unfold rparseC
    split
    · exact hz
    · split
      · exact hz
      · have hof : (Rd.of l).l = l := rfl
        have q1 := (Rd.of l).fixed_length 8
        have q2 := ((Rd.of l).fixed 8).fixed_length 8
        have q3 := Rd.count_length (Rd.chgHead l) 4
        unfold Rd.chgHead at q3
        rw [hof] at q1
        have w1 := rpnts_left ((Rd.chgHead l).countN 4) ((Rd.chgHead l).count 4) []
        have w2 : (Rd.rchgPts l).2.l.length ≤ l.length := by unfold Rd.rchgPts; unfold Rd.chgHead at w1 ⊢; omega
        have w3 := rprfs_left ((Rd.rchgPts l).2.countN 8) ((Rd.rchgPts l).2.count 8) [] true
        have w4 := Rd.count_length (Rd.rchgPts l).2 8
        have w5 : (Rd.rchgPre l).2.2.l.length ≤ l.length := by unfold Rd.rchgPre; omega
        have w9 := Rd.count_length (Rd.rchgPre l).2.2 64
        exact ⟨rprfs_all (fun p => ∀ e ∈ p.batch, e.core.letter.size ≤ lots) (B := 100000) (fun a b l h => ens_lets (by omega)) _ _ _ _ (by omega) (by simp), rprfs_all (fun p => ∀ e ∈ p.batch, e.core.letter.size ≤ lots) (B := 100000) (fun a b l h => ens_lets (by omega)) _ _ _ _ (by omega) (by simp)⟩
  exact ⟨⟨h.pts, h.prep, h.prop⟩, hlets.1, hlets.2⟩
section
variable {l : List UInt8} {n : Int}
set_option maxHeartbeats 4000000 in
theorem vparse_s (hl : l.length ≤ 10000000) : Spec Try.prog 31 [byt l, int n] [] (fun _ : Unit => []) (fun _ => .tup [int (parseV l n).1, sgnsA (parseV l n).2.1, int (parseV l n).2.2]) := by
  have hL : lots = 100000000000 := rfl
  have hof : (Rd.of l).l = l := rfl
  have q1 := (Rd.of l).fixed_length 8
  have q3 := Rd.count_length (Rd.vHead l) 7
  have q4 := Rd.countN_lt (Rd.vHead l) 7
  unfold Rd.vHead at q3
  rw [hof] at q1
  refine spec_of Try.func31 rfl Try.ntmps31 rfl fun G w => ?_
  refine SC.seq (SC.region ?_)
  refine SL.val (Val.assign rfl) rfl rfl ?_
  refine SL.val (Val.assign rfl) rfl rfl ?_
  refine SL.val (Val.assign rfl) rfl rfl ?_
  refine SL.nil (SE.seq ?_)
  refine SC.seq ?_
  refine SC.seq (SC.region ?_)
  refine SL.val (Val.move rfl) rfl rfl ?_
  refine SL.val (Val.ltI rfl rfl) rfl rfl ?_
  refine SL.val (Val.move rfl) rfl rfl ?_
  refine SL.bothP (t := 15) rfl ?_ ?_
  · intro hc15
    iterate 2 refine SL.skip rfl rfl ?_
    refine SL.val (Val.pickT rfl rfl) rfl rfl ?_
    refine SL.nil (SE.seq ?_)
    refine SC.condT rfl ?_
    refine SC.seq (SC.region ?_)
    refine SL.val (Val.assign rfl) rfl rfl ?_
    refine SL.val (Val.assign rfl) rfl rfl ?_
    refine SL.val (Val.assign rfl) rfl rfl ?_
    refine SL.nil (SE.seq ?_)
    refine SC.ret ?_
    refine SE.then_ (by intro h; cases h) ?_
    refine SE.finC (rs := [.tmp 4, .tmp 5, .tmp 6]) rfl (RV.tmp rfl (RV.tmp rfl (RV.tmp rfl RV.nil))) (Casts.keep (Casts.nils (s := 6) Casts.refl)) (()) (by repeat first|exact s0 _|exact s1 _|apply s2|apply s3) (by simp [It.rids]) ?_
    have e : parseV l n = (0, [], 1) := by
      unfold parseV
      rw [if_pos (by omega)]
    rw [e]
    rfl
  intro hc15
  refine SL.val (Val.move rfl) rfl rfl ?_
  refine SL.val (Val.gtI rfl rfl) rfl rfl ?_
  refine SL.val (Val.pickF rfl rfl) rfl rfl ?_
  refine SL.nil (SE.seq ?_)
  refine SC.condP rfl ?_ ?_
  · intro hc18
    refine SC.seq (SC.region ?_)
    refine SL.val (Val.assign rfl) rfl rfl ?_
    refine SL.val (Val.assign rfl) rfl rfl ?_
    refine SL.val (Val.assign rfl) rfl rfl ?_
    refine SL.nil (SE.seq ?_)
    refine SC.ret ?_
    refine SE.then_ (by intro h; cases h) ?_
    refine SE.finC (rs := [.tmp 4, .tmp 5, .tmp 6]) rfl (RV.tmp rfl (RV.tmp rfl (RV.tmp rfl RV.nil))) (Casts.keep (Casts.nils (s := 6) Casts.refl)) (()) (by repeat first|exact s0 _|exact s1 _|apply s2|apply s3) (by simp [It.rids]) ?_
    have e : parseV l n = (0, [], 1) := by
      unfold parseV
      rw [if_pos (by omega)]
    rw [e]
    rfl
  intro hc18
  refine SC.skip ?_
  refine SE.seq ?_
  refine SC.seq (SC.region ?_)
  refine SL.val (Val.move rfl) rfl rfl ?_
  refine SL.call (read_s (l := l) (by omega)) Casts.refl (by kernel_rfl) rfl rfl rfl ?_
  refine After.make (by repeat first|exact .nil|refine .blk (by repeat first|assumption|exact m0|apply m1) ?_|refine .rd (by repeat first|assumption|exact m0|apply m1) ?_|refine .pc (by repeat first|assumption|exact m0|apply m1) ?_|refine .rdpc (by repeat first|assumption|exact m0|apply m1) ?_) (fun _ => rfl) ?_
  intro p7
  refine SL.val (Val.assign rfl) rfl rfl ?_
  refine SL.nil (SE.seq ?_)
  refine SC.seq (SC.region ?_)
  refine SL.val (Val.move rfl) rfl rfl ?_
  refine SL.call (number_s (s := Rd.of l) (n := 8) (by show l.length ≤ _; omega) rfl) Casts.refl (by kernel_rfl) rfl rfl rfl ?_
  refine After.one rfl (by repeat first|assumption|exact m0|apply m1) (fun _ => rfl) ?_
  intro _
  refine ⟨_, (by repeat first|assumption|exact Upd.here|apply Upd.there), ?_⟩
  first
    | refine SL.val (Val.convI rfl Try.underlying2 (by kernel_rfl) (by simp only [InR, lo, hi]; omega)) rfl rfl ?_
    | refine SL.val (Val.convW rfl Try.underlying2 (by kernel_rfl)) rfl rfl ?_
  refine SL.val (Val.assign rfl) rfl rfl ?_
  refine SL.nil (SE.seq ?_)
  refine SC.seq (SC.region ?_)
  refine SL.val (Val.assign rfl) rfl rfl ?_
  refine SL.nil (SE.seq ?_)
  refine SC.seq ?_
  refine SC.seq (SC.region ?_)
  refine SL.val (Val.move rfl) rfl rfl ?_
  refine SL.call (count_s (s := Rd.vHead l) (n := 7) (by unfold Rd.vHead; omega)) Casts.refl (by kernel_rfl) rfl rfl rfl ?_
  refine After.one rfl (by repeat first|assumption|exact m0|apply m1) (fun _ => rfl) ?_
  intro _
  refine ⟨_, (by repeat first|assumption|exact Upd.here|apply Upd.there), ?_⟩
  refine SL.val (Val.move rfl) rfl rfl ?_
  refine SL.nil (SE.seq ?_)
  refine SC.block ?_
  refine SC.own0 173 6 ?_
  refine SC.loop (ι := Rd × List Sgn × Nat × Value) (fun z => [own 173 6 z.2.2.2 (z.2.1.map Sgn.abs), rdA TR p7 z.1]) (fun z => [(0, byt l), (1, int n), (7, ptr p7), (8, int (IntKind.i64.wrap ((Rd.of l).num 8 : Nat))), (9, .v z.2.2.2), (25, int (((Rd.vHead l).countN 7) : Nat)), (26, int (z.2.2.1 : Nat))]) (fun z => z.2.2.1 ≤ ((Rd.vHead l).countN 7) ∧ z.1.l.length ≤ l.length ∧ z.2.1.length = z.2.2.1 ∧ Rd.sgns n ((l.length : Nat) : Int) (((Rd.vHead l).countN 7) - z.2.2.1) z.1 z.2.1 = Rd.sgns n ((l.length : Nat) : Int) ((Rd.vHead l).countN 7) ((Rd.vHead l).count 7) [] ∧ ∀ s ∈ z.2.1, s.chg.Sized) (fun z => ((Rd.vHead l).countN 7) - z.2.2.1) ((Rd.vHead l).count 7, [], 0, .slice none 0 0) (⟨Nat.zero_le _, by dsimp only; unfold Rd.vHead; omega, rfl, rfl, by simp⟩) (by exact ⟨rfl, rfl, rfl, rfl, rfl, rfl, rfl, trivial⟩) (by repeat first|exact s0 _|exact s1 _|apply s2|apply s3) ?_
  intro z hz
  refine SC.seq (SC.region ?_)
  refine SL.val (Val.ltI rfl rfl) rfl rfl ?_
  refine SL.nil (SE.seq ?_)
  refine SC.seq ?_
  refine SC.condP rfl ?_ ?_
  rotate_left
  · intro hc27
    refine SC.exit ?_
    refine SE.then_ (by intro h; cases h) ?_
    refine SE.then_ (by intro h; cases h) ?_
    refine SE.exit ?_
    refine SE.seq ?_
    refine SC.seq ?_
    refine SC.seq ?_
    refine SC.freeze [] (t := 9) rfl rfl ?_
    refine SC.region ?_
    refine SL.val (Val.move rfl) rfl rfl ?_
    refine SL.call (end_s (s := z.1)) Casts.refl (by kernel_rfl) rfl rfl rfl ?_
    refine After.one rfl (by repeat first|assumption|exact m0|apply m1) (fun _ => rfl) ?_
    intro _
    refine ⟨_, (by repeat first|assumption|exact Upd.here|apply Upd.there), ?_⟩
    refine SL.val (Val.neI rfl rfl) rfl rfl ?_
    refine SL.val (Val.move rfl) rfl rfl ?_
    refine SL.bothP (t := 52) rfl ?_ ?_
    · intro hc52
      iterate 5 refine SL.skip rfl rfl ?_
      refine SL.val (Val.pickT rfl rfl) rfl rfl ?_
      refine SL.nil (SE.seq ?_)
      refine SC.condT rfl ?_
      refine SC.seq (SC.region ?_)
      refine SL.val (Val.assign rfl) rfl rfl ?_
      refine SL.val (Val.assign rfl) rfl rfl ?_
      refine SL.val (Val.assign rfl) rfl rfl ?_
      refine SL.nil (SE.seq ?_)
      refine SC.ret ?_
      refine SE.then_ (by intro h; cases h) ?_
      have hsg : Rd.vSgns l n = some (z.2.1, z.1) := by
        unfold Rd.vSgns
        rw [← hz.2.2.2.1, show ((Rd.vHead l).countN 7) - z.2.2.1 = 0 by omega]
        rfl
      refine SE.finC (rs := [.tmp 4, .tmp 5, .tmp 6]) rfl (RV.tmp rfl (RV.tmp rfl (RV.tmp rfl RV.nil))) (Casts.keep (Casts.nils (s := 6) Casts.refl)) (()) (by repeat first|exact s0 _|exact s1 _|apply s2|apply s3) (by simp [It.rids]) ?_
      have e : parseV l n = (0, [], 2) := by
        unfold parseV
        rw [if_neg (by omega), hsg]
        show (if z.1.end_ ≠ 0 ∨ chkV (IntKind.i64.wrap ((Rd.of l).num 8 : Nat)) z.2.1 n ≠ 0 then (0, [], 2) else ((IntKind.i64.wrap ((Rd.of l).num 8 : Nat)), z.2.1, (0 : Int))) = _
        rw [if_pos (by first | exact .inl (by assumption) | exact .inr (by assumption))]
      rw [e]
      rfl
    intro hc52
    refine SL.val (Val.move rfl) rfl rfl ?_
    refine SL.val (Val.move rfl) rfl rfl ?_
    refine SL.val (Val.move rfl) rfl rfl ?_
    refine SL.call (vcheck_s (view := (IntKind.i64.wrap ((Rd.of l).num 8 : Nat))) (l := z.2.1) (n := n) (by omega) hz.2.2.2.2) Casts.refl (by kernel_rfl) rfl rfl rfl ?_
    refine After.pure (by repeat first|exact .nil|refine .blk (by repeat first|assumption|exact m0|apply m1) ?_|refine .rd (by repeat first|assumption|exact m0|apply m1) ?_|refine .pc (by repeat first|assumption|exact m0|apply m1) ?_|refine .rdpc (by repeat first|assumption|exact m0|apply m1) ?_) (fun _ => rfl) ?_
    intro _
    refine SL.val (Val.neI rfl rfl) rfl rfl ?_
    refine SL.val (Val.pickF rfl rfl) rfl rfl ?_
    refine SL.nil (SE.seq ?_)
    refine SC.condP rfl ?_ ?_
    · intro hc58
      refine SC.seq (SC.region ?_)
      refine SL.val (Val.assign rfl) rfl rfl ?_
      refine SL.val (Val.assign rfl) rfl rfl ?_
      refine SL.val (Val.assign rfl) rfl rfl ?_
      refine SL.nil (SE.seq ?_)
      refine SC.ret ?_
      refine SE.then_ (by intro h; cases h) ?_
      have hsg : Rd.vSgns l n = some (z.2.1, z.1) := by
        unfold Rd.vSgns
        rw [← hz.2.2.2.1, show ((Rd.vHead l).countN 7) - z.2.2.1 = 0 by omega]
        rfl
      refine SE.finC (rs := [.tmp 4, .tmp 5, .tmp 6]) rfl (RV.tmp rfl (RV.tmp rfl (RV.tmp rfl RV.nil))) (Casts.keep (Casts.nils (s := 6) Casts.refl)) (()) (by repeat first|exact s0 _|exact s1 _|apply s2|apply s3) (by simp [It.rids]) ?_
      have e : parseV l n = (0, [], 2) := by
        unfold parseV
        rw [if_neg (by omega), hsg]
        show (if z.1.end_ ≠ 0 ∨ chkV (IntKind.i64.wrap ((Rd.of l).num 8 : Nat)) z.2.1 n ≠ 0 then (0, [], 2) else ((IntKind.i64.wrap ((Rd.of l).num 8 : Nat)), z.2.1, (0 : Int))) = _
        rw [if_pos (by first | exact .inl (by assumption) | exact .inr (by assumption))]
      rw [e]
      rfl
    intro hc58
    refine SC.skip ?_
    refine SE.seq ?_
    refine SC.seq (SC.region ?_)
    refine SL.val (Val.move rfl) rfl rfl ?_
    refine SL.val (Val.move rfl) rfl rfl ?_
    refine SL.val (Val.assign rfl) rfl rfl ?_
    refine SL.val (Val.assign rfl) rfl rfl ?_
    refine SL.val (Val.assign rfl) rfl rfl ?_
    refine SL.nil (SE.seq ?_)
    refine SC.ret ?_
    have hsg : Rd.vSgns l n = some (z.2.1, z.1) := by
      unfold Rd.vSgns
      rw [← hz.2.2.2.1, show ((Rd.vHead l).countN 7) - z.2.2.1 = 0 by omega]
      rfl
    refine SE.fin (rs := [.tmp 4, .tmp 5, .tmp 6]) rfl (RV.tmp rfl (RV.tmp rfl (RV.tmp rfl RV.nil))) (()) (by repeat first|exact s0 _|exact s1 _|apply s2|apply s3) (by simp [It.rids]) ?_
    have e : parseV l n = ((IntKind.i64.wrap ((Rd.of l).num 8 : Nat)), z.2.1, 0) := by
      unfold parseV
      rw [if_neg (by omega), hsg]
      show (if z.1.end_ ≠ 0 ∨ chkV (IntKind.i64.wrap ((Rd.of l).num 8 : Nat)) z.2.1 n ≠ 0 then (0, [], 2) else ((IntKind.i64.wrap ((Rd.of l).num 8 : Nat)), z.2.1, (0 : Int))) = _
      rw [if_neg (fun h => by rcases h with h | h; exact hc52 h; exact hc58 h)]
    rw [e]
    rfl
  intro hc27
  have n0 := z.1.num_lt (n := 1) (k := 1) (Nat.le_refl _)
  have n1 := z.1.fixed_length 1
  have n3 : ((z.1.fixed 1).rowOut ((l.length : Nat) : Int)).length ≤ (z.1.fixed 1).l.length := Rd.rowOut_length _ _
  have n4 := Rd.row_length (z.1.fixed 1) ((l.length : Nat) : Int)
  refine SC.skip ?_
  refine SE.seq ?_
  refine SC.seq ?_
  refine SC.block ?_
  refine SC.seq (SC.region ?_)
  refine SL.val (Val.move rfl) rfl rfl ?_
  refine SL.call (number_s (s := z.1) (n := 1) (by omega) rfl) Casts.refl (by kernel_rfl) rfl rfl rfl ?_
  refine After.one rfl (by repeat first|assumption|exact m0|apply m1) (fun _ => rfl) ?_
  intro _
  refine ⟨_, (by repeat first|assumption|exact Upd.here|apply Upd.there), ?_⟩
  first
    | refine SL.val (Val.convI rfl Try.underlying3 (by kernel_rfl) (by simp only [InR, lo, hi]; omega)) rfl rfl ?_
    | refine SL.val (Val.convW rfl Try.underlying3 (by kernel_rfl)) rfl rfl ?_
  refine SL.val (Val.assign rfl) rfl rfl ?_
  refine SL.nil (SE.seq ?_)
  refine SC.seq (SC.region ?_)
  refine SL.val (Val.move rfl) rfl rfl ?_
  refine SL.val (Val.move rfl) rfl rfl ?_
  first
    | refine SL.val (Val.lenSl rfl Try.underlying34 (List.length_map _)) rfl rfl ?_
    | refine SL.val (Val.lenOwn rfl (by repeat first|assumption|exact m0|apply m1) Try.underlying34 (List.length_map _)) rfl rfl ?_
    | refine SL.val (Val.lenNil rfl Try.underlying34) rfl rfl ?_
  refine SL.call (rowr_s (s := z.1.fixed 1) (n := ((l.length : Nat) : Int)) (by omega) (by omega)) Casts.refl (by kernel_rfl) rfl rfl rfl ?_
  refine After.one rfl (by repeat first|assumption|exact m0|apply m1) (fun _ => rfl) ?_
  intro _
  refine ⟨_, (by repeat first|assumption|exact Upd.here|apply Upd.there), ?_⟩
  refine SL.val (Val.move rfl) rfl rfl ?_
  refine SL.call (parse_s (l := ((z.1.fixed 1).rowOut ((l.length : Nat) : Int))) (n := n) (by omega)) Casts.refl (by kernel_rfl) rfl rfl rfl ?_
  refine After.pure (by repeat first|exact .nil|refine .blk (by repeat first|assumption|exact m0|apply m1) ?_|refine .rd (by repeat first|assumption|exact m0|apply m1) ?_|refine .pc (by repeat first|assumption|exact m0|apply m1) ?_|refine .rdpc (by repeat first|assumption|exact m0|apply m1) ?_) (fun _ => rfl) ?_
  intro _
  refine SL.val (Val.move rfl) rfl rfl ?_
  refine SL.val (Val.extract rfl rfl) rfl rfl ?_
  refine SL.val (Val.extract rfl rfl) rfl rfl ?_
  refine SL.eff (Eff.alloc tabOk rfl) rfl rfl ?_
  rintro _ _ ⟨b11, rfl, rfl⟩
  refine SL.eff (Eff.store tabOk rfl rfl rfl (by repeat first|assumption|exact Upd.here|apply Upd.there) (by rfl) (Nat.le_of_ble_eq_true (by rfl)) (by rfl) (by rfl)) rfl rfl ?_
  rintro _ _ ⟨rfl, rfl⟩
  refine SL.val (Val.assign rfl) rfl rfl ?_
  refine SL.nil (SE.seq ?_)
  refine SC.seq ?_
  refine SC.seq (SC.region ?_)
  refine SL.val (Val.move rfl) rfl rfl ?_
  refine SL.val (Val.neI rfl rfl) rfl rfl ?_
  refine SL.nil (SE.seq ?_)
  refine SC.condP rfl ?_ ?_
  · intro hc41
    refine SC.seq (SC.region ?_)
    refine SL.val (Val.assign rfl) rfl rfl ?_
    refine SL.val (Val.assign rfl) rfl rfl ?_
    refine SL.val (Val.assign rfl) rfl rfl ?_
    refine SL.nil (SE.seq ?_)
    refine SC.ret ?_
    refine SE.then_ (by intro h; cases h) ?_
    refine SE.ret ?_
    refine SE.then_ (by intro h; cases h) ?_
    refine SE.then_ (by intro h; cases h) ?_
    refine SE.ret ?_
    refine SE.then_ (by intro h; cases h) ?_
    refine SE.finC (rs := [.tmp 4, .tmp 5, .tmp 6]) rfl (RV.tmp rfl (RV.tmp rfl (RV.tmp rfl RV.nil))) (Casts.keep (Casts.nils (s := 6) Casts.refl)) (()) (by repeat first|exact s0 _|exact s1 _|apply s2|apply s3) (by simp [It.rids]) ?_
    have e : parseV l n = (0, [], 2) := by
      unfold parseV
      rw [if_neg (by omega)]
      unfold Rd.vSgns
      rw [← hz.2.2.2.1]
      obtain ⟨j, hj⟩ : ∃ j, ((Rd.vHead l).countN 7) - z.2.2.1 = j + 1 := ⟨((Rd.vHead l).countN 7) - z.2.2.1 - 1, by omega⟩
      rw [hj]
      show parseV2 _ n (if (parseC ((z.1.fixed 1).rowOut ((l.length : Nat) : Int)) n).2 ≠ 0 then none else Rd.sgns n ((l.length : Nat) : Int) j _ _) = _
      rw [if_pos hc41]
      rfl
    rw [e]
    rfl
  intro hc41
  refine SC.skip ?_
  refine SE.seq ?_
  refine SC.region ?_
  refine SL.val (Val.move rfl) rfl rfl ?_
  refine SL.val (Val.move rfl) rfl rfl ?_
  first
    | refine SL.val (Val.loadA tabOk rfl rfl rfl (by first|(apply Or.inl;(repeat first|assumption|exact m0|apply m1);done)|(apply Or.inr;(repeat first|assumption|exact m0|apply m1);done)) List.not_mem_nil (by rfl)) rfl rfl ?_
    | refine SL.val (Val.loadP tabOk rfl rfl rfl (by first|(apply Or.inl;(repeat first|assumption|exact m0|apply m1);done)|(apply Or.inr;(repeat first|assumption|exact m0|apply m1);done)) List.not_mem_nil (Nat.le_of_ble_eq_true (by rfl))) rfl rfl ?_
  refine SL.val (Val.buildS (L := (⟨(z.1.num 1 : Nat), (parseC ((z.1.fixed 1).rowOut ((l.length : Nat) : Int)) n).1⟩ : Sgn).abs) tabOk rfl rfl rfl (by rfl)) rfl rfl ?_
  refine SL.eff (Eff.buildSl tabOk Try.underlying39 rfl rfl rfl rfl rfl rfl rfl) rfl rfl ?_
  rintro _ _ ⟨rfl, rfl⟩
  refine SL.eff (Eff.appendE (zs := (z.2.1 ++ [(⟨(z.1.num 1 : Nat), (parseC ((z.1.fixed 1).rowOut ((l.length : Nat) : Int)) n).1⟩ : Sgn)]).map Sgn.abs) tabOk [_] (by rw [List.map_append]; rfl) Try.underlying39 rfl rfl rfl rfl rfl rfl (by intro c hc; rw [List.mem_singleton] at hc; subst hc; rfl) (by unfold maxLen; simp only [List.length_map, List.length_cons, List.length_nil]; omega) (by rw [show Try.prog.bytesOf 173 = 96 by kernel_rfl]; simp only [List.length_map, List.length_cons, List.length_nil]; omega)) rfl rfl ?_
  rintro _ _ ⟨r47, rfl, rfl⟩
  refine SL.val (Val.assign rfl) rfl rfl ?_
  refine SL.nil ?_
  refine SE.inBlock ?_
  refine SE.seq ?_
  refine SC.region ?_
  first
    | refine SL.val (Val.addI rfl rfl (by simp only [InR, lo, hi]; omega)) rfl rfl ?_
    | refine SL.val (Val.addW rfl rfl) rfl rfl ?_
  refine SL.val (Val.move rfl) rfl rfl ?_
  refine SL.nil ?_
  refine SE.round ((z.1.fixed 1).row ((l.length : Nat) : Int), z.2.1 ++ [(⟨(z.1.num 1 : Nat), (parseC ((z.1.fixed 1).rowOut ((l.length : Nat) : Int)) n).1⟩ : Sgn)], z.2.2.1 + 1, r47) (by first | omega | (dsimp only; omega)) (⟨by dsimp only; omega, by dsimp only; omega, by dsimp only; rw [List.length_append, hz.2.2.1]; rfl, by
    rw [← hz.2.2.2.1]
    obtain ⟨j, hj⟩ : ∃ j, ((Rd.vHead l).countN 7) - z.2.2.1 = j + 1 := ⟨((Rd.vHead l).countN 7) - z.2.2.1 - 1, by omega⟩
    rw [hj]
    show Rd.sgns n ((l.length : Nat) : Int) (((Rd.vHead l).countN 7) - (z.2.2.1 + 1)) _ _ = (if (parseC ((z.1.fixed 1).rowOut ((l.length : Nat) : Int)) n).2 ≠ 0 then none else Rd.sgns n ((l.length : Nat) : Int) j _ _)
    rw [if_neg hc41, show ((Rd.vHead l).countN 7) - (z.2.2.1 + 1) = j by omega], by
    intro s hs
    rcases List.mem_append.1 hs with hs | hs
    · exact hz.2.2.2.2 s hs
    · rw [List.mem_singleton.1 hs]; exact parseC_sized (by omega)⟩) (by exact ⟨rfl, rfl, rfl, rfl, rfl, rfl, rfl, trivial⟩) (by repeat first|exact s0 _|exact s1 _|apply s2|apply s3)
set_option maxHeartbeats 4000000 in
theorem rvparse_s (hl : l.length ≤ 100000) : Spec Try.prog 33 [byt l, int n] [] (fun _ : Unit => []) (fun _ => .tup [int (rparseV l n).1, sgnsA (rparseV l n).2.1, int (rparseV l n).2.2]) := by
  have hL : lots = 100000000000 := rfl
  have hof : (Rd.of l).l = l := rfl
  have q1 := (Rd.of l).fixed_length 8
  have q3 := Rd.count_length (Rd.vHead l) 7
  have q4 := Rd.countN_lt (Rd.vHead l) 7
  unfold Rd.vHead at q3
  rw [hof] at q1
  refine spec_of Try.func33 rfl Try.ntmps33 rfl fun G w => ?_
  refine SC.seq (SC.region ?_)
  refine SL.val (Val.assign rfl) rfl rfl ?_
  refine SL.val (Val.assign rfl) rfl rfl ?_
  refine SL.val (Val.assign rfl) rfl rfl ?_
  refine SL.nil (SE.seq ?_)
  refine SC.seq ?_
  refine SC.seq (SC.region ?_)
  refine SL.val (Val.move rfl) rfl rfl ?_
  refine SL.val (Val.ltI rfl rfl) rfl rfl ?_
  refine SL.val (Val.move rfl) rfl rfl ?_
  refine SL.bothP (t := 17) rfl ?_ ?_
  · intro hc17
    iterate 2 refine SL.skip rfl rfl ?_
    refine SL.val (Val.pickT rfl rfl) rfl rfl ?_
    refine SL.nil (SE.seq ?_)
    refine SC.condT rfl ?_
    refine SC.seq (SC.region ?_)
    refine SL.val (Val.assign rfl) rfl rfl ?_
    refine SL.val (Val.assign rfl) rfl rfl ?_
    refine SL.val (Val.assign rfl) rfl rfl ?_
    refine SL.nil (SE.seq ?_)
    refine SC.ret ?_
    refine SE.then_ (by intro h; cases h) ?_
    refine SE.finC (rs := [.tmp 4, .tmp 5, .tmp 6]) rfl (RV.tmp rfl (RV.tmp rfl (RV.tmp rfl RV.nil))) (Casts.keep (Casts.nils (s := 6) Casts.refl)) (()) (by repeat first|exact s0 _|exact s1 _|apply s2|apply s3) (by simp [It.rids]) ?_
    have e : rparseV l n = (0, [], 1) := by
      unfold rparseV
      rw [if_pos (by omega)]
    rw [e]
    rfl
  intro hc17
  refine SL.val (Val.move rfl) rfl rfl ?_
  refine SL.val (Val.gtI rfl rfl) rfl rfl ?_
  refine SL.val (Val.pickF rfl rfl) rfl rfl ?_
  refine SL.nil (SE.seq ?_)
  refine SC.condP rfl ?_ ?_
  · intro hc20
    refine SC.seq (SC.region ?_)
    refine SL.val (Val.assign rfl) rfl rfl ?_
    refine SL.val (Val.assign rfl) rfl rfl ?_
    refine SL.val (Val.assign rfl) rfl rfl ?_
    refine SL.nil (SE.seq ?_)
    refine SC.ret ?_
    refine SE.then_ (by intro h; cases h) ?_
    refine SE.finC (rs := [.tmp 4, .tmp 5, .tmp 6]) rfl (RV.tmp rfl (RV.tmp rfl (RV.tmp rfl RV.nil))) (Casts.keep (Casts.nils (s := 6) Casts.refl)) (()) (by repeat first|exact s0 _|exact s1 _|apply s2|apply s3) (by simp [It.rids]) ?_
    have e : rparseV l n = (0, [], 1) := by
      unfold rparseV
      rw [if_pos (by omega)]
    rw [e]
    rfl
  intro hc20
  refine SC.skip ?_
  refine SE.seq ?_
  refine SC.seq (SC.region ?_)
  refine SL.val (Val.move rfl) rfl rfl ?_
  refine SL.val (Val.buildS tabOk rfl rfl rfl rfl) rfl rfl ?_
  refine SL.eff (Eff.boxA rfl) rfl rfl ?_
  rintro _ _ ⟨b23, rfl, rfl⟩
  refine SL.val (Val.assign rfl) rfl rfl ?_
  refine SL.nil (SE.seq ?_)
  refine SC.seq (SC.region ?_)
  refine SL.val (Val.move rfl) rfl rfl ?_
  refine SL.call (rnumber_s (s := Rd.of l) (n := 8) (by show l.length ≤ _; omega) rfl) Casts.refl (by kernel_rfl) rfl rfl rfl ?_
  refine After.one rfl (by repeat first|assumption|exact m0|apply m1) (fun _ => rfl) ?_
  intro _
  refine ⟨_, (by repeat first|assumption|exact Upd.here|apply Upd.there), ?_⟩
  first
    | refine SL.val (Val.convI rfl Try.underlying2 (by kernel_rfl) (by simp only [InR, lo, hi]; omega)) rfl rfl ?_
    | refine SL.val (Val.convW rfl Try.underlying2 (by kernel_rfl)) rfl rfl ?_
  refine SL.val (Val.assign rfl) rfl rfl ?_
  refine SL.nil (SE.seq ?_)
  refine SC.seq (SC.region ?_)
  refine SL.val (Val.assign rfl) rfl rfl ?_
  refine SL.nil (SE.seq ?_)
  refine SC.seq (SC.region ?_)
  refine SL.val (Val.assign rfl) rfl rfl ?_
  refine SL.nil (SE.seq ?_)
  refine SC.seq ?_
  refine SC.seq (SC.region ?_)
  refine SL.val (Val.move rfl) rfl rfl ?_
  refine SL.call (rcount_s (s := Rd.vHead l) (n := 7) (by unfold Rd.vHead; omega)) Casts.refl (by kernel_rfl) rfl rfl rfl ?_
  refine After.one rfl (by repeat first|assumption|exact m0|apply m1) (fun _ => rfl) ?_
  intro _
  refine ⟨_, (by repeat first|assumption|exact Upd.here|apply Upd.there), ?_⟩
  refine SL.val (Val.assign rfl) rfl rfl ?_
  refine SL.nil (SE.seq ?_)
  refine SC.block ?_
  refine SC.own0 173 6 ?_
  refine SC.loop (ι := Rd × List Sgn × Bool × Nat × Value) (fun z => [own 173 6 z.2.2.2.2 (z.2.1.map Sgn.abs), rdA RR b23 z.1]) (fun z => [(1, int n), (7, ptr b23), (8, int (IntKind.i64.wrap ((Rd.of l).num 8 : Nat))), (9, .v z.2.2.2.2), (10, boo z.2.2.1), (11, int (z.2.2.2.1 : Nat))]) (fun z => z.1.l.length ≤ l.length ∧ z.2.1.length + z.2.2.2.1 = ((Rd.vHead l).countN 7) ∧ Rd.rsgns n z.2.2.2.1 z.1 z.2.1 z.2.2.1 = Rd.rsgns n ((Rd.vHead l).countN 7) ((Rd.vHead l).count 7) [] true ∧ ∀ s ∈ z.2.1, s.chg.Fit) (fun z => z.2.2.2.1) ((Rd.vHead l).count 7, [], true, ((Rd.vHead l).countN 7), .slice none 0 0) (⟨by dsimp only; unfold Rd.vHead; omega, Nat.zero_add _, rfl, by simp⟩) (by exact ⟨rfl, rfl, rfl, rfl, rfl, rfl, trivial⟩) (by repeat first|exact s0 _|exact s1 _|apply s2|apply s3) ?_
  intro z hz
  refine SC.seq ?_
  refine SC.seq (SC.region ?_)
  refine SL.val (Val.move rfl) rfl rfl ?_
  refine SL.val (Val.gtI rfl rfl) rfl rfl ?_
  refine SL.val (Val.move rfl) rfl rfl ?_
  refine SL.bothP (t := 31) rfl ?_ ?_
  rotate_left
  · intro hc31
    iterate 5 refine SL.skip rfl rfl ?_
    refine SL.val (Val.pickF rfl rfl) rfl rfl ?_
    refine SL.nil (SE.seq ?_)
    refine SC.condF rfl ?_
    refine SC.exit ?_
    refine SE.then_ (by intro h; cases h) ?_
    refine SE.then_ (by intro h; cases h) ?_
    refine SE.exit ?_
    refine SE.seq ?_
    refine SC.seq ?_
    refine SC.seq ?_
    refine SC.freeze [] (t := 9) rfl rfl ?_
    refine SC.region ?_
    refine SL.val (Val.move rfl) rfl rfl ?_
    refine SL.call (rend_s (s := z.1)) Casts.refl (by kernel_rfl) rfl rfl rfl ?_
    refine After.one rfl (by repeat first|assumption|exact m0|apply m1) (fun _ => rfl) ?_
    intro _
    refine ⟨_, (by repeat first|assumption|exact Upd.here|apply Upd.there), ?_⟩
    refine SL.val (Val.neI rfl rfl) rfl rfl ?_
    refine SL.val (Val.move rfl) rfl rfl ?_
    refine SL.bothP (t := 64) rfl ?_ ?_
    · intro hc64
      iterate 2 refine SL.skip rfl rfl ?_
      refine SL.val (Val.pickT rfl rfl) rfl rfl ?_
      refine SL.val (Val.move rfl) rfl rfl ?_
      iterate 5 refine SL.skip rfl rfl ?_
      refine SL.val (Val.pickT rfl rfl) rfl rfl ?_
      refine SL.nil (SE.seq ?_)
      refine SC.condT rfl ?_
      refine SC.seq (SC.region ?_)
      refine SL.val (Val.assign rfl) rfl rfl ?_
      refine SL.val (Val.assign rfl) rfl rfl ?_
      refine SL.val (Val.assign rfl) rfl rfl ?_
      refine SL.nil (SE.seq ?_)
      refine SC.ret ?_
      refine SE.then_ (by intro h; cases h) ?_
      have hsg : Rd.rvSgns l n = (z.2.1, z.2.2.1, z.1) := by
        unfold Rd.rvSgns
        rw [← hz.2.2.1]
        first
          | (rw [show z.2.2.2.1 = 0 by omega]; rfl)
          | exact rsgns_stop (by simpa using hc37) _
      refine SE.finC (rs := [.tmp 4, .tmp 5, .tmp 6]) rfl (RV.tmp rfl (RV.tmp rfl (RV.tmp rfl RV.nil))) (Casts.keep (Casts.nils (s := 6) Casts.refl)) (()) (by repeat first|exact s0 _|exact s1 _|apply s2|apply s3) (by simp [It.rids]) ?_
      have e : rparseV l n = (0, [], 2) := by
        unfold rparseV
        rw [if_neg (by omega), hsg]
        show (if z.1.end_ ≠ 0 ∨ z.2.2.1 = false ∨ chkV (IntKind.i64.wrap ((Rd.of l).num 8 : Nat)) z.2.1 n ≠ 0 then (0, [], 2) else ((IntKind.i64.wrap ((Rd.of l).num 8 : Nat)), z.2.1, (0 : Int))) = _
        rw [if_pos (by first | exact .inl (by assumption) | exact .inr (.inr (by assumption)) | (have h8 := hc68; simp at h8; exact .inr (.inl h8)))]
      rw [e]
      rfl
    intro hc64
    refine SL.val (Val.move rfl) rfl rfl ?_
    refine SL.val (Val.notB rfl) rfl rfl ?_
    refine SL.val (Val.pickF rfl rfl) rfl rfl ?_
    refine SL.val (Val.move rfl) rfl rfl ?_
    refine SL.both (t := 68) rfl ?_ ?_
    · intro hc68
      iterate 5 refine SL.skip rfl rfl ?_
      refine SL.val (Val.pickT rfl rfl) rfl rfl ?_
      refine SL.nil (SE.seq ?_)
      refine SC.condT rfl ?_
      refine SC.seq (SC.region ?_)
      refine SL.val (Val.assign rfl) rfl rfl ?_
      refine SL.val (Val.assign rfl) rfl rfl ?_
      refine SL.val (Val.assign rfl) rfl rfl ?_
      refine SL.nil (SE.seq ?_)
      refine SC.ret ?_
      refine SE.then_ (by intro h; cases h) ?_
      have hsg : Rd.rvSgns l n = (z.2.1, z.2.2.1, z.1) := by
        unfold Rd.rvSgns
        rw [← hz.2.2.1]
        first
          | (rw [show z.2.2.2.1 = 0 by omega]; rfl)
          | exact rsgns_stop (by simpa using hc37) _
      refine SE.finC (rs := [.tmp 4, .tmp 5, .tmp 6]) rfl (RV.tmp rfl (RV.tmp rfl (RV.tmp rfl RV.nil))) (Casts.keep (Casts.nils (s := 6) Casts.refl)) (()) (by repeat first|exact s0 _|exact s1 _|apply s2|apply s3) (by simp [It.rids]) ?_
      have e : rparseV l n = (0, [], 2) := by
        unfold rparseV
        rw [if_neg (by omega), hsg]
        show (if z.1.end_ ≠ 0 ∨ z.2.2.1 = false ∨ chkV (IntKind.i64.wrap ((Rd.of l).num 8 : Nat)) z.2.1 n ≠ 0 then (0, [], 2) else ((IntKind.i64.wrap ((Rd.of l).num 8 : Nat)), z.2.1, (0 : Int))) = _
        rw [if_pos (by first | exact .inl (by assumption) | exact .inr (.inr (by assumption)) | (have h8 := hc68; simp at h8; exact .inr (.inl h8)))]
      rw [e]
      rfl
    intro hc68
    refine SL.val (Val.move rfl) rfl rfl ?_
    refine SL.val (Val.move rfl) rfl rfl ?_
    refine SL.val (Val.move rfl) rfl rfl ?_
    refine SL.call (rvcheck_s (view := (IntKind.i64.wrap ((Rd.of l).num 8 : Nat))) (l := z.2.1) (n := n) (by omega) hz.2.2.2) Casts.refl (by kernel_rfl) rfl rfl rfl ?_
    refine After.pure (by repeat first|exact .nil|refine .blk (by repeat first|assumption|exact m0|apply m1) ?_|refine .rd (by repeat first|assumption|exact m0|apply m1) ?_|refine .pc (by repeat first|assumption|exact m0|apply m1) ?_|refine .rdpc (by repeat first|assumption|exact m0|apply m1) ?_) (fun _ => rfl) ?_
    intro _
    refine SL.val (Val.neI rfl rfl) rfl rfl ?_
    refine SL.val (Val.pickF rfl rfl) rfl rfl ?_
    refine SL.nil (SE.seq ?_)
    refine SC.condP rfl ?_ ?_
    · intro hc74
      refine SC.seq (SC.region ?_)
      refine SL.val (Val.assign rfl) rfl rfl ?_
      refine SL.val (Val.assign rfl) rfl rfl ?_
      refine SL.val (Val.assign rfl) rfl rfl ?_
      refine SL.nil (SE.seq ?_)
      refine SC.ret ?_
      refine SE.then_ (by intro h; cases h) ?_
      have hsg : Rd.rvSgns l n = (z.2.1, z.2.2.1, z.1) := by
        unfold Rd.rvSgns
        rw [← hz.2.2.1]
        first
          | (rw [show z.2.2.2.1 = 0 by omega]; rfl)
          | exact rsgns_stop (by simpa using hc37) _
      refine SE.finC (rs := [.tmp 4, .tmp 5, .tmp 6]) rfl (RV.tmp rfl (RV.tmp rfl (RV.tmp rfl RV.nil))) (Casts.keep (Casts.nils (s := 6) Casts.refl)) (()) (by repeat first|exact s0 _|exact s1 _|apply s2|apply s3) (by simp [It.rids]) ?_
      have e : rparseV l n = (0, [], 2) := by
        unfold rparseV
        rw [if_neg (by omega), hsg]
        show (if z.1.end_ ≠ 0 ∨ z.2.2.1 = false ∨ chkV (IntKind.i64.wrap ((Rd.of l).num 8 : Nat)) z.2.1 n ≠ 0 then (0, [], 2) else ((IntKind.i64.wrap ((Rd.of l).num 8 : Nat)), z.2.1, (0 : Int))) = _
        rw [if_pos (by first | exact .inl (by assumption) | exact .inr (.inr (by assumption)) | (have h8 := hc68; simp at h8; exact .inr (.inl h8)))]
      rw [e]
      rfl
    intro hc74
    refine SC.skip ?_
    refine SE.seq ?_
    refine SC.seq (SC.region ?_)
    refine SL.val (Val.move rfl) rfl rfl ?_
    refine SL.val (Val.move rfl) rfl rfl ?_
    refine SL.val (Val.assign rfl) rfl rfl ?_
    refine SL.val (Val.assign rfl) rfl rfl ?_
    refine SL.val (Val.assign rfl) rfl rfl ?_
    refine SL.nil (SE.seq ?_)
    refine SC.ret ?_
    have hsg : Rd.rvSgns l n = (z.2.1, z.2.2.1, z.1) := by
      unfold Rd.rvSgns
      rw [← hz.2.2.1]
      first
        | (rw [show z.2.2.2.1 = 0 by omega]; rfl)
        | exact rsgns_stop (by simpa using hc37) _
    refine SE.fin (rs := [.tmp 4, .tmp 5, .tmp 6]) rfl (RV.tmp rfl (RV.tmp rfl (RV.tmp rfl RV.nil))) (()) (by repeat first|exact s0 _|exact s1 _|apply s2|apply s3) (by simp [It.rids]) ?_
    have e : rparseV l n = ((IntKind.i64.wrap ((Rd.of l).num 8 : Nat)), z.2.1, 0) := by
      unfold rparseV
      rw [if_neg (by omega), hsg]
      show (if z.1.end_ ≠ 0 ∨ z.2.2.1 = false ∨ chkV (IntKind.i64.wrap ((Rd.of l).num 8 : Nat)) z.2.1 n ≠ 0 then (0, [], 2) else ((IntKind.i64.wrap ((Rd.of l).num 8 : Nat)), z.2.1, (0 : Int))) = _
      rw [if_neg (fun h => by
        rcases h with h | h | h
        · exact hc64 h
        · have h8 := hc68
          simp [h] at h8
        · exact hc74 h)]
    rw [e]
    rfl
  intro hc31
  refine SL.val (Val.move rfl) rfl rfl ?_
  refine SL.val (Val.nilCheck rfl) rfl rfl ?_
  refine SL.val (Val.fieldAddr tabOk rfl rfl rfl rfl rfl) rfl rfl ?_
  refine SL.val (Val.load1 tabOk rfl rfl (by first|(apply Or.inl;(repeat first|assumption|exact m0|apply m1);done)|(apply Or.inr;(repeat first|assumption|exact m0|apply m1);done)) List.not_mem_nil (by rfl)) rfl rfl ?_
  refine SL.val (Val.eqI rfl rfl) rfl rfl ?_
  refine SL.val (Val.pickT rfl rfl) rfl rfl ?_
  refine SL.nil (SE.seq ?_)
  refine SC.condP rfl ?_ ?_
  · intro hc37
    have n0 := z.1.num_lt (n := 1) (k := 1) (Nat.le_refl _)
    have n1 := z.1.fixed_length 1
    have n3 : ((z.1.fixed 1).rowOut 1048576).length ≤ (z.1.fixed 1).l.length := Rd.rowOut_length _ _
    have n4 := Rd.row_length (z.1.fixed 1) 1048576
    refine SC.skip ?_
    refine SE.seq ?_
    refine SC.seq ?_
    refine SC.block ?_
    refine SC.seq (SC.region ?_)
    refine SL.val (Val.move rfl) rfl rfl ?_
    refine SL.call (rnumber_s (s := z.1) (n := 1) (by omega) rfl) Casts.refl (by kernel_rfl) rfl rfl rfl ?_
    refine After.one rfl (by repeat first|assumption|exact m0|apply m1) (fun _ => rfl) ?_
    intro _
    refine ⟨_, (by repeat first|assumption|exact Upd.here|apply Upd.there), ?_⟩
    first
      | refine SL.val (Val.convI rfl Try.underlying3 (by kernel_rfl) (by simp only [InR, lo, hi]; omega)) rfl rfl ?_
      | refine SL.val (Val.convW rfl Try.underlying3 (by kernel_rfl)) rfl rfl ?_
    refine SL.val (Val.assign rfl) rfl rfl ?_
    refine SL.nil (SE.seq ?_)
    refine SC.seq (SC.region ?_)
    refine SL.val (Val.move rfl) rfl rfl ?_
    refine SL.call (rrowr_s (s := z.1.fixed 1) (n := 1048576) (by omega) (by omega)) Casts.refl (by kernel_rfl) rfl rfl rfl ?_
    refine After.one rfl (by repeat first|assumption|exact m0|apply m1) (fun _ => rfl) ?_
    intro _
    refine ⟨_, (by repeat first|assumption|exact Upd.here|apply Upd.there), ?_⟩
    refine SL.val (Val.move rfl) rfl rfl ?_
    refine SL.call (rparse_s (l := ((z.1.fixed 1).rowOut 1048576)) (n := n) (by omega)) Casts.refl (by kernel_rfl) rfl rfl rfl ?_
    refine After.pure (by repeat first|exact .nil|refine .blk (by repeat first|assumption|exact m0|apply m1) ?_|refine .rd (by repeat first|assumption|exact m0|apply m1) ?_|refine .pc (by repeat first|assumption|exact m0|apply m1) ?_|refine .rdpc (by repeat first|assumption|exact m0|apply m1) ?_) (fun _ => rfl) ?_
    intro _
    refine SL.val (Val.move rfl) rfl rfl ?_
    refine SL.val (Val.extract rfl rfl) rfl rfl ?_
    refine SL.val (Val.extract rfl rfl) rfl rfl ?_
    refine SL.eff (Eff.alloc tabOk rfl) rfl rfl ?_
    rintro _ _ ⟨b13, rfl, rfl⟩
    refine SL.eff (Eff.store tabOk rfl rfl rfl (by repeat first|assumption|exact Upd.here|apply Upd.there) (by rfl) (Nat.le_of_ble_eq_true (by rfl)) (by rfl) (by rfl)) rfl rfl ?_
    rintro _ _ ⟨rfl, rfl⟩
    refine SL.val (Val.assign rfl) rfl rfl ?_
    refine SL.nil (SE.seq ?_)
    refine SC.seq (SC.region ?_)
    refine SL.val (Val.move rfl) rfl rfl ?_
    refine SL.val (Val.move rfl) rfl rfl ?_
    refine SL.both (t := 51) rfl ?_ ?_
    · intro hc51
      refine SL.val (Val.move rfl) rfl rfl ?_
      refine SL.val (Val.eqI rfl rfl) rfl rfl ?_
      refine SL.val (Val.pickT rfl rfl) rfl rfl ?_
      refine SL.val (Val.assign rfl) rfl rfl ?_
      refine SL.nil (SE.seq ?_)
      refine SC.region ?_
      refine SL.val (Val.move rfl) rfl rfl ?_
      refine SL.val (Val.move rfl) rfl rfl ?_
      first
        | refine SL.val (Val.loadA tabOk rfl rfl rfl (by first|(apply Or.inl;(repeat first|assumption|exact m0|apply m1);done)|(apply Or.inr;(repeat first|assumption|exact m0|apply m1);done)) List.not_mem_nil (by rfl)) rfl rfl ?_
        | refine SL.val (Val.loadP tabOk rfl rfl rfl (by first|(apply Or.inl;(repeat first|assumption|exact m0|apply m1);done)|(apply Or.inr;(repeat first|assumption|exact m0|apply m1);done)) List.not_mem_nil (Nat.le_of_ble_eq_true (by rfl))) rfl rfl ?_
      refine SL.val (Val.buildS (L := (⟨(z.1.num 1 : Nat), (rparseC ((z.1.fixed 1).rowOut 1048576) n).1⟩ : Sgn).abs) tabOk rfl rfl rfl (by rfl)) rfl rfl ?_
      refine SL.eff (Eff.buildSl tabOk Try.underlying39 rfl rfl rfl rfl rfl rfl rfl) rfl rfl ?_
      rintro _ _ ⟨rfl, rfl⟩
      refine SL.eff (Eff.appendE (zs := (z.2.1 ++ [(⟨(z.1.num 1 : Nat), (rparseC ((z.1.fixed 1).rowOut 1048576) n).1⟩ : Sgn)]).map Sgn.abs) tabOk [_] (by rw [List.map_append]; rfl) Try.underlying39 rfl rfl rfl rfl rfl rfl (by intro c hc; rw [List.mem_singleton] at hc; subst hc; rfl) (by unfold maxLen; simp only [List.length_map, List.length_cons, List.length_nil]; omega) (by rw [show Try.prog.bytesOf 173 = 96 by kernel_rfl]; simp only [List.length_map, List.length_cons, List.length_nil]; omega)) rfl rfl ?_
      rintro _ _ ⟨r60, rfl, rfl⟩
      refine SL.val (Val.assign rfl) rfl rfl ?_
      refine SL.nil ?_
      refine SE.inBlock ?_
      refine SE.seq ?_
      refine SC.region ?_
      refine SL.val (Val.move rfl) rfl rfl ?_
      first
        | refine SL.val (Val.subI rfl rfl (by simp only [InR, lo, hi]; omega)) rfl rfl ?_
        | refine SL.val (Val.subW rfl rfl) rfl rfl ?_
      refine SL.val (Val.assign rfl) rfl rfl ?_
      refine SL.nil ?_
      refine SE.round ((z.1.fixed 1).row 1048576, z.2.1 ++ [(⟨(z.1.num 1 : Nat), (rparseC ((z.1.fixed 1).rowOut 1048576) n).1⟩ : Sgn)], z.2.2.1 && decide ((rparseC ((z.1.fixed 1).rowOut 1048576) n).2 = 0), z.2.2.2.1 - 1, r60) (by first | omega | (dsimp only; omega)) (⟨by dsimp only; omega, by dsimp only; rw [List.length_append, List.length_singleton]; omega, by
        rw [← hz.2.2.1]
        obtain ⟨j, hj⟩ : ∃ j, z.2.2.2.1 = j + 1 := ⟨z.2.2.2.1 - 1, by omega⟩
        show Rd.rsgns n (z.2.2.2.1 - 1) _ _ _ = Rd.rsgns n z.2.2.2.1 _ _ _
        rw [hj, Nat.add_sub_cancel]
        show _ = (if z.1.e ≠ 0 then _ else _)
        rw [if_neg (by simpa using hc37)], by
        intro s hs
        rcases List.mem_append.1 hs with hs | hs
        · exact hz.2.2.2 s hs
        · rw [List.mem_singleton.1 hs]; exact rparseC_fit (by omega)⟩) ⟨rfl, rfl, rfl, rfl, (by show some (boo (decide _)) = some (boo (_ && _)); rw [hc51, Bool.true_and]), (by show some (Abs.v (Value.int _ ((z.2.2.2.1 : Int) - 1))) = some (Abs.v (Value.int _ ((z.2.2.2.1 - 1 : Nat) : Int))); congr 3; omega), trivial⟩ (by repeat first|exact s0 _|exact s1 _|apply s2|apply s3)
    intro hc51
    iterate 2 refine SL.skip rfl rfl ?_
    refine SL.val (Val.pickF rfl rfl) rfl rfl ?_
    refine SL.val (Val.assign rfl) rfl rfl ?_
    refine SL.nil (SE.seq ?_)
    refine SC.region ?_
    refine SL.val (Val.move rfl) rfl rfl ?_
    refine SL.val (Val.move rfl) rfl rfl ?_
    first
      | refine SL.val (Val.loadA tabOk rfl rfl rfl (by first|(apply Or.inl;(repeat first|assumption|exact m0|apply m1);done)|(apply Or.inr;(repeat first|assumption|exact m0|apply m1);done)) List.not_mem_nil (by rfl)) rfl rfl ?_
      | refine SL.val (Val.loadP tabOk rfl rfl rfl (by first|(apply Or.inl;(repeat first|assumption|exact m0|apply m1);done)|(apply Or.inr;(repeat first|assumption|exact m0|apply m1);done)) List.not_mem_nil (Nat.le_of_ble_eq_true (by rfl))) rfl rfl ?_
    refine SL.val (Val.buildS (L := (⟨(z.1.num 1 : Nat), (rparseC ((z.1.fixed 1).rowOut 1048576) n).1⟩ : Sgn).abs) tabOk rfl rfl rfl (by rfl)) rfl rfl ?_
    refine SL.eff (Eff.buildSl tabOk Try.underlying39 rfl rfl rfl rfl rfl rfl rfl) rfl rfl ?_
    rintro _ _ ⟨rfl, rfl⟩
    refine SL.eff (Eff.appendE (zs := (z.2.1 ++ [(⟨(z.1.num 1 : Nat), (rparseC ((z.1.fixed 1).rowOut 1048576) n).1⟩ : Sgn)]).map Sgn.abs) tabOk [_] (by rw [List.map_append]; rfl) Try.underlying39 rfl rfl rfl rfl rfl rfl (by intro c hc; rw [List.mem_singleton] at hc; subst hc; rfl) (by unfold maxLen; simp only [List.length_map, List.length_cons, List.length_nil]; omega) (by rw [show Try.prog.bytesOf 173 = 96 by kernel_rfl]; simp only [List.length_map, List.length_cons, List.length_nil]; omega)) rfl rfl ?_
    rintro _ _ ⟨r60, rfl, rfl⟩
    refine SL.val (Val.assign rfl) rfl rfl ?_
    refine SL.nil ?_
    refine SE.inBlock ?_
    refine SE.seq ?_
    refine SC.region ?_
    refine SL.val (Val.move rfl) rfl rfl ?_
    first
      | refine SL.val (Val.subI rfl rfl (by simp only [InR, lo, hi]; omega)) rfl rfl ?_
      | refine SL.val (Val.subW rfl rfl) rfl rfl ?_
    refine SL.val (Val.assign rfl) rfl rfl ?_
    refine SL.nil ?_
    refine SE.round ((z.1.fixed 1).row 1048576, z.2.1 ++ [(⟨(z.1.num 1 : Nat), (rparseC ((z.1.fixed 1).rowOut 1048576) n).1⟩ : Sgn)], z.2.2.1 && decide ((rparseC ((z.1.fixed 1).rowOut 1048576) n).2 = 0), z.2.2.2.1 - 1, r60) (by first | omega | (dsimp only; omega)) (⟨by dsimp only; omega, by dsimp only; rw [List.length_append, List.length_singleton]; omega, by
      rw [← hz.2.2.1]
      obtain ⟨j, hj⟩ : ∃ j, z.2.2.2.1 = j + 1 := ⟨z.2.2.2.1 - 1, by omega⟩
      show Rd.rsgns n (z.2.2.2.1 - 1) _ _ _ = Rd.rsgns n z.2.2.2.1 _ _ _
      rw [hj, Nat.add_sub_cancel]
      show _ = (if z.1.e ≠ 0 then _ else _)
      rw [if_neg (by simpa using hc37)], by
      intro s hs
      rcases List.mem_append.1 hs with hs | hs
      · exact hz.2.2.2 s hs
      · rw [List.mem_singleton.1 hs]; exact rparseC_fit (by omega)⟩) ⟨rfl, rfl, rfl, rfl, (by show some (boo false) = some (boo (_ && _)); rw [hc51]; rfl), (by show some (Abs.v (Value.int _ ((z.2.2.2.1 : Int) - 1))) = some (Abs.v (Value.int _ ((z.2.2.2.1 - 1 : Nat) : Int))); congr 3; omega), trivial⟩ (by repeat first|exact s0 _|exact s1 _|apply s2|apply s3)
  intro hc37
  refine SC.exit ?_
  refine SE.then_ (by intro h; cases h) ?_
  refine SE.then_ (by intro h; cases h) ?_
  refine SE.exit ?_
  refine SE.seq ?_
  refine SC.seq ?_
  refine SC.seq ?_
  refine SC.freeze [] (t := 9) rfl rfl ?_
  refine SC.region ?_
  refine SL.val (Val.move rfl) rfl rfl ?_
  refine SL.call (rend_s (s := z.1)) Casts.refl (by kernel_rfl) rfl rfl rfl ?_
  refine After.one rfl (by repeat first|assumption|exact m0|apply m1) (fun _ => rfl) ?_
  intro _
  refine ⟨_, (by repeat first|assumption|exact Upd.here|apply Upd.there), ?_⟩
  refine SL.val (Val.neI rfl rfl) rfl rfl ?_
  refine SL.val (Val.move rfl) rfl rfl ?_
  refine SL.bothP (t := 64) rfl ?_ ?_
  · intro hc64
    iterate 2 refine SL.skip rfl rfl ?_
    refine SL.val (Val.pickT rfl rfl) rfl rfl ?_
    refine SL.val (Val.move rfl) rfl rfl ?_
    iterate 5 refine SL.skip rfl rfl ?_
    refine SL.val (Val.pickT rfl rfl) rfl rfl ?_
    refine SL.nil (SE.seq ?_)
    refine SC.condT rfl ?_
    refine SC.seq (SC.region ?_)
    refine SL.val (Val.assign rfl) rfl rfl ?_
    refine SL.val (Val.assign rfl) rfl rfl ?_
    refine SL.val (Val.assign rfl) rfl rfl ?_
    refine SL.nil (SE.seq ?_)
    refine SC.ret ?_
    refine SE.then_ (by intro h; cases h) ?_
    have hsg : Rd.rvSgns l n = (z.2.1, z.2.2.1, z.1) := by
      unfold Rd.rvSgns
      rw [← hz.2.2.1]
      first
        | (rw [show z.2.2.2.1 = 0 by omega]; rfl)
        | exact rsgns_stop (by simpa using hc37) _
    refine SE.finC (rs := [.tmp 4, .tmp 5, .tmp 6]) rfl (RV.tmp rfl (RV.tmp rfl (RV.tmp rfl RV.nil))) (Casts.keep (Casts.nils (s := 6) Casts.refl)) (()) (by repeat first|exact s0 _|exact s1 _|apply s2|apply s3) (by simp [It.rids]) ?_
    have e : rparseV l n = (0, [], 2) := by
      unfold rparseV
      rw [if_neg (by omega), hsg]
      show (if z.1.end_ ≠ 0 ∨ z.2.2.1 = false ∨ chkV (IntKind.i64.wrap ((Rd.of l).num 8 : Nat)) z.2.1 n ≠ 0 then (0, [], 2) else ((IntKind.i64.wrap ((Rd.of l).num 8 : Nat)), z.2.1, (0 : Int))) = _
      rw [if_pos (by first | exact .inl (by assumption) | exact .inr (.inr (by assumption)) | (have h8 := hc68; simp at h8; exact .inr (.inl h8)))]
    rw [e]
    rfl
  intro hc64
  refine SL.val (Val.move rfl) rfl rfl ?_
  refine SL.val (Val.notB rfl) rfl rfl ?_
  refine SL.val (Val.pickF rfl rfl) rfl rfl ?_
  refine SL.val (Val.move rfl) rfl rfl ?_
  refine SL.both (t := 68) rfl ?_ ?_
  · intro hc68
    iterate 5 refine SL.skip rfl rfl ?_
    refine SL.val (Val.pickT rfl rfl) rfl rfl ?_
    refine SL.nil (SE.seq ?_)
    refine SC.condT rfl ?_
    refine SC.seq (SC.region ?_)
    refine SL.val (Val.assign rfl) rfl rfl ?_
    refine SL.val (Val.assign rfl) rfl rfl ?_
    refine SL.val (Val.assign rfl) rfl rfl ?_
    refine SL.nil (SE.seq ?_)
    refine SC.ret ?_
    refine SE.then_ (by intro h; cases h) ?_
    have hsg : Rd.rvSgns l n = (z.2.1, z.2.2.1, z.1) := by
      unfold Rd.rvSgns
      rw [← hz.2.2.1]
      first
        | (rw [show z.2.2.2.1 = 0 by omega]; rfl)
        | exact rsgns_stop (by simpa using hc37) _
    refine SE.finC (rs := [.tmp 4, .tmp 5, .tmp 6]) rfl (RV.tmp rfl (RV.tmp rfl (RV.tmp rfl RV.nil))) (Casts.keep (Casts.nils (s := 6) Casts.refl)) (()) (by repeat first|exact s0 _|exact s1 _|apply s2|apply s3) (by simp [It.rids]) ?_
    have e : rparseV l n = (0, [], 2) := by
      unfold rparseV
      rw [if_neg (by omega), hsg]
      show (if z.1.end_ ≠ 0 ∨ z.2.2.1 = false ∨ chkV (IntKind.i64.wrap ((Rd.of l).num 8 : Nat)) z.2.1 n ≠ 0 then (0, [], 2) else ((IntKind.i64.wrap ((Rd.of l).num 8 : Nat)), z.2.1, (0 : Int))) = _
      rw [if_pos (by first | exact .inl (by assumption) | exact .inr (.inr (by assumption)) | (have h8 := hc68; simp at h8; exact .inr (.inl h8)))]
    rw [e]
    rfl
  intro hc68
  refine SL.val (Val.move rfl) rfl rfl ?_
  refine SL.val (Val.move rfl) rfl rfl ?_
  refine SL.val (Val.move rfl) rfl rfl ?_
  refine SL.call (rvcheck_s (view := (IntKind.i64.wrap ((Rd.of l).num 8 : Nat))) (l := z.2.1) (n := n) (by omega) hz.2.2.2) Casts.refl (by kernel_rfl) rfl rfl rfl ?_
  refine After.pure (by repeat first|exact .nil|refine .blk (by repeat first|assumption|exact m0|apply m1) ?_|refine .rd (by repeat first|assumption|exact m0|apply m1) ?_|refine .pc (by repeat first|assumption|exact m0|apply m1) ?_|refine .rdpc (by repeat first|assumption|exact m0|apply m1) ?_) (fun _ => rfl) ?_
  intro _
  refine SL.val (Val.neI rfl rfl) rfl rfl ?_
  refine SL.val (Val.pickF rfl rfl) rfl rfl ?_
  refine SL.nil (SE.seq ?_)
  refine SC.condP rfl ?_ ?_
  · intro hc74
    refine SC.seq (SC.region ?_)
    refine SL.val (Val.assign rfl) rfl rfl ?_
    refine SL.val (Val.assign rfl) rfl rfl ?_
    refine SL.val (Val.assign rfl) rfl rfl ?_
    refine SL.nil (SE.seq ?_)
    refine SC.ret ?_
    refine SE.then_ (by intro h; cases h) ?_
    have hsg : Rd.rvSgns l n = (z.2.1, z.2.2.1, z.1) := by
      unfold Rd.rvSgns
      rw [← hz.2.2.1]
      first
        | (rw [show z.2.2.2.1 = 0 by omega]; rfl)
        | exact rsgns_stop (by simpa using hc37) _
    refine SE.finC (rs := [.tmp 4, .tmp 5, .tmp 6]) rfl (RV.tmp rfl (RV.tmp rfl (RV.tmp rfl RV.nil))) (Casts.keep (Casts.nils (s := 6) Casts.refl)) (()) (by repeat first|exact s0 _|exact s1 _|apply s2|apply s3) (by simp [It.rids]) ?_
    have e : rparseV l n = (0, [], 2) := by
      unfold rparseV
      rw [if_neg (by omega), hsg]
      show (if z.1.end_ ≠ 0 ∨ z.2.2.1 = false ∨ chkV (IntKind.i64.wrap ((Rd.of l).num 8 : Nat)) z.2.1 n ≠ 0 then (0, [], 2) else ((IntKind.i64.wrap ((Rd.of l).num 8 : Nat)), z.2.1, (0 : Int))) = _
      rw [if_pos (by first | exact .inl (by assumption) | exact .inr (.inr (by assumption)) | (have h8 := hc68; simp at h8; exact .inr (.inl h8)))]
    rw [e]
    rfl
  intro hc74
  refine SC.skip ?_
  refine SE.seq ?_
  refine SC.seq (SC.region ?_)
  refine SL.val (Val.move rfl) rfl rfl ?_
  refine SL.val (Val.move rfl) rfl rfl ?_
  refine SL.val (Val.assign rfl) rfl rfl ?_
  refine SL.val (Val.assign rfl) rfl rfl ?_
  refine SL.val (Val.assign rfl) rfl rfl ?_
  refine SL.nil (SE.seq ?_)
  refine SC.ret ?_
  have hsg : Rd.rvSgns l n = (z.2.1, z.2.2.1, z.1) := by
    unfold Rd.rvSgns
    rw [← hz.2.2.1]
    first
      | (rw [show z.2.2.2.1 = 0 by omega]; rfl)
      | exact rsgns_stop (by simpa using hc37) _
  refine SE.fin (rs := [.tmp 4, .tmp 5, .tmp 6]) rfl (RV.tmp rfl (RV.tmp rfl (RV.tmp rfl RV.nil))) (()) (by repeat first|exact s0 _|exact s1 _|apply s2|apply s3) (by simp [It.rids]) ?_
  have e : rparseV l n = ((IntKind.i64.wrap ((Rd.of l).num 8 : Nat)), z.2.1, 0) := by
    unfold rparseV
    rw [if_neg (by omega), hsg]
    show (if z.1.end_ ≠ 0 ∨ z.2.2.1 = false ∨ chkV (IntKind.i64.wrap ((Rd.of l).num 8 : Nat)) z.2.1 n ≠ 0 then (0, [], 2) else ((IntKind.i64.wrap ((Rd.of l).num 8 : Nat)), z.2.1, (0 : Int))) = _
    rw [if_neg (fun h => by
      rcases h with h | h | h
      · exact hc64 h
      · have h8 := hc68
        simp [h] at h8
      · exact hc74 h)]
  rw [e]
  rfl
variable {xs ys : List Sgn}
theorem Sgn.same {p q : Sgn} (h1 : p.who = q.who) (h2 : p.chg = q.chg) : p = q := by
  obtain ⟨a, b⟩ := p
  obtain ⟨c, d⟩ := q
  dsimp only at h1 h2
  rw [h1, h2]
set_option maxHeartbeats 2000000 in
theorem rvsame_s (hn : xs.length < 9223372036854775807) (hf : ∀ s ∈ xs, s.chg.Sized) (h1 : ∀ s ∈ xs, s.chg.Lits) (h2 : ∀ s ∈ ys, s.chg.Lits) : Spec Try.prog 32 [sgnsA xs, sgnsA ys] [] (fun _ : Unit => []) (fun _ => boo (yes (xs = ys))) := by
  refine spec_of Try.func32 rfl Try.ntmps32 rfl fun G w => ?_
  refine SC.seq (SC.region ?_)
  refine SL.val (Val.assign rfl) rfl rfl ?_
  refine SL.nil (SE.seq ?_)
  refine SC.seq ?_
  refine SC.seq (SC.region ?_)
  refine SL.val (Val.move rfl) rfl rfl ?_
  first
    | refine SL.val (Val.lenSl rfl Try.underlying39 (List.length_map _)) rfl rfl ?_
    | refine SL.val (Val.lenOwn rfl (by repeat first|assumption|exact m0|apply m1) Try.underlying39 (List.length_map _)) rfl rfl ?_
    | refine SL.val (Val.lenNil rfl Try.underlying39) rfl rfl ?_
  refine SL.val (Val.move rfl) rfl rfl ?_
  first
    | refine SL.val (Val.lenSl rfl Try.underlying39 (List.length_map _)) rfl rfl ?_
    | refine SL.val (Val.lenOwn rfl (by repeat first|assumption|exact m0|apply m1) Try.underlying39 (List.length_map _)) rfl rfl ?_
    | refine SL.val (Val.lenNil rfl Try.underlying39) rfl rfl ?_
  refine SL.val (Val.neI rfl rfl) rfl rfl ?_
  refine SL.nil (SE.seq ?_)
  refine SC.condP rfl ?_ ?_
  · intro hc10
    refine SC.seq (SC.region ?_)
    refine SL.val (Val.assign rfl) rfl rfl ?_
    refine SL.nil (SE.seq ?_)
    refine SC.ret ?_
    refine SE.then_ (by intro h; cases h) ?_
    refine SE.fin (rs := [.tmp 4]) rfl (RV.tmp rfl RV.nil) (()) (by repeat first|exact s0 _|exact s1 _|apply s2|apply s3) (by simp [It.rids]) ?_
    refine boo_no fun h => ?_
    subst h
    exact hc10 rfl
  intro hc10
  have hle : xs.length = ys.length := by omega
  refine SC.skip ?_
  refine SE.seq ?_
  refine SC.seq ?_
  refine SC.seq (SC.region ?_)
  refine SL.val (Val.move rfl) rfl rfl ?_
  first
    | refine SL.val (Val.lenSl rfl Try.underlying39 (List.length_map _)) rfl rfl ?_
    | refine SL.val (Val.lenOwn rfl (by repeat first|assumption|exact m0|apply m1) Try.underlying39 (List.length_map _)) rfl rfl ?_
    | refine SL.val (Val.lenNil rfl Try.underlying39) rfl rfl ?_
  refine SL.val (Val.move rfl) rfl rfl ?_
  refine SL.nil (SE.seq ?_)
  refine SC.block ?_
  refine SC.loop (ι := Nat) (fun z => []) (fun z => [(0, sgnsA xs), (1, sgnsA ys), (12, int (xs.length : Nat)), (13, int (z : Nat))]) (fun z => z ≤ xs.length ∧ xs.take z = ys.take z) (fun z => xs.length - z) (0) (⟨Nat.zero_le _, by simp⟩) (by exact ⟨rfl, rfl, rfl, rfl, trivial⟩) (by repeat first|exact s0 _|exact s1 _|apply s2|apply s3) ?_
  intro z hz
  refine SC.seq (SC.region ?_)
  refine SL.val (Val.ltI rfl rfl) rfl rfl ?_
  refine SL.nil (SE.seq ?_)
  refine SC.seq ?_
  refine SC.condP rfl ?_ ?_
  rotate_left
  · intro hc14
    refine SC.exit ?_
    refine SE.then_ (by intro h; cases h) ?_
    refine SE.then_ (by intro h; cases h) ?_
    refine SE.exit ?_
    refine SE.seq ?_
    refine SC.seq (SC.region ?_)
    refine SL.val (Val.assign rfl) rfl rfl ?_
    refine SL.nil (SE.seq ?_)
    refine SC.ret ?_
    refine SE.fin (rs := [.tmp 4]) rfl (RV.tmp rfl RV.nil) (()) (by repeat first|exact s0 _|exact s1 _|apply s2|apply s3) (by simp [It.rids]) ?_
    refine boo_yes ⟨fun _ => ?_, fun _ => rfl⟩
    have h9 := hz.2
    rw [List.take_of_length_le (by omega), List.take_of_length_le (by omega)] at h9
    exact h9
  intro hc14
  have hlt : z < xs.length := by omega
  have hlt2 : z < ys.length := by omega
  refine SC.skip ?_
  refine SE.seq ?_
  refine SC.seq ?_
  refine SC.block ?_
  refine SC.seq (SC.region ?_)
  refine SL.val (Val.move rfl) rfl rfl ?_
  refine SL.val (Val.assign rfl) rfl rfl ?_
  refine SL.nil (SE.seq ?_)
  refine SC.seq ?_
  refine SC.draw [] (.q 0 (.q 1 (.q 2 (.q 3 (.q 4 (.q 5 (.q 6 (.q 7 (.q 8 (.q 9 (.q 10 (.q 11 (.q 12 (.q 13 (.q 14 (.q 15 (.q 16 (.q 17 (.q 18 (.q 19 (.q 20 (.q 21 (.e 22 (.q 23 (.q 24 .nil))))))))))))))))))))))))) (by kernel_rfl) (by kernel_rfl) ?_
  refine SX.val rfl (Val.move rfl) (by simp) rfl rfl ?_
  refine SX.val rfl (Val.move rfl) (by simp) rfl rfl ?_
  refine SX.val rfl (Val.indexSl tabOk Try.underlying39 rfl rfl rfl rfl (at_map (by omega)) rfl rfl) (by simp) rfl rfl ?_
  refine SX.val rfl (Val.fieldAddrR tabOk rfl rfl rfl rfl rfl) (by simp) rfl rfl ?_
  refine SX.val rfl (Val.load1R tabOk rfl rfl rfl) (by simp) rfl rfl ?_
  refine SX.val rfl (Val.move rfl) (by simp) rfl rfl ?_
  refine SX.val rfl (Val.move rfl) (by simp) rfl rfl ?_
  refine SX.val rfl (Val.indexSl tabOk Try.underlying39 rfl rfl rfl rfl (at_map (by omega)) rfl rfl) (by simp) rfl rfl ?_
  refine SX.val rfl (Val.fieldAddrR tabOk rfl rfl rfl rfl rfl) (by simp) rfl rfl ?_
  refine SX.val rfl (Val.load1R tabOk rfl rfl rfl) (by simp) rfl rfl ?_
  refine SX.val rfl (Val.neI rfl rfl) (by simp) rfl rfl ?_
  refine SX.val rfl (Val.move rfl) (by simp) rfl rfl ?_
  refine SX.bothP (t := 27) rfl ?_ ?_
  · intro hc27
    iterate 10 refine SX.skip rfl rfl rfl ?_
    refine SX.skip' rfl rfl rfl ?_
    refine SX.skip rfl rfl rfl ?_
    refine SX.val rfl (Val.pickT rfl rfl) (by simp) rfl rfl ?_
    refine SX.nil (SE.seq ?_)
    refine SC.condT rfl ?_
    refine SC.seq (SC.region ?_)
    refine SL.val (Val.assign rfl) rfl rfl ?_
    refine SL.nil (SE.seq ?_)
    refine SC.ret ?_
    refine SE.ret ?_
    refine SE.then_ (by intro h; cases h) ?_
    refine SE.then_ (by intro h; cases h) ?_
    refine SE.ret ?_
    refine SE.then_ (by intro h; cases h) ?_
    refine SE.fin (rs := [.tmp 4]) rfl (RV.tmp rfl RV.nil) (()) (by repeat first|exact s0 _|exact s1 _|apply s2|apply s3) (by simp [It.rids]) ?_
    refine boo_no fun h => ?_
    subst h
    first
      | exact hc27 rfl
      | (have h8 := yes_iff.2 (rfl : (xs[z]'hlt).chg = (xs[z]'hlt).chg)
         rw [h8] at hc40
         cases hc40)
  intro hc27
  refine SX.val rfl (Val.move rfl) (by simp) rfl rfl ?_
  refine SX.val rfl (Val.move rfl) (by simp) rfl rfl ?_
  refine SX.val rfl (Val.indexSl tabOk Try.underlying39 rfl rfl rfl rfl (at_map (by omega)) rfl rfl) (by simp) rfl rfl ?_
  refine SX.val rfl (Val.fieldAddrR tabOk rfl rfl rfl rfl rfl) (by simp) rfl rfl ?_
  first
    | refine SX.val rfl (Val.loadAR tabOk rfl rfl rfl (by rfl)) (by simp) rfl rfl ?_
    | refine SX.val rfl (Val.loadPR tabOk rfl rfl rfl (Nat.le_of_ble_eq_true (by rfl))) (by simp) rfl rfl ?_
  refine SX.val rfl (Val.move rfl) (by simp) rfl rfl ?_
  refine SX.val rfl (Val.move rfl) (by simp) rfl rfl ?_
  refine SX.val rfl (Val.indexSl tabOk Try.underlying39 rfl rfl rfl rfl (at_map (by omega)) rfl rfl) (by simp) rfl rfl ?_
  refine SX.val rfl (Val.fieldAddrR tabOk rfl rfl rfl rfl rfl) (by simp) rfl rfl ?_
  first
    | refine SX.val rfl (Val.loadAR tabOk rfl rfl rfl (by rfl)) (by simp) rfl rfl ?_
    | refine SX.val rfl (Val.loadPR tabOk rfl rfl rfl (Nat.le_of_ble_eq_true (by rfl))) (by simp) rfl rfl ?_
  refine SX.call rfl (rsame_s (c := (xs[z]'hlt).chg) (d := (ys[z]'hlt2).chg) (hf _ (List.getElem_mem hlt)).pts (hf _ (List.getElem_mem hlt)).prep (hf _ (List.getElem_mem hlt)).prop (h1 _ (List.getElem_mem hlt)) (h2 _ (List.getElem_mem hlt2))) (by simp [mids, It.mids]) Casts.refl (by kernel_rfl) rfl rfl rfl ?_
  refine After.pure (by repeat first|exact .nil|refine .blk (by repeat first|assumption|exact m0|apply m1) ?_|refine .rd (by repeat first|assumption|exact m0|apply m1) ?_|refine .pc (by repeat first|assumption|exact m0|apply m1) ?_|refine .rdpc (by repeat first|assumption|exact m0|apply m1) ?_) (fun _ => rfl) ?_
  intro _
  refine SX.val rfl (Val.notB rfl) (by simp) rfl rfl ?_
  refine SX.val rfl (Val.pickF rfl rfl) (by simp) rfl rfl ?_
  refine SX.nil (SE.seq ?_)
  refine SC.cond rfl ?_ ?_
  rotate_left
  · intro hc40
    refine SC.skip ?_
    refine SE.inBlock ?_
    refine SE.seq ?_
    refine SC.region ?_
    first
      | refine SL.val (Val.addI rfl rfl (by simp only [InR, lo, hi]; omega)) rfl rfl ?_
      | refine SL.val (Val.addW rfl rfl) rfl rfl ?_
    refine SL.val (Val.move rfl) rfl rfl ?_
    refine SL.nil ?_
    refine SE.round (z + 1) (by first | omega | (dsimp only; omega)) (⟨hlt, take_succ_eq hz.2 hlt hlt2 (Sgn.same (by simpa using hc27) (yes_iff.1 (by simpa using hc40)))⟩) (by exact ⟨rfl, rfl, rfl, rfl, trivial⟩) (by repeat first|exact s0 _|exact s1 _|apply s2|apply s3)
  intro hc40
  refine SC.seq (SC.region ?_)
  refine SL.val (Val.assign rfl) rfl rfl ?_
  refine SL.nil (SE.seq ?_)
  refine SC.ret ?_
  refine SE.ret ?_
  refine SE.then_ (by intro h; cases h) ?_
  refine SE.then_ (by intro h; cases h) ?_
  refine SE.ret ?_
  refine SE.then_ (by intro h; cases h) ?_
  refine SE.fin (rs := [.tmp 4]) rfl (RV.tmp rfl RV.nil) (()) (by repeat first|exact s0 _|exact s1 _|apply s2|apply s3) (by simp [It.rids]) ?_
  refine boo_no fun h => ?_
  subst h
  first
    | exact hc27 rfl
    | (have h8 := yes_iff.2 (rfl : (xs[z]'hlt).chg = (xs[z]'hlt).chg)
       rw [h8] at hc40
       cases hc40)
end
end Go.Proofs.Ytpgffckfbgfgcaa.A
/-
  New views: what the laws ask ahead, and the walks through NewviewBack and NewviewReads.
-/
set_option maxRecDepth 100000
set_option linter.unusedSimpArgs false
set_option linter.unusedVariables false
namespace Go.Proofs.Ytpgffckfbgfgcaa.A
open Go.RowKit

def NFew (l : List Sgn) : Prop := l.length ≤ 10 ∧ ∀ s ∈ l, s.chg.Asked
section
variable {l : List Sgn} {view n : Int}
set_option maxHeartbeats 4000000 in
theorem few19_s (hl : l.length ≤ 9223372036854775807) : Spec Try.prog 26 [sgnsA l] [] (fun _ : {b : Bool // b = true → NFew l} => []) (fun z => boo z.1) := by
  refine spec_of Try.func26 rfl Try.ntmps26 rfl fun G w => ?_
  refine SC.seq (SC.region ?_)
  refine SL.val (Val.assign rfl) rfl rfl ?_
  refine SL.nil (SE.seq ?_)
  refine SC.seq ?_
  refine SC.seq (SC.region ?_)
  refine SL.val (Val.move rfl) rfl rfl ?_
  first
    | refine SL.val (Val.lenSl rfl Try.underlying39 (List.length_map _)) rfl rfl ?_
    | refine SL.val (Val.lenOwn rfl (by repeat first|assumption|exact m0|apply m1) Try.underlying39 (List.length_map _)) rfl rfl ?_
    | refine SL.val (Val.lenNil rfl Try.underlying39) rfl rfl ?_
  refine SL.val (Val.move rfl) rfl rfl ?_
  refine SL.nil (SE.seq ?_)
  refine SC.block ?_
  refine SC.loop (ι := Nat) (fun z => []) (fun z => [(0, sgnsA l), (11, sgnsA l), (12, int (l.length : Nat)), (13, int (z : Nat))]) (fun z => z ≤ l.length ∧ ∀ s ∈ l.take z, s.chg.Asked) (fun z => l.length - z) (0) (⟨Nat.zero_le _, by simp⟩) (by exact ⟨rfl, rfl, rfl, rfl, trivial⟩) (by repeat first|exact s0 _|exact s1 _|apply s2|apply s3) ?_
  intro z hz
  refine SC.seq (SC.region ?_)
  refine SL.val (Val.ltI rfl rfl) rfl rfl ?_
  refine SL.nil (SE.seq ?_)
  refine SC.seq ?_
  refine SC.condP rfl ?_ ?_
  rotate_left
  · intro hc14
    refine SC.exit ?_
    refine SE.then_ (by intro h; cases h) ?_
    refine SE.then_ (by intro h; cases h) ?_
    refine SE.exit ?_
    refine SE.seq ?_
    refine SC.seq (SC.region ?_)
    refine SL.val (Val.move rfl) rfl rfl ?_
    first
      | refine SL.val (Val.lenSl rfl Try.underlying39 (List.length_map _)) rfl rfl ?_
      | refine SL.val (Val.lenOwn rfl (by repeat first|assumption|exact m0|apply m1) Try.underlying39 (List.length_map _)) rfl rfl ?_
      | refine SL.val (Val.lenNil rfl Try.underlying39) rfl rfl ?_
    refine SL.val (Val.leI rfl rfl) rfl rfl ?_
    refine SL.val (Val.assign rfl) rfl rfl ?_
    refine SL.nil (SE.seq ?_)
    refine SC.ret ?_
    refine SE.fin (rs := [.tmp 2]) rfl (RV.tmp rfl RV.nil) (⟨decide ((l.length : Int) ≤ 10), fun h => ⟨by have h9 := of_decide_eq_true h; omega, take_full hz.2 (by omega)⟩⟩) (by repeat first|exact s0 _|exact s1 _|apply s2|apply s3) (by simp [It.rids]) ?_
    exact rfl
  intro hc14
  have hr0 : z < l.length := by omega
  have hrl := rows_length (l[z]'hr0).chg
  refine SC.skip ?_
  refine SE.seq ?_
  refine SC.seq ?_
  refine SC.block ?_
  refine SC.seq (SC.region ?_)
  refine SL.val (Val.indexSl tabOk Try.underlying39 rfl rfl rfl rfl (at_map (by omega)) rfl rfl) rfl rfl ?_
  first
    | refine SL.val (Val.loadAR tabOk rfl rfl rfl (by rfl)) rfl rfl ?_
    | refine SL.val (Val.loadPR tabOk rfl rfl rfl (Nat.le_of_ble_eq_true (by rfl))) rfl rfl ?_
  refine SL.eff (Eff.alloc tabOk rfl) rfl rfl ?_
  rintro _ _ ⟨b4, rfl, rfl⟩
  refine SL.eff (Eff.store tabOk rfl rfl rfl (by repeat first|assumption|exact Upd.here|apply Upd.there) (by rfl) (Nat.le_of_ble_eq_true (by rfl)) (by rfl) (by rfl)) rfl rfl ?_
  rintro _ _ ⟨rfl, rfl⟩
  refine SL.nil (SE.seq ?_)
  refine SC.seq ?_
  refine SC.seq (SC.region ?_)
  refine SL.val (Val.fieldAddr tabOk rfl rfl rfl rfl rfl) rfl rfl ?_
  refine SL.val (Val.fieldAddr tabOk rfl rfl rfl rfl rfl) rfl rfl ?_
  refine SL.val (Val.load1 tabOk rfl rfl (by first|(apply Or.inl;(repeat first|assumption|exact m0|apply m1);done)|(apply Or.inr;(repeat first|assumption|exact m0|apply m1);done)) List.not_mem_nil (by rfl)) rfl rfl ?_
  refine SL.val (Val.fieldAddr tabOk rfl rfl rfl rfl rfl) rfl rfl ?_
  refine SL.val (Val.fieldAddr tabOk rfl rfl rfl rfl rfl) rfl rfl ?_
  refine SL.val (Val.load1 tabOk rfl rfl (by first|(apply Or.inl;(repeat first|assumption|exact m0|apply m1);done)|(apply Or.inr;(repeat first|assumption|exact m0|apply m1);done)) List.not_mem_nil (by rfl)) rfl rfl ?_
  refine SL.eff (Eff.buildSl tabOk Try.underlying174 rfl rfl rfl rfl rfl rfl rfl) rfl rfl ?_
  rintro _ _ ⟨rfl, rfl⟩
  refine SL.val (Val.lenSl (m := 2) rfl Try.underlying174 rfl) rfl rfl ?_
  refine SL.val (Val.move rfl) rfl rfl ?_
  refine SL.nil (SE.seq ?_)
  refine SC.block ?_
  refine SC.loop (ι := Nat) (fun y => [.blk b4 173 (l[z]'hr0).abs]) (fun y => [(0, sgnsA l), (11, sgnsA l), (12, int (l.length : Nat)), (13, int (z : Nat)), (4, ptr b4), (23, .sl 1 ((l[z]'hr0).chg.rows.map fun ps => [prfsA ps])), (24, int (2 : Nat)), (25, int (y : Nat))]) (fun y => y ≤ 2 ∧ ∀ ps ∈ (l[z]'hr0).chg.rows.take y, RFew ps) (fun y => 2 - y) (0) (⟨Nat.zero_le _, by simp⟩) (by exact ⟨rfl, rfl, rfl, rfl, rfl, rfl, rfl, rfl, trivial⟩) (by repeat first|exact s0 _|exact s1 _|apply s2|apply s3) ?_
  intro y hy
  refine SC.seq (SC.region ?_)
  refine SL.val (Val.ltI rfl rfl) rfl rfl ?_
  refine SL.nil (SE.seq ?_)
  refine SC.seq ?_
  refine SC.condP rfl ?_ ?_
  rotate_left
  · intro hc26
    refine SC.exit ?_
    refine SE.then_ (by intro h; cases h) ?_
    refine SE.then_ (by intro h; cases h) ?_
    refine SE.exit ?_
    refine SE.seq ?_
    refine SC.seq (SC.region ?_)
    refine SL.val (Val.fieldAddr tabOk rfl rfl rfl rfl rfl) rfl rfl ?_
    refine SL.val (Val.fieldAddr tabOk rfl rfl rfl rfl rfl) rfl rfl ?_
    refine SL.val (Val.load1 tabOk rfl rfl (by first|(apply Or.inl;(repeat first|assumption|exact m0|apply m1);done)|(apply Or.inr;(repeat first|assumption|exact m0|apply m1);done)) List.not_mem_nil (by rfl)) rfl rfl ?_
    first
      | refine SL.val (Val.lenSl rfl Try.underlying49 (List.length_map _)) rfl rfl ?_
      | refine SL.val (Val.lenOwn rfl (by repeat first|assumption|exact m0|apply m1) Try.underlying49 (List.length_map _)) rfl rfl ?_
      | refine SL.val (Val.lenNil rfl Try.underlying49) rfl rfl ?_
    refine SL.val (Val.gtI rfl rfl) rfl rfl ?_
    refine SL.nil (SE.seq ?_)
    refine SC.condP rfl ?_ ?_
    rotate_left
    · intro hc68
      refine SC.skip ?_
      refine SE.inBlock ?_
      refine SE.seq ?_
      refine SC.region ?_
      first
        | refine SL.val (Val.addI rfl rfl (by simp only [InR, lo, hi]; omega)) rfl rfl ?_
        | refine SL.val (Val.addW rfl rfl) rfl rfl ?_
      refine SL.val (Val.move rfl) rfl rfl ?_
      refine SL.nil ?_
      refine SE.round (z + 1) (by first | omega | (dsimp only; omega)) (⟨by omega, take_all hz.2 hr0 ⟨hy.2 _ (by rw [show y = 2 by omega]; exact List.mem_cons_self), hy.2 _ (by rw [show y = 2 by omega]; exact List.mem_cons_of_mem _ List.mem_cons_self), by omega⟩⟩) (by exact ⟨rfl, rfl, rfl, rfl, trivial⟩) (by repeat first|exact s0 _|exact s1 _|apply s2|apply s3)
    intro hc68
    refine SC.seq (SC.region ?_)
    refine SL.val (Val.assign rfl) rfl rfl ?_
    refine SL.nil (SE.seq ?_)
    refine SC.ret ?_
    refine SE.ret ?_
    refine SE.then_ (by intro h; cases h) ?_
    refine SE.then_ (by intro h; cases h) ?_
    refine SE.ret ?_
    refine SE.then_ (by intro h; cases h) ?_
    refine SE.fin (rs := [.tmp 2]) rfl (RV.tmp rfl RV.nil) (⟨false, fun h => by cases h⟩) (by repeat first|exact s0 _|exact s1 _|apply s2|apply s3) (by simp [It.rids]) ?_
    exact rfl
  intro hc26
  have hr : y < (l[z]'hr0).chg.rows.length := by omega
  refine SC.skip ?_
  refine SE.seq ?_
  refine SC.seq ?_
  refine SC.block ?_
  refine SC.seq (SC.region ?_)
  refine SL.val (Val.indexSl tabOk Try.underlying174 rfl rfl rfl rfl (at_map (by omega)) rfl rfl) rfl rfl ?_
  refine SL.val (Val.load1R tabOk rfl rfl rfl) rfl rfl ?_
  refine SL.val (Val.assign rfl) rfl rfl ?_
  refine SL.nil (SE.seq ?_)
  refine SC.seq ?_
  refine SC.seq (SC.region ?_)
  refine SL.val (Val.move rfl) rfl rfl ?_
  first
    | refine SL.val (Val.lenSl rfl Try.underlying50 (List.length_map _)) rfl rfl ?_
    | refine SL.val (Val.lenOwn rfl (by repeat first|assumption|exact m0|apply m1) Try.underlying50 (List.length_map _)) rfl rfl ?_
    | refine SL.val (Val.lenNil rfl Try.underlying50) rfl rfl ?_
  refine SL.val (Val.gtI rfl rfl) rfl rfl ?_
  refine SL.nil (SE.seq ?_)
  refine SC.condP rfl ?_ ?_
  · intro hc31
    refine SC.seq (SC.region ?_)
    refine SL.val (Val.assign rfl) rfl rfl ?_
    refine SL.nil (SE.seq ?_)
    refine SC.ret ?_
    refine SE.then_ (by intro h; cases h) ?_
    refine SE.ret ?_
    refine SE.then_ (by intro h; cases h) ?_
    refine SE.then_ (by intro h; cases h) ?_
    refine SE.ret ?_
    refine SE.then_ (by intro h; cases h) ?_
    refine SE.ret ?_
    refine SE.then_ (by intro h; cases h) ?_
    refine SE.then_ (by intro h; cases h) ?_
    refine SE.ret ?_
    refine SE.then_ (by intro h; cases h) ?_
    refine SE.fin (rs := [.tmp 2]) rfl (RV.tmp rfl RV.nil) (⟨false, fun h => by cases h⟩) (by repeat first|exact s0 _|exact s1 _|apply s2|apply s3) (by simp [It.rids]) ?_
    exact rfl
  intro hc31
  refine SC.skip ?_
  refine SE.seq ?_
  refine SC.seq (SC.region ?_)
  refine SL.val (Val.move rfl) rfl rfl ?_
  first
    | refine SL.val (Val.lenSl rfl Try.underlying50 (List.length_map _)) rfl rfl ?_
    | refine SL.val (Val.lenOwn rfl (by repeat first|assumption|exact m0|apply m1) Try.underlying50 (List.length_map _)) rfl rfl ?_
    | refine SL.val (Val.lenNil rfl Try.underlying50) rfl rfl ?_
  refine SL.val (Val.move rfl) rfl rfl ?_
  refine SL.nil (SE.seq ?_)
  refine SC.block ?_
  refine SC.loop (ι := Nat) (fun x => [.blk b4 173 (l[z]'hr0).abs]) (fun x => [(0, sgnsA l), (11, sgnsA l), (12, int (l.length : Nat)), (13, int (z : Nat)), (4, ptr b4), (23, .sl 1 ((l[z]'hr0).chg.rows.map fun ps => [prfsA ps])), (24, int (2 : Nat)), (25, int (y : Nat)), (32, prfsA ((l[z]'hr0).chg.rows[y]'hr)), (33, int (((l[z]'hr0).chg.rows[y]'hr).length : Nat)), (34, int (x : Nat))]) (fun x => x ≤ ((l[z]'hr0).chg.rows[y]'hr).length ∧ ∀ p ∈ ((l[z]'hr0).chg.rows[y]'hr).take x, PFew p) (fun x => ((l[z]'hr0).chg.rows[y]'hr).length - x) (0) (⟨Nat.zero_le _, by simp⟩) (by exact ⟨rfl, rfl, rfl, rfl, rfl, rfl, rfl, rfl, rfl, rfl, rfl, trivial⟩) (by repeat first|exact s0 _|exact s1 _|apply s2|apply s3) ?_
  intro x hx
  refine SC.seq (SC.region ?_)
  refine SL.val (Val.ltI rfl rfl) rfl rfl ?_
  refine SL.nil (SE.seq ?_)
  refine SC.seq ?_
  refine SC.condP rfl ?_ ?_
  rotate_left
  · intro hc35
    refine SC.exit ?_
    refine SE.then_ (by intro h; cases h) ?_
    refine SE.then_ (by intro h; cases h) ?_
    refine SE.exit ?_
    refine SE.inBlock ?_
    refine SE.seq ?_
    refine SC.region ?_
    first
      | refine SL.val (Val.addI rfl rfl (by simp only [InR, lo, hi]; omega)) rfl rfl ?_
      | refine SL.val (Val.addW rfl rfl) rfl rfl ?_
    refine SL.val (Val.move rfl) rfl rfl ?_
    refine SL.nil ?_
    refine SE.round (y + 1) (by first | omega | (dsimp only; omega)) (⟨by omega, take_all hy.2 hr ⟨by omega, take_full hx.2 (by omega)⟩⟩) (by exact ⟨rfl, rfl, rfl, rfl, rfl, rfl, rfl, rfl, trivial⟩) (by repeat first|exact s0 _|exact s1 _|apply s2|apply s3)
  intro hc35
  have hr2 : x < ((l[z]'hr0).chg.rows[y]'hr).length := by omega
  refine SC.skip ?_
  refine SE.seq ?_
  refine SC.seq ?_
  refine SC.block ?_
  refine SC.seq (SC.region ?_)
  refine SL.val (Val.indexSl tabOk Try.underlying50 rfl rfl rfl rfl (at_map (by omega)) rfl rfl) rfl rfl ?_
  first
    | refine SL.val (Val.loadAR tabOk rfl rfl rfl (by rfl)) rfl rfl ?_
    | refine SL.val (Val.loadPR tabOk rfl rfl rfl (Nat.le_of_ble_eq_true (by rfl))) rfl rfl ?_
  refine SL.eff (Eff.alloc tabOk rfl) rfl rfl ?_
  rintro _ _ ⟨b8, rfl, rfl⟩
  refine SL.eff (Eff.store tabOk rfl rfl rfl (by repeat first|assumption|exact Upd.here|apply Upd.there) (by rfl) (Nat.le_of_ble_eq_true (by rfl)) (by rfl) (by rfl)) rfl rfl ?_
  rintro _ _ ⟨rfl, rfl⟩
  refine SL.nil (SE.seq ?_)
  refine SC.seq ?_
  refine SC.seq (SC.region ?_)
  refine SL.val (Val.fieldAddr tabOk rfl rfl rfl rfl rfl) rfl rfl ?_
  refine SL.val (Val.load1 tabOk rfl rfl (by first|(apply Or.inl;(repeat first|assumption|exact m0|apply m1);done)|(apply Or.inr;(repeat first|assumption|exact m0|apply m1);done)) List.not_mem_nil (by rfl)) rfl rfl ?_
  first
    | refine SL.val (Val.lenSl rfl Try.underlying22 (List.length_map _)) rfl rfl ?_
    | refine SL.val (Val.lenOwn rfl (by repeat first|assumption|exact m0|apply m1) Try.underlying22 (List.length_map _)) rfl rfl ?_
    | refine SL.val (Val.lenNil rfl Try.underlying22) rfl rfl ?_
  refine SL.val (Val.gtI rfl rfl) rfl rfl ?_
  refine SL.nil (SE.seq ?_)
  refine SC.condP rfl ?_ ?_
  · intro hc41
    refine SC.seq (SC.region ?_)
    refine SL.val (Val.assign rfl) rfl rfl ?_
    refine SL.nil (SE.seq ?_)
    refine SC.ret ?_
    refine SE.then_ (by intro h; cases h) ?_
    refine SE.ret ?_
    refine SE.then_ (by intro h; cases h) ?_
    refine SE.then_ (by intro h; cases h) ?_
    refine SE.ret ?_
    refine SE.ret ?_
    refine SE.then_ (by intro h; cases h) ?_
    refine SE.then_ (by intro h; cases h) ?_
    refine SE.ret ?_
    refine SE.then_ (by intro h; cases h) ?_
    refine SE.ret ?_
    refine SE.then_ (by intro h; cases h) ?_
    refine SE.then_ (by intro h; cases h) ?_
    refine SE.ret ?_
    refine SE.then_ (by intro h; cases h) ?_
    refine SE.fin (rs := [.tmp 2]) rfl (RV.tmp rfl RV.nil) (⟨false, fun h => by cases h⟩) (by repeat first|exact s0 _|exact s1 _|apply s2|apply s3) (by simp [It.rids]) ?_
    exact rfl
  intro hc41
  refine SC.skip ?_
  refine SE.seq ?_
  refine SC.seq (SC.region ?_)
  refine SL.val (Val.fieldAddr tabOk rfl rfl rfl rfl rfl) rfl rfl ?_
  refine SL.val (Val.load1 tabOk rfl rfl (by first|(apply Or.inl;(repeat first|assumption|exact m0|apply m1);done)|(apply Or.inr;(repeat first|assumption|exact m0|apply m1);done)) List.not_mem_nil (by rfl)) rfl rfl ?_
  first
    | refine SL.val (Val.lenSl rfl Try.underlying22 (List.length_map _)) rfl rfl ?_
    | refine SL.val (Val.lenOwn rfl (by repeat first|assumption|exact m0|apply m1) Try.underlying22 (List.length_map _)) rfl rfl ?_
    | refine SL.val (Val.lenNil rfl Try.underlying22) rfl rfl ?_
  refine SL.val (Val.move rfl) rfl rfl ?_
  refine SL.nil (SE.seq ?_)
  refine SC.block ?_
  refine SC.loop (ι := Nat) (fun u => [.blk b4 173 (l[z]'hr0).abs]) (fun u => [(0, sgnsA l), (11, sgnsA l), (12, int (l.length : Nat)), (13, int (z : Nat)), (4, ptr b4), (23, .sl 1 ((l[z]'hr0).chg.rows.map fun ps => [prfsA ps])), (24, int (2 : Nat)), (25, int (y : Nat)), (32, prfsA ((l[z]'hr0).chg.rows[y]'hr)), (33, int (((l[z]'hr0).chg.rows[y]'hr).length : Nat)), (34, int (x : Nat)), (43, entsA (((l[z]'hr0).chg.rows[y]'hr)[x]'hr2).batch), (44, int ((((l[z]'hr0).chg.rows[y]'hr)[x]'hr2).batch.length : Nat)), (45, int (u : Nat))]) (fun u => u ≤ (((l[z]'hr0).chg.rows[y]'hr)[x]'hr2).batch.length ∧ ∀ e ∈ (((l[z]'hr0).chg.rows[y]'hr)[x]'hr2).batch.take u, EFew e) (fun u => (((l[z]'hr0).chg.rows[y]'hr)[x]'hr2).batch.length - u) (0) (⟨Nat.zero_le _, by simp⟩) (by exact ⟨rfl, rfl, rfl, rfl, rfl, rfl, rfl, rfl, rfl, rfl, rfl, rfl, rfl, rfl, trivial⟩) (by repeat first|exact s0 _|exact s1 _|apply s2|apply s3) ?_
  intro u hu
  refine SC.seq (SC.region ?_)
  refine SL.val (Val.ltI rfl rfl) rfl rfl ?_
  refine SL.nil (SE.seq ?_)
  refine SC.seq ?_
  refine SC.condP rfl ?_ ?_
  rotate_left
  · intro hc46
    refine SC.exit ?_
    refine SE.then_ (by intro h; cases h) ?_
    refine SE.then_ (by intro h; cases h) ?_
    refine SE.exit ?_
    refine SE.inBlock ?_
    refine SE.seq ?_
    refine SC.region ?_
    first
      | refine SL.val (Val.addI rfl rfl (by simp only [InR, lo, hi]; omega)) rfl rfl ?_
      | refine SL.val (Val.addW rfl rfl) rfl rfl ?_
    refine SL.val (Val.move rfl) rfl rfl ?_
    refine SL.nil ?_
    refine SE.round (x + 1) (by first | omega | (dsimp only; omega)) (⟨by omega, take_all hx.2 hr2 ⟨by omega, take_full hu.2 (by omega)⟩⟩) (by exact ⟨rfl, rfl, rfl, rfl, rfl, rfl, rfl, rfl, rfl, rfl, rfl, trivial⟩) (by repeat first|exact s0 _|exact s1 _|apply s2|apply s3)
  intro hc46
  have hr3 : u < (((l[z]'hr0).chg.rows[y]'hr)[x]'hr2).batch.length := by omega
  refine SC.skip ?_
  refine SE.seq ?_
  refine SC.seq ?_
  refine SC.block ?_
  refine SC.seq (SC.region ?_)
  refine SL.val (Val.indexSl tabOk Try.underlying22 rfl rfl rfl rfl (at_map (by omega)) rfl rfl) rfl rfl ?_
  first
    | refine SL.val (Val.loadAR tabOk rfl rfl rfl (by rfl)) rfl rfl ?_
    | refine SL.val (Val.loadPR tabOk rfl rfl rfl (Nat.le_of_ble_eq_true (by rfl))) rfl rfl ?_
  refine SL.eff (Eff.alloc tabOk rfl) rfl rfl ?_
  rintro _ _ ⟨b10, rfl, rfl⟩
  refine SL.eff (Eff.store tabOk rfl rfl rfl (by repeat first|assumption|exact Upd.here|apply Upd.there) (by rfl) (Nat.le_of_ble_eq_true (by rfl)) (by rfl) (by rfl)) rfl rfl ?_
  rintro _ _ ⟨rfl, rfl⟩
  refine SL.nil (SE.seq ?_)
  refine SC.seq (SC.region ?_)
  refine SL.val (Val.fieldAddr tabOk rfl rfl rfl rfl rfl) rfl rfl ?_
  refine SL.val (Val.fieldAddr tabOk rfl rfl rfl rfl rfl) rfl rfl ?_
  refine SL.val (Val.load1 tabOk rfl rfl (by first|(apply Or.inl;(repeat first|assumption|exact m0|apply m1);done)|(apply Or.inr;(repeat first|assumption|exact m0|apply m1);done)) List.not_mem_nil (by rfl)) rfl rfl ?_
  refine SL.val (Val.lenSt rfl Try.underlying9) rfl rfl ?_
  refine SL.val (Val.gtI rfl rfl) rfl rfl ?_
  refine SL.val (Val.move rfl) rfl rfl ?_
  refine SL.bothP (t := 54) rfl ?_ ?_
  · intro hc54
    iterate 5 refine SL.skip rfl rfl ?_
    refine SL.val (Val.pickT rfl rfl) rfl rfl ?_
    refine SL.nil (SE.seq ?_)
    refine SC.condT rfl ?_
    refine SC.seq (SC.region ?_)
    refine SL.val (Val.assign rfl) rfl rfl ?_
    refine SL.nil (SE.seq ?_)
    refine SC.ret ?_
    refine SE.ret ?_
    refine SE.then_ (by intro h; cases h) ?_
    refine SE.then_ (by intro h; cases h) ?_
    refine SE.ret ?_
    refine SE.ret ?_
    refine SE.then_ (by intro h; cases h) ?_
    refine SE.then_ (by intro h; cases h) ?_
    refine SE.ret ?_
    refine SE.ret ?_
    refine SE.then_ (by intro h; cases h) ?_
    refine SE.then_ (by intro h; cases h) ?_
    refine SE.ret ?_
    refine SE.then_ (by intro h; cases h) ?_
    refine SE.ret ?_
    refine SE.then_ (by intro h; cases h) ?_
    refine SE.then_ (by intro h; cases h) ?_
    refine SE.ret ?_
    refine SE.then_ (by intro h; cases h) ?_
    refine SE.fin (rs := [.tmp 2]) rfl (RV.tmp rfl RV.nil) (⟨false, fun h => by cases h⟩) (by repeat first|exact s0 _|exact s1 _|apply s2|apply s3) (by simp [It.rids]) ?_
    exact rfl
  intro hc54
  refine SL.val (Val.fieldAddr tabOk rfl rfl rfl rfl rfl) rfl rfl ?_
  refine SL.val (Val.fieldAddr tabOk rfl rfl rfl rfl rfl) rfl rfl ?_
  refine SL.val (Val.load1 tabOk rfl rfl (by first|(apply Or.inl;(repeat first|assumption|exact m0|apply m1);done)|(apply Or.inr;(repeat first|assumption|exact m0|apply m1);done)) List.not_mem_nil (by rfl)) rfl rfl ?_
  refine SL.val (Val.lenSt rfl Try.underlying9) rfl rfl ?_
  refine SL.val (Val.gtI rfl rfl) rfl rfl ?_
  refine SL.val (Val.pickF rfl rfl) rfl rfl ?_
  refine SL.nil (SE.seq ?_)
  refine SC.condP rfl ?_ ?_
  rotate_left
  · intro hc60
    refine SC.skip ?_
    refine SE.inBlock ?_
    refine SE.seq ?_
    refine SC.region ?_
    first
      | refine SL.val (Val.addI rfl rfl (by simp only [InR, lo, hi]; omega)) rfl rfl ?_
      | refine SL.val (Val.addW rfl rfl) rfl rfl ?_
    refine SL.val (Val.move rfl) rfl rfl ?_
    refine SL.nil ?_
    refine SE.round (u + 1) (by first | omega | (dsimp only; omega)) (⟨by omega, take_all hu.2 hr3 ⟨by omega, by omega⟩⟩) (by exact ⟨rfl, rfl, rfl, rfl, rfl, rfl, rfl, rfl, rfl, rfl, rfl, rfl, rfl, rfl, trivial⟩) (by repeat first|exact s0 _|exact s1 _|apply s2|apply s3)
  intro hc60
  refine SC.seq (SC.region ?_)
  refine SL.val (Val.assign rfl) rfl rfl ?_
  refine SL.nil (SE.seq ?_)
  refine SC.ret ?_
  refine SE.ret ?_
  refine SE.then_ (by intro h; cases h) ?_
  refine SE.then_ (by intro h; cases h) ?_
  refine SE.ret ?_
  refine SE.ret ?_
  refine SE.then_ (by intro h; cases h) ?_
  refine SE.then_ (by intro h; cases h) ?_
  refine SE.ret ?_
  refine SE.ret ?_
  refine SE.then_ (by intro h; cases h) ?_
  refine SE.then_ (by intro h; cases h) ?_
  refine SE.ret ?_
  refine SE.then_ (by intro h; cases h) ?_
  refine SE.ret ?_
  refine SE.then_ (by intro h; cases h) ?_
  refine SE.then_ (by intro h; cases h) ?_
  refine SE.ret ?_
  refine SE.then_ (by intro h; cases h) ?_
  refine SE.fin (rs := [.tmp 2]) rfl (RV.tmp rfl RV.nil) (⟨false, fun h => by cases h⟩) (by repeat first|exact s0 _|exact s1 _|apply s2|apply s3) (by simp [It.rids]) ?_
  exact rfl
def c2 : Chg := ⟨2, 0, [p0], [], []⟩
def sgs (k : Nat) : List Sgn := (List.range k).map fun i => ⟨(i : Nat), c2⟩
theorem sgs_succ (k : Nat) : sgs (k + 1) = sgs k ++ [⟨(k : Nat), c2⟩] := by
  unfold sgs
  rw [List.range_succ, List.map_append]
  rfl
theorem sgs_length (k : Nat) : (sgs k).length = k := by simp [sgs]
theorem sgs_all {k : Nat} {Q : Chg → Prop} (h : Q c2) : ∀ s ∈ sgs k, Q s.chg := by
  intro s hs
  unfold sgs at hs
  obtain ⟨i, _, rfl⟩ := List.mem_map.1 hs
  exact h
theorem c2_lits : c2.Lits := ⟨by simp only [InR, lo, hi, c2]; omega, by simp only [InR, lo, hi, c2]; omega, by
  intro p hp
  have : p = p0 := by simpa [c2] using hp
  subst this
  simp only [InR, lo, hi, p0]; omega, by simp [c2], by simp [c2]⟩
theorem c2_few : c2.Few := ⟨by simp [c2], by simp [c2], by simp [c2], by simp [c2], by simp [c2]⟩
theorem c2_sized : c2.Sized := ⟨by simp [c2], by simp [c2, Long], by simp [c2, Long]⟩
theorem c2_length : c2.bytes.length = 62 := by
  unfold Chg.bytes Chg.head prfsB
  simp only [List.length_append, long8_length, beBytes_length, pnts_length, List.length_take, List.length_cons, List.length_nil, c2, List.flatMap_nil]
  omega
theorem c2_right : c2.Right 4 := by
  refine ⟨by simp [c2], by simp [c2], ?_, ⟨by simp [c2], by simp [c2], ?_, ?_, fun j h => ?_⟩, ⟨by simp [c2], rises_nil, by simp [c2]⟩, ⟨by simp [c2], rises_nil, by simp [c2]⟩⟩
  · simp [isMark, isSeq, c2]
  · intro p hp
    have : p0 = p := by simpa [c2] using hp
    subst this
    rfl
  · intro p hp
    have : p = p0 := by simpa [c2] using hp
    subst this
    simp [isMark, isSeq, p0]
  · exfalso
    simp [c2] at h
theorem sgs_get {k j : Nat} (h : j < (sgs k).length) : (sgs k)[j] = ⟨(j : Nat), c2⟩ := by simp [sgs]
theorem sgs_check : chkV 2 (sgs 3) 4 = 0 := by
  have hl := sgs_length 3
  unfold chkV
  rw [if_neg (by omega), if_neg (by omega), if_neg (by omega), yes_iff.2 (sgns_iff.2 fun j h => by
    unfold SgnAt
    rw [sgs_get h]
    refine ⟨⟨by show (0 : Int) ≤ (j : Nat); omega, by show ((j : Nat) : Int) < 4; omega, rfl, c2_right⟩, fun h0 => ?_⟩
    rw [sgs_get (k := 3) (j := j - 1) (by omega)]
    show ((j - 1 : Nat) : Int) < (j : Nat)
    omega)]
  rfl
theorem sgs_proof : chkV 2 ((sgs 3).take 2) 4 = 16 := by
  have hl : ((sgs 3).take 2).length = 2 := by rw [List.length_take, sgs_length]; rfl
  unfold chkV
  rw [if_neg (by omega), if_neg (by omega), if_pos (by omega)]
theorem sgs_all' {k : Nat} {Q : Sgn → Prop} (h : ∀ i : Nat, Q ⟨(i : Nat), c2⟩) : ∀ s ∈ sgs k, Q s := by
  intro s hs
  unfold sgs at hs
  obtain ⟨i, _, rfl⟩ := List.mem_map.1 hs
  exact h i
theorem sgs_bytes : (viewB 2 (sgs 3)).length ≤ 1000 := by
  have h := flat_length (f := Sgn.bytes) (B := 100) (xs := sgs 3) (sgs_all' fun i => by
    have := c2_length
    show (beBytes (u64 _) 1 ++ rowB c2.bytes).length ≤ 100
    unfold rowB
    simp only [List.length_append, beBytes_length]
    omega)
  rw [sgs_length] at h
  unfold viewB
  simp only [List.length_append, beBytes_length]
  omega
theorem sgs_back : parseV (viewB 2 (sgs 3)) 4 = (2, sgs 3, 0) := view_back (by simp only [InR, lo, hi]; omega) (fun s hs => ⟨by
  unfold sgs at hs
  obtain ⟨i, hi, rfl⟩ := List.mem_map.1 hs
  rw [List.mem_range] at hi
  simp only [InR, lo, Proofs.Ytpgffckfbgfgcaa.hi]; omega, sgs_all (Q := Chg.Lits) c2_lits s hs⟩) sgs_check (by have := sgs_bytes; omega)
set_option maxHeartbeats 4000000 in
theorem fixed19_s  : Spec Try.prog 25 [] [] (fun _ : Unit => []) (fun _ => boo true) := by
  have hl3 := sgs_length 3
  have hck := sgs_proof
  have hbl := sgs_bytes
  refine spec_of Try.func25 rfl Try.ntmps25 rfl fun G w => ?_
  refine SC.seq (SC.region ?_)
  refine SL.val (Val.assign rfl) rfl rfl ?_
  refine SL.nil (SE.seq ?_)
  refine SC.seq (SC.region ?_)
  refine SL.val (Val.assign rfl) rfl rfl ?_
  refine SL.nil (SE.seq ?_)
  refine SC.seq ?_
  refine SC.seq (SC.region ?_)
  refine SL.val (Val.move rfl) rfl rfl ?_
  refine SL.nil (SE.seq ?_)
  refine SC.block ?_
  refine SC.own0 173 6 ?_
  refine SC.loop (ι := Nat × Value) (fun z => [own 173 6 z.2 ((sgs z.1).map Sgn.abs)]) (fun z => [(1, .v z.2), (6, int (z.1 : Nat))]) (fun z => z.1 ≤ 3) (fun z => 3 - z.1) (0, .slice none 0 0) (by decide) (by exact ⟨rfl, rfl, trivial⟩) (by repeat first|exact s0 _|exact s1 _|apply s2|apply s3) ?_
  intro z hz
  refine SC.seq (SC.region ?_)
  refine SL.val (Val.ltI rfl rfl) rfl rfl ?_
  refine SL.nil (SE.seq ?_)
  refine SC.seq ?_
  refine SC.condP rfl ?_ ?_
  · intro hc7
    refine SC.skip ?_
    refine SE.seq ?_
    refine SC.seq ?_
    refine SC.block ?_
    refine SC.seq (SC.region ?_)
    refine SL.val (Val.move rfl) rfl rfl ?_
    refine SL.val (Val.assign rfl) rfl rfl ?_
    refine SL.nil (SE.seq ?_)
    refine SC.region ?_
    refine SL.val (Val.move rfl) rfl rfl ?_
    refine SL.val (Val.move rfl) rfl rfl ?_
    refine SL.val (Val.buildS (L := p0.abs) tabOk rfl rfl rfl (by rfl)) rfl rfl ?_
    refine SL.eff (Eff.buildSl tabOk Try.underlying49 rfl rfl rfl (elems_one (Pnt.size p0)) rfl rfl rfl) rfl rfl ?_
    rintro _ _ ⟨rfl, rfl⟩
    refine SL.val (Val.buildS tabOk rfl rfl rfl rfl) rfl rfl ?_
    refine SL.val (Val.buildS tabOk rfl rfl rfl rfl) rfl rfl ?_
    refine SL.cast (t := 14) (.agg (Sgn.abs (⟨(z.1 : Nat), c2⟩ : Sgn))) rfl (cast_agg (Casts.keep (Casts.keep (Casts.keep (Casts.keep (Casts.nils (s := 3) (Casts.nils (s := 3) Casts.refl))))))) ?_
    refine SL.eff (Eff.buildSl tabOk Try.underlying39 rfl rfl rfl rfl rfl rfl rfl) rfl rfl ?_
    rintro _ _ ⟨rfl, rfl⟩
    refine SL.eff (Eff.appendE (zs := (sgs (z.1 + 1)).map Sgn.abs) tabOk [] (by rw [sgs_succ, List.map_append]; rfl) Try.underlying39 rfl rfl rfl rfl rfl rfl (by intro c hc; rw [List.mem_singleton] at hc; subst hc; rfl) (by unfold maxLen; simp only [List.length_map, sgs_length, List.length_cons, List.length_nil]; omega) (by rw [show Try.prog.bytesOf 173 = 96 by kernel_rfl]; simp only [List.length_map, sgs_length, List.length_cons, List.length_nil]; omega)) rfl rfl ?_
    rintro _ _ ⟨r16, rfl, rfl⟩
    refine SL.val (Val.assign rfl) rfl rfl ?_
    refine SL.nil ?_
    refine SE.inBlock ?_
    refine SE.seq ?_
    refine SC.region ?_
    first
      | refine SL.val (Val.addI rfl rfl (by simp only [InR, lo, hi]; omega)) rfl rfl ?_
      | refine SL.val (Val.addW rfl rfl) rfl rfl ?_
    refine SL.val (Val.move rfl) rfl rfl ?_
    refine SL.nil ?_
    refine SE.round (z.1 + 1, r16) (by first | omega | (dsimp only; omega)) (by dsimp only; omega) (by exact ⟨rfl, rfl, trivial⟩) (by repeat first|exact s0 _|exact s1 _|apply s2|apply s3)
  intro hc7
  refine SC.exit ?_
  refine SE.then_ (by intro h; cases h) ?_
  refine SE.then_ (by intro h; cases h) ?_
  refine SE.exit ?_
  refine SE.seq ?_
  refine SC.seq ?_
  have hz3 : z.1 = 3 := by omega
  refine SC.freeze [] (t := 1) rfl rfl ?_
  rw [hz3]
  refine SC.region ?_
  refine SL.val (Val.move rfl) rfl rfl ?_
  refine SL.call (vbytes_s (view := 2) (l := sgs 3) (by omega) (sgs_all (Q := fun c => c.Few ∧ c.bytes.length ≤ 800000) ⟨c2_few, by have := c2_length; omega⟩)) Casts.refl (by kernel_rfl) rfl rfl rfl ?_
  refine After.pure (by repeat first|exact .nil|refine .blk (by repeat first|assumption|exact m0|apply m1) ?_|refine .rd (by repeat first|assumption|exact m0|apply m1) ?_|refine .pc (by repeat first|assumption|exact m0|apply m1) ?_|refine .rdpc (by repeat first|assumption|exact m0|apply m1) ?_) (fun _ => rfl) ?_
  intro _
  refine SL.call ((by have h := vparse_s (l := viewB 2 (sgs 3)) (n := 4) (by omega); rw [sgs_back] at h; exact h : Pure Try.prog 31 [byt (viewB 2 (sgs 3)), int 4] (.tup [int 2, sgnsA (sgs 3), int 0]))) Casts.refl (by kernel_rfl) rfl rfl rfl ?_
  refine After.pure (by repeat first|exact .nil|refine .blk (by repeat first|assumption|exact m0|apply m1) ?_|refine .rd (by repeat first|assumption|exact m0|apply m1) ?_|refine .pc (by repeat first|assumption|exact m0|apply m1) ?_|refine .rdpc (by repeat first|assumption|exact m0|apply m1) ?_) (fun _ => rfl) ?_
  intro _
  refine SL.val (Val.move rfl) rfl rfl ?_
  refine SL.val (Val.extract rfl rfl) rfl rfl ?_
  refine SL.val (Val.extract rfl rfl) rfl rfl ?_
  refine SL.val (Val.extract rfl rfl) rfl rfl ?_
  refine SL.val (Val.assign rfl) rfl rfl ?_
  refine SL.val (Val.assign rfl) rfl rfl ?_
  refine SL.val (Val.assign rfl) rfl rfl ?_
  refine SL.nil (SE.seq ?_)
  refine SC.seq (SC.region ?_)
  refine SL.call (faults_s (n := 7) (by omega)) Casts.refl (by kernel_rfl) rfl rfl rfl ?_
  refine After.pure (by repeat first|exact .nil|refine .blk (by repeat first|assumption|exact m0|apply m1) ?_|refine .rd (by repeat first|assumption|exact m0|apply m1) ?_|refine .pc (by repeat first|assumption|exact m0|apply m1) ?_|refine .rdpc (by repeat first|assumption|exact m0|apply m1) ?_) (fun _ => rfl) ?_
  intro _
  refine SL.val (Val.eqI rfl rfl) rfl rfl ?_
  refine SL.val (Val.move rfl) rfl rfl ?_
  refine SL.bothP (t := 27) rfl ?_ (by intro hc27; exfalso; omega)
  intro hc27
  refine SL.call (quorum_s (n := 4) (by omega)) Casts.refl (by kernel_rfl) rfl rfl rfl ?_
  refine After.pure (by repeat first|exact .nil|refine .blk (by repeat first|assumption|exact m0|apply m1) ?_|refine .rd (by repeat first|assumption|exact m0|apply m1) ?_|refine .pc (by repeat first|assumption|exact m0|apply m1) ?_|refine .rdpc (by repeat first|assumption|exact m0|apply m1) ?_) (fun _ => rfl) ?_
  intro _
  refine SL.val (Val.eqI rfl rfl) rfl rfl ?_
  refine SL.val (Val.pickT rfl rfl) rfl rfl ?_
  refine SL.val (Val.move rfl) rfl rfl ?_
  refine SL.bothP (t := 31) rfl ?_ (by intro hc31; exfalso; omega)
  intro hc31
  refine SL.val (Val.move rfl) rfl rfl ?_
  refine SL.val (Val.eqI rfl rfl) rfl rfl ?_
  refine SL.val (Val.pickT rfl rfl) rfl rfl ?_
  refine SL.val (Val.move rfl) rfl rfl ?_
  refine SL.bothP (t := 35) rfl ?_ (by intro hc35; exfalso; omega)
  intro hc35
  refine SL.val (Val.move rfl) rfl rfl ?_
  refine SL.val (Val.eqI rfl rfl) rfl rfl ?_
  refine SL.val (Val.pickT rfl rfl) rfl rfl ?_
  refine SL.val (Val.move rfl) rfl rfl ?_
  refine SL.bothP (t := 39) rfl ?_ (by intro hc39; exfalso; omega)
  intro hc39
  refine SL.val (Val.move rfl) rfl rfl ?_
  first
    | refine SL.val (Val.lenSl rfl Try.underlying39 (List.length_map _)) rfl rfl ?_
    | refine SL.val (Val.lenOwn rfl (by repeat first|assumption|exact m0|apply m1) Try.underlying39 (List.length_map _)) rfl rfl ?_
    | refine SL.val (Val.lenNil rfl Try.underlying39) rfl rfl ?_
  refine SL.val (Val.eqI rfl rfl) rfl rfl ?_
  refine SL.val (Val.pickT rfl rfl) rfl rfl ?_
  refine SL.val (Val.move rfl) rfl rfl ?_
  refine SL.bothP (t := 44) rfl ?_ (by intro hc44; exfalso; omega)
  intro hc44
  refine SL.val (Val.move rfl) rfl rfl ?_
  refine SL.val (Val.to (C := sgnsA ((sgs 3).take 2)) (Val.sliceHi (q := 2) tabOk Try.underlying39 rfl rfl rfl rfl rfl (by rw [List.length_map]; omega)) (by rw [sgnsA, List.map_take])) rfl rfl ?_
  refine SL.call (vcheck_s (view := 2) (l := (sgs 3).take 2) (n := 4) (by rw [List.length_take]; omega) (fun s hs => sgs_all (Q := Chg.Sized) c2_sized s (List.mem_of_mem_take hs))) Casts.refl (by kernel_rfl) rfl rfl rfl ?_
  refine After.pure (by repeat first|exact .nil|refine .blk (by repeat first|assumption|exact m0|apply m1) ?_|refine .rd (by repeat first|assumption|exact m0|apply m1) ?_|refine .pc (by repeat first|assumption|exact m0|apply m1) ?_|refine .rdpc (by repeat first|assumption|exact m0|apply m1) ?_) (fun _ => rfl) ?_
  intro _
  refine SL.val (Val.eqI rfl rfl) rfl rfl ?_
  refine SL.val (Val.pickT rfl rfl) rfl rfl ?_
  refine SL.val (Val.assign rfl) rfl rfl ?_
  refine SL.nil (SE.seq ?_)
  refine SC.ret ?_
  refine SE.fin (rs := [.tmp 0]) rfl (RV.tmp rfl RV.nil) (()) (by repeat first|exact s0 _|exact s1 _|apply s2|apply s3) (by simp [It.rids]) ?_
  exact congrArg (fun b => Abs.v (Value.bool b)) (decide_eq_true sgs_proof)
theorem NFew.bytes (h : NFew l) : (viewB view l).length ≤ 10000000 := by
  have h1 := flat_length (f := Sgn.bytes) (B := 800005) (xs := l) fun s hs => sgn_le (h.2 s hs).bytes
  have h2 : l.length * 800005 ≤ 10 * 800005 := Nat.mul_le_mul_right _ h.1
  unfold viewB
  simp only [List.length_append, beBytes_length]
  omega
theorem nback_done (h : parseV (viewB view l) n = (view, l, 0)) : retA [boo (yes ((parseV (viewB view l) n).2.1 = l))] = boo true := by
  rw [show yes ((parseV (viewB view l) n).2.1 = l) = true from yes_iff.2 (by rw [h])]
  rfl
set_option maxHeartbeats 4000000 in
theorem nback_s (hv : InR .i64 view) (hs : ∀ s ∈ l, s.Lits) (hl : l.length ≤ 9223372036854775807) : Spec Try.prog 4 [int view, sgnsA l, int n] [] (fun _ : Unit => []) (fun _ => boo true) := by
  refine spec_of Try.func4 rfl Try.ntmps4 rfl fun G w => ?_
  refine SC.seq (SC.region ?_)
  refine SL.val (Val.assign rfl) rfl rfl ?_
  refine SL.nil (SE.seq ?_)
  refine SC.seq ?_
  refine SC.seq (SC.region ?_)
  refine SL.call (fixed19_s) Casts.refl (by kernel_rfl) rfl rfl rfl ?_
  refine After.pure (by repeat first|exact .nil|refine .blk (by repeat first|assumption|exact m0|apply m1) ?_|refine .rd (by repeat first|assumption|exact m0|apply m1) ?_|refine .pc (by repeat first|assumption|exact m0|apply m1) ?_|refine .rdpc (by repeat first|assumption|exact m0|apply m1) ?_) (fun _ => rfl) ?_
  intro _
  refine SL.val (Val.notT rfl) rfl rfl ?_
  refine SL.nil (SE.seq ?_)
  refine SC.condF rfl ?_
  refine SC.skip ?_
  refine SE.seq ?_
  refine SC.seq ?_
  refine SC.seq (SC.region ?_)
  refine SL.val (Val.move rfl) rfl rfl ?_
  refine SL.call (few19_s (l := l) hl) Casts.refl (by kernel_rfl) rfl rfl rfl ?_
  refine After.pure (by repeat first|exact .nil|refine .blk (by repeat first|assumption|exact m0|apply m1) ?_|refine .rd (by repeat first|assumption|exact m0|apply m1) ?_|refine .pc (by repeat first|assumption|exact m0|apply m1) ?_|refine .rdpc (by repeat first|assumption|exact m0|apply m1) ?_) (fun _ => rfl) ?_
  intro b
  refine SL.val (Val.notB rfl) rfl rfl ?_
  refine SL.nil (SE.seq ?_)
  refine SC.cond rfl ?_ ?_
  · intro hc15
    refine SC.seq (SC.region ?_)
    refine SL.val (Val.assign rfl) rfl rfl ?_
    refine SL.nil (SE.seq ?_)
    refine SC.ret ?_
    refine SE.then_ (by intro h; cases h) ?_
    refine SE.fin (rs := [.tmp 6]) rfl (RV.tmp rfl RV.nil) (()) (by repeat first|exact s0 _|exact s1 _|apply s2|apply s3) (by simp [It.rids]) ?_
    first | rfl | exact nback_done hp
  intro hc15
  have hfew := b.2 (by simpa using hc15)
  have hF : ∀ s ∈ l, s.chg.Few ∧ s.chg.bytes.length ≤ 800000 := fun s h => ⟨(hfew.2 s h).few (hs s h).chg, (hfew.2 s h).bytes⟩
  have hbl := hfew.bytes (view := view)
  refine SC.skip ?_
  refine SE.seq ?_
  refine SC.seq (SC.region ?_)
  refine SL.val (Val.move rfl) rfl rfl ?_
  refine SL.val (Val.move rfl) rfl rfl ?_
  refine SL.call (vbytes_s (view := view) (l := l) (by have := hfew.1; omega) hF) Casts.refl (by kernel_rfl) rfl rfl rfl ?_
  refine After.pure (by repeat first|exact .nil|refine .blk (by repeat first|assumption|exact m0|apply m1) ?_|refine .rd (by repeat first|assumption|exact m0|apply m1) ?_|refine .pc (by repeat first|assumption|exact m0|apply m1) ?_|refine .rdpc (by repeat first|assumption|exact m0|apply m1) ?_) (fun _ => rfl) ?_
  intro _
  refine SL.val (Val.assign rfl) rfl rfl ?_
  refine SL.nil (SE.seq ?_)
  refine SC.seq ?_
  refine SC.seq ?_
  refine SC.draw [] (.q 0 (.q 1 (.q 2 (.q 4 (.q 5 (.q 6 (.e 3 (.e 7 (.q 8 (.q 9 (.q 10 (.q 11 (.q 12 (.q 13 (.e 14 (.q 15 (.q 16 (.q 17 .nil)))))))))))))))))) (by kernel_rfl) (by kernel_rfl) ?_
  refine SX.val rfl (Val.move rfl) (by simp) rfl rfl ?_
  refine SX.val rfl (Val.move rfl) (by simp) rfl rfl ?_
  refine SX.val rfl (Val.move rfl) (by simp) rfl rfl ?_
  refine SX.val rfl (Val.move rfl) (by simp) rfl rfl ?_
  refine SX.val rfl (Val.move rfl) (by simp) rfl rfl ?_
  refine SX.val rfl (Val.move rfl) (by simp) rfl rfl ?_
  refine SX.call rfl (vcheck_s (view := view) (l := l) (n := n) (by have := hfew.1; omega) (fun s hs => (hfew.2 s hs).sized)) (by simp [mids, It.mids]) Casts.refl (by kernel_rfl) rfl rfl rfl ?_
  refine After.pure (by repeat first|exact .nil|refine .blk (by repeat first|assumption|exact m0|apply m1) ?_|refine .rd (by repeat first|assumption|exact m0|apply m1) ?_|refine .pc (by repeat first|assumption|exact m0|apply m1) ?_|refine .rdpc (by repeat first|assumption|exact m0|apply m1) ?_) (fun _ => rfl) ?_
  intro _
  refine SX.call rfl (rvcheck_s (view := view) (l := l) (n := n) (by have := hfew.1; omega) (fun s hs => (hfew.2 s hs).fit)) (by simp [mids, It.mids]) Casts.refl (by kernel_rfl) rfl rfl rfl ?_
  refine After.pure (by repeat first|exact .nil|refine .blk (by repeat first|assumption|exact m0|apply m1) ?_|refine .rd (by repeat first|assumption|exact m0|apply m1) ?_|refine .pc (by repeat first|assumption|exact m0|apply m1) ?_|refine .rdpc (by repeat first|assumption|exact m0|apply m1) ?_) (fun _ => rfl) ?_
  intro _
  refine SX.val rfl (Val.neI rfl rfl) (by simp) rfl rfl ?_
  refine SX.val rfl (Val.move rfl) (by simp) rfl rfl ?_
  refine SX.bothP (t := 28) rfl (by intro hc28; exfalso; omega) ?_
  intro hc28
  refine SX.val rfl (Val.move rfl) (by simp) rfl rfl ?_
  refine SX.val rfl (Val.strOf rfl) (by simp) rfl rfl ?_
  refine SX.val rfl (Val.move rfl) (by simp) rfl rfl ?_
  refine SX.val rfl (Val.move rfl) (by simp) rfl rfl ?_
  refine SX.call rfl (rvbytes_s (view := view) (l := l) (by have := hfew.1; omega) hF) (by simp [mids, It.mids]) Casts.refl (by kernel_rfl) rfl rfl rfl ?_
  refine After.pure (by repeat first|exact .nil|refine .blk (by repeat first|assumption|exact m0|apply m1) ?_|refine .rd (by repeat first|assumption|exact m0|apply m1) ?_|refine .pc (by repeat first|assumption|exact m0|apply m1) ?_|refine .rdpc (by repeat first|assumption|exact m0|apply m1) ?_) (fun _ => rfl) ?_
  intro _
  refine SX.val rfl (Val.strOf rfl) (by simp) rfl rfl ?_
  refine SX.val rfl (Val.neS rfl rfl) (by simp) rfl rfl ?_
  refine SX.val rfl (Val.pickF rfl rfl) (by simp) rfl rfl ?_
  refine SX.nil (SE.seq ?_)
  refine SC.condP rfl (by intro hc36; exfalso; exact hc36 rfl) ?_
  intro hc36
  refine SC.skip ?_
  refine SE.seq ?_
  refine SC.seq (SC.region ?_)
  refine SL.val (Val.move rfl) rfl rfl ?_
  refine SL.val (Val.move rfl) rfl rfl ?_
  refine SL.call (vparse_s (l := viewB view l) (n := n) hfew.bytes) Casts.refl (by kernel_rfl) rfl rfl rfl ?_
  refine After.pure (by repeat first|exact .nil|refine .blk (by repeat first|assumption|exact m0|apply m1) ?_|refine .rd (by repeat first|assumption|exact m0|apply m1) ?_|refine .pc (by repeat first|assumption|exact m0|apply m1) ?_|refine .rdpc (by repeat first|assumption|exact m0|apply m1) ?_) (fun _ => rfl) ?_
  intro _
  refine SL.val (Val.move rfl) rfl rfl ?_
  refine SL.val (Val.extract rfl rfl) rfl rfl ?_
  refine SL.val (Val.extract rfl rfl) rfl rfl ?_
  refine SL.val (Val.extract rfl rfl) rfl rfl ?_
  refine SL.val (Val.assign rfl) rfl rfl ?_
  refine SL.val (Val.assign rfl) rfl rfl ?_
  refine SL.val (Val.assign rfl) rfl rfl ?_
  refine SL.nil (SE.seq ?_)
  refine SC.seq (SC.region ?_)
  refine SL.val (Val.move rfl) rfl rfl ?_
  refine SL.val (Val.move rfl) rfl rfl ?_
  refine SL.val (Val.move rfl) rfl rfl ?_
  refine SL.call (rvcheck_s (view := view) (l := l) (n := n) (by have := hfew.1; omega) (fun s hs => (hfew.2 s hs).fit)) Casts.refl (by kernel_rfl) rfl rfl rfl ?_
  refine After.pure (by repeat first|exact .nil|refine .blk (by repeat first|assumption|exact m0|apply m1) ?_|refine .rd (by repeat first|assumption|exact m0|apply m1) ?_|refine .pc (by repeat first|assumption|exact m0|apply m1) ?_|refine .rdpc (by repeat first|assumption|exact m0|apply m1) ?_) (fun _ => rfl) ?_
  intro _
  refine SL.val (Val.neI rfl rfl) rfl rfl ?_
  refine SL.val (Val.move rfl) rfl rfl ?_
  refine SL.bothP (t := 49) rfl ?_ ?_
  · intro hc49
    iterate 12 refine SL.skip rfl rfl ?_
    refine SL.val (Val.pickT rfl rfl) rfl rfl ?_
    refine SL.val (Val.assign rfl) rfl rfl ?_
    refine SL.nil (SE.seq ?_)
    refine SC.ret ?_
    refine SE.fin (rs := [.tmp 6]) rfl (RV.tmp rfl RV.nil) (()) (by repeat first|exact s0 _|exact s1 _|apply s2|apply s3) (by simp [It.rids]) ?_
    first | rfl | exact nback_done hp
  intro hc49
  have hp : (parseV (viewB view l) n) = (view, l, 0) := view_back hv hs (by simpa using hc49) (by omega)
  have hp1 : (parseV (viewB view l) n).1 = view := by rw [hp]
  have hp2 : (parseV (viewB view l) n).2.2 = 0 := by rw [hp]
  refine SL.val (Val.move rfl) rfl rfl ?_
  refine SL.val (Val.eqI rfl rfl) rfl rfl ?_
  refine SL.val (Val.move rfl) rfl rfl ?_
  refine SL.bothP (t := 52) rfl ?_ (by intro hc52; exfalso; omega)
  intro hc52
  refine SL.val (Val.move rfl) rfl rfl ?_
  refine SL.val (Val.move rfl) rfl rfl ?_
  refine SL.val (Val.eqI rfl rfl) rfl rfl ?_
  refine SL.val (Val.pickT rfl rfl) rfl rfl ?_
  refine SL.val (Val.move rfl) rfl rfl ?_
  refine SL.bothP (t := 57) rfl ?_ (by intro hc57; exfalso; omega)
  intro hc57
  refine SL.val (Val.move rfl) rfl rfl ?_
  refine SL.val (Val.move rfl) rfl rfl ?_
  refine SL.call (rvsame_s (xs := (parseV (viewB view l) n).2.1) (ys := l) (by rw [hp]; have := hfew.1; show l.length < _; omega) (by rw [hp]; exact fun s hs => (hfew.2 s hs).sized) (by rw [hp]; exact fun s h => (hs s h).chg) (fun s h => (hs s h).chg)) Casts.refl (by kernel_rfl) rfl rfl rfl ?_
  refine After.pure (by repeat first|exact .nil|refine .blk (by repeat first|assumption|exact m0|apply m1) ?_|refine .rd (by repeat first|assumption|exact m0|apply m1) ?_|refine .pc (by repeat first|assumption|exact m0|apply m1) ?_|refine .rdpc (by repeat first|assumption|exact m0|apply m1) ?_) (fun _ => rfl) ?_
  intro _
  refine SL.val (Val.pickT rfl rfl) rfl rfl ?_
  refine SL.val (Val.pickF rfl rfl) rfl rfl ?_
  refine SL.val (Val.assign rfl) rfl rfl ?_
  refine SL.nil (SE.seq ?_)
  refine SC.ret ?_
  refine SE.fin (rs := [.tmp 6]) rfl (RV.tmp rfl RV.nil) (()) (by repeat first|exact s0 _|exact s1 _|apply s2|apply s3) (by simp [It.rids]) ?_
  first | rfl | exact nback_done hp
theorem rsgns_all (Q : Chg → Prop) {n : Int} {B : Nat} (hQ : ∀ l : List UInt8, l.length ≤ B → Q (rparseC l n).1) : ∀ (k : Nat) (s : Rd) (acc : List Sgn) (ok : Bool), s.l.length ≤ B → (∀ x ∈ acc, Q x.chg) → (Rd.rsgns n k s acc ok).1.length ≤ acc.length + k ∧ ∀ x ∈ (Rd.rsgns n k s acc ok).1, Q x.chg
  | 0, _, _, _, _, h => ⟨Nat.le_refl _, h⟩
  | k + 1, s, acc, ok, hB, h => by
    unfold Rd.rsgns
    split
    · exact ⟨by dsimp only; omega, h⟩
    · have h2 := s.fixed_length 1
      have h4 := Rd.row_length (s.fixed 1) 1048576
      have h5 : ((s.fixed 1).rowOut 1048576).length ≤ (s.fixed 1).l.length := Rd.rowOut_length _ _
      have h6 := rsgns_all Q hQ k ((s.fixed 1).row 1048576) (acc ++ [⟨(s.num 1 : Nat), (rparseC ((s.fixed 1).rowOut 1048576) n).1⟩]) (ok && decide ((rparseC ((s.fixed 1).rowOut 1048576) n).2 = 0)) (by omega) (fun x hx => by
        rcases List.mem_append.1 hx with hx | hx
        · exact h x hx
        · rw [List.mem_singleton.1 hx]; exact hQ _ (by omega))
      refine ⟨?_, h6.2⟩
      have h7 := h6.1
      rw [List.length_append, List.length_singleton] at h7
      omega
theorem rparseV_read {l : List UInt8} {n : Int} (hl : l.length ≤ 100000) : (rparseV l n).2.1.length < 9223372036854775807 ∧ ∀ s ∈ (rparseV l n).2.1, s.chg.Sized ∧ s.chg.Lits := by
  have hof : (Rd.of l).l = l := rfl
  have q1 := (Rd.of l).fixed_length 8
  have q3 := Rd.count_length (Rd.vHead l) 7
  have q4 := Rd.countN_lt (Rd.vHead l) 7
  unfold Rd.vHead at q3
  rw [hof] at q1
  have h := rsgns_all (fun c => c.Sized ∧ c.Lits) (n := n) (B := 100000) (fun l hl => ⟨(rparseC_fit hl).toSized, (rparseC_read (by omega)).lits⟩) ((Rd.vHead l).countN 7) ((Rd.vHead l).count 7) [] true (by unfold Rd.vHead; omega) (by simp)
  have h2 : (Rd.rvSgns l n).1.length < 9223372036854775807 := by
    have h3 := h.1
    rw [List.length_nil] at h3
    show (Rd.rsgns n _ _ [] true).1.length < _
    omega
  unfold rparseV
  split
  · exact ⟨by simp, by simp⟩
  · split
    · exact ⟨by simp, by simp⟩
    · exact ⟨h2, h.2⟩
variable {b : List UInt8}
set_option maxHeartbeats 4000000 in
theorem nreads_s  : Spec Try.prog 5 [byt b, int n] [] (fun _ : Unit => []) (fun _ => boo true) := by
  refine spec_of Try.func5 rfl Try.ntmps5 rfl fun G w => ?_
  refine SC.seq (SC.region ?_)
  refine SL.val (Val.assign rfl) rfl rfl ?_
  refine SL.nil (SE.seq ?_)
  refine SC.seq ?_
  refine SC.seq (SC.region ?_)
  refine SL.call (fixed19_s) Casts.refl (by kernel_rfl) rfl rfl rfl ?_
  refine After.pure (by repeat first|exact .nil|refine .blk (by repeat first|assumption|exact m0|apply m1) ?_|refine .rd (by repeat first|assumption|exact m0|apply m1) ?_|refine .pc (by repeat first|assumption|exact m0|apply m1) ?_|refine .rdpc (by repeat first|assumption|exact m0|apply m1) ?_) (fun _ => rfl) ?_
  intro _
  refine SL.val (Val.notT rfl) rfl rfl ?_
  refine SL.nil (SE.seq ?_)
  refine SC.condF rfl ?_
  refine SC.skip ?_
  refine SE.seq ?_
  refine SC.seq ?_
  refine SC.seq (SC.region ?_)
  refine SL.val (Val.move rfl) rfl rfl ?_
  first
    | refine SL.val (Val.lenSl rfl Try.underlying34 (List.length_map _)) rfl rfl ?_
    | refine SL.val (Val.lenOwn rfl (by repeat first|assumption|exact m0|apply m1) Try.underlying34 (List.length_map _)) rfl rfl ?_
    | refine SL.val (Val.lenNil rfl Try.underlying34) rfl rfl ?_
  refine SL.val (Val.gtI rfl rfl) rfl rfl ?_
  refine SL.nil (SE.seq ?_)
  refine SC.condP rfl ?_ ?_
  · intro hc15
    refine SC.seq (SC.region ?_)
    refine SL.val (Val.assign rfl) rfl rfl ?_
    refine SL.nil (SE.seq ?_)
    refine SC.ret ?_
    refine SE.then_ (by intro h; cases h) ?_
    refine SE.fin (rs := [.tmp 4]) rfl (RV.tmp rfl RV.nil) (()) (by repeat first|exact s0 _|exact s1 _|apply s2|apply s3) (by simp [It.rids]) ?_
    first | rfl | (rw [show yes ((rparseV b n).2.1 = (rparseV b n).2.1) = true from yes_iff.2 rfl]; rfl)
  intro hc15
  have hr := rparseV_read (l := b) (n := n) (by omega)
  refine SC.skip ?_
  refine SE.seq ?_
  refine SC.seq (SC.region ?_)
  refine SL.val (Val.move rfl) rfl rfl ?_
  refine SL.val (Val.move rfl) rfl rfl ?_
  refine SL.call ((by have h := vparse_s (l := b) (n := n) (by omega); rw [parseV_two (by omega)] at h; exact h : Pure Try.prog 31 [byt b, int n] (.tup [int (rparseV b n).1, sgnsA (rparseV b n).2.1, int (rparseV b n).2.2]))) Casts.refl (by kernel_rfl) rfl rfl rfl ?_
  refine After.pure (by repeat first|exact .nil|refine .blk (by repeat first|assumption|exact m0|apply m1) ?_|refine .rd (by repeat first|assumption|exact m0|apply m1) ?_|refine .pc (by repeat first|assumption|exact m0|apply m1) ?_|refine .rdpc (by repeat first|assumption|exact m0|apply m1) ?_) (fun _ => rfl) ?_
  intro _
  refine SL.val (Val.move rfl) rfl rfl ?_
  refine SL.val (Val.extract rfl rfl) rfl rfl ?_
  refine SL.val (Val.extract rfl rfl) rfl rfl ?_
  refine SL.val (Val.extract rfl rfl) rfl rfl ?_
  refine SL.val (Val.assign rfl) rfl rfl ?_
  refine SL.val (Val.assign rfl) rfl rfl ?_
  refine SL.val (Val.assign rfl) rfl rfl ?_
  refine SL.nil (SE.seq ?_)
  refine SC.seq (SC.region ?_)
  refine SL.val (Val.move rfl) rfl rfl ?_
  refine SL.val (Val.move rfl) rfl rfl ?_
  refine SL.call (rvparse_s (l := b) (n := n) (by omega)) Casts.refl (by kernel_rfl) rfl rfl rfl ?_
  refine After.pure (by repeat first|exact .nil|refine .blk (by repeat first|assumption|exact m0|apply m1) ?_|refine .rd (by repeat first|assumption|exact m0|apply m1) ?_|refine .pc (by repeat first|assumption|exact m0|apply m1) ?_|refine .rdpc (by repeat first|assumption|exact m0|apply m1) ?_) (fun _ => rfl) ?_
  intro _
  refine SL.val (Val.move rfl) rfl rfl ?_
  refine SL.val (Val.extract rfl rfl) rfl rfl ?_
  refine SL.val (Val.extract rfl rfl) rfl rfl ?_
  refine SL.val (Val.extract rfl rfl) rfl rfl ?_
  refine SL.val (Val.assign rfl) rfl rfl ?_
  refine SL.val (Val.assign rfl) rfl rfl ?_
  refine SL.val (Val.assign rfl) rfl rfl ?_
  refine SL.nil (SE.seq ?_)
  refine SC.seq ?_
  refine SC.seq (SC.region ?_)
  refine SL.val (Val.move rfl) rfl rfl ?_
  refine SL.val (Val.leI rfl rfl) rfl rfl ?_
  refine SL.val (Val.move rfl) rfl rfl ?_
  refine SL.bothP (t := 32) rfl ?_ ?_
  rotate_left
  · intro hc32
    iterate 14 refine SL.skip rfl rfl ?_
    refine SL.val (Val.pickF rfl rfl) rfl rfl ?_
    refine SL.nil (SE.seq ?_)
    refine SC.condF rfl ?_
    refine SC.skip ?_
    refine SE.seq ?_
    refine SC.seq (SC.region ?_)
    refine SL.val (Val.move rfl) rfl rfl ?_
    refine SL.val (Val.move rfl) rfl rfl ?_
    refine SL.val (Val.eqI rfl rfl) rfl rfl ?_
    refine SL.val (Val.move rfl) rfl rfl ?_
    refine SL.bothP (t := 51) rfl ?_ (by intro hc51; exfalso; omega)
    intro hc51
    refine SL.val (Val.move rfl) rfl rfl ?_
    refine SL.val (Val.move rfl) rfl rfl ?_
    refine SL.val (Val.eqI rfl rfl) rfl rfl ?_
    refine SL.val (Val.pickT rfl rfl) rfl rfl ?_
    refine SL.val (Val.move rfl) rfl rfl ?_
    refine SL.bothP (t := 56) rfl ?_ (by intro hc56; exfalso; omega)
    intro hc56
    refine SL.val (Val.move rfl) rfl rfl ?_
    refine SL.val (Val.move rfl) rfl rfl ?_
    refine SL.call (rvsame_s (xs := (rparseV b n).2.1) (ys := (rparseV b n).2.1) hr.1 (fun s h => (hr.2 s h).1) (fun s h => (hr.2 s h).2) (fun s h => (hr.2 s h).2)) Casts.refl (by kernel_rfl) rfl rfl rfl ?_
    refine After.pure (by repeat first|exact .nil|refine .blk (by repeat first|assumption|exact m0|apply m1) ?_|refine .rd (by repeat first|assumption|exact m0|apply m1) ?_|refine .pc (by repeat first|assumption|exact m0|apply m1) ?_|refine .rdpc (by repeat first|assumption|exact m0|apply m1) ?_) (fun _ => rfl) ?_
    intro _
    refine SL.val (Val.pickT rfl rfl) rfl rfl ?_
    refine SL.val (Val.assign rfl) rfl rfl ?_
    refine SL.nil (SE.seq ?_)
    refine SC.ret ?_
    refine SE.fin (rs := [.tmp 4]) rfl (RV.tmp rfl RV.nil) (()) (by repeat first|exact s0 _|exact s1 _|apply s2|apply s3) (by simp [It.rids]) ?_
    first | rfl | (rw [show yes ((rparseV b n).2.1 = (rparseV b n).2.1) = true from yes_iff.2 rfl]; rfl)
  intro hc32
  refine SL.val (Val.move rfl) rfl rfl ?_
  refine SL.call (faults_s (n := n) (by omega)) Casts.refl (by kernel_rfl) rfl rfl rfl ?_
  refine After.pure (by repeat first|exact .nil|refine .blk (by repeat first|assumption|exact m0|apply m1) ?_|refine .rd (by repeat first|assumption|exact m0|apply m1) ?_|refine .pc (by repeat first|assumption|exact m0|apply m1) ?_|refine .rdpc (by repeat first|assumption|exact m0|apply m1) ?_) (fun _ => rfl) ?_
  intro _
  refine SL.val (Val.move rfl) rfl rfl ?_
  refine SL.call (rfaults_s (n := n) (by omega)) Casts.refl (by kernel_rfl) rfl rfl rfl ?_
  refine After.pure (by repeat first|exact .nil|refine .blk (by repeat first|assumption|exact m0|apply m1) ?_|refine .rd (by repeat first|assumption|exact m0|apply m1) ?_|refine .pc (by repeat first|assumption|exact m0|apply m1) ?_|refine .rdpc (by repeat first|assumption|exact m0|apply m1) ?_) (fun _ => rfl) ?_
  intro _
  refine SL.val (Val.neI rfl rfl) rfl rfl ?_
  refine SL.val (Val.move rfl) rfl rfl ?_
  refine SL.bothP (t := 38) rfl (by intro hc38; exfalso; omega) ?_
  intro hc38
  refine SL.val (Val.move rfl) rfl rfl ?_
  refine SL.call (quorum_s (n := n) (by omega)) Casts.refl (by kernel_rfl) rfl rfl rfl ?_
  refine After.pure (by repeat first|exact .nil|refine .blk (by repeat first|assumption|exact m0|apply m1) ?_|refine .rd (by repeat first|assumption|exact m0|apply m1) ?_|refine .pc (by repeat first|assumption|exact m0|apply m1) ?_|refine .rdpc (by repeat first|assumption|exact m0|apply m1) ?_) (fun _ => rfl) ?_
  intro _
  refine SL.val (Val.move rfl) rfl rfl ?_
  refine SL.call (rfaults_s (n := n) (by omega)) Casts.refl (by kernel_rfl) rfl rfl rfl ?_
  refine After.pure (by repeat first|exact .nil|refine .blk (by repeat first|assumption|exact m0|apply m1) ?_|refine .rd (by repeat first|assumption|exact m0|apply m1) ?_|refine .pc (by repeat first|assumption|exact m0|apply m1) ?_|refine .rdpc (by repeat first|assumption|exact m0|apply m1) ?_) (fun _ => rfl) ?_
  intro _
  first
    | refine SL.val (Val.mulI rfl rfl (by simp only [InR, lo, hi]; omega)) rfl rfl ?_
    | refine SL.val (Val.mulW rfl rfl) rfl rfl ?_
  first
    | refine SL.val (Val.addI rfl rfl (by simp only [InR, lo, hi]; omega)) rfl rfl ?_
    | refine SL.val (Val.addW rfl rfl) rfl rfl ?_
  refine SL.val (Val.neI rfl rfl) rfl rfl ?_
  refine SL.val (Val.pickF rfl rfl) rfl rfl ?_
  refine SL.val (Val.pickT rfl rfl) rfl rfl ?_
  refine SL.nil (SE.seq ?_)
  refine SC.condP rfl (by intro hc47; exfalso; omega) ?_
  intro hc47
  refine SC.skip ?_
  refine SE.seq ?_
  refine SC.seq (SC.region ?_)
  refine SL.val (Val.move rfl) rfl rfl ?_
  refine SL.val (Val.move rfl) rfl rfl ?_
  refine SL.val (Val.eqI rfl rfl) rfl rfl ?_
  refine SL.val (Val.move rfl) rfl rfl ?_
  refine SL.bothP (t := 51) rfl ?_ (by intro hc51; exfalso; omega)
  intro hc51
  refine SL.val (Val.move rfl) rfl rfl ?_
  refine SL.val (Val.move rfl) rfl rfl ?_
  refine SL.val (Val.eqI rfl rfl) rfl rfl ?_
  refine SL.val (Val.pickT rfl rfl) rfl rfl ?_
  refine SL.val (Val.move rfl) rfl rfl ?_
  refine SL.bothP (t := 56) rfl ?_ (by intro hc56; exfalso; omega)
  intro hc56
  refine SL.val (Val.move rfl) rfl rfl ?_
  refine SL.val (Val.move rfl) rfl rfl ?_
  refine SL.call (rvsame_s (xs := (rparseV b n).2.1) (ys := (rparseV b n).2.1) hr.1 (fun s h => (hr.2 s h).1) (fun s h => (hr.2 s h).2) (fun s h => (hr.2 s h).2)) Casts.refl (by kernel_rfl) rfl rfl rfl ?_
  refine After.pure (by repeat first|exact .nil|refine .blk (by repeat first|assumption|exact m0|apply m1) ?_|refine .rd (by repeat first|assumption|exact m0|apply m1) ?_|refine .pc (by repeat first|assumption|exact m0|apply m1) ?_|refine .rdpc (by repeat first|assumption|exact m0|apply m1) ?_) (fun _ => rfl) ?_
  intro _
  refine SL.val (Val.pickT rfl rfl) rfl rfl ?_
  refine SL.val (Val.assign rfl) rfl rfl ?_
  refine SL.nil (SE.seq ?_)
  refine SC.ret ?_
  refine SE.fin (rs := [.tmp 4]) rfl (RV.tmp rfl RV.nil) (()) (by repeat first|exact s0 _|exact s1 _|apply s2|apply s3) (by simp [It.rids]) ?_
  first | rfl | (rw [show yes ((rparseV b n).2.1 = (rparseV b n).2.1) = true from yes_iff.2 rfl]; rfl)
end
end Go.Proofs.Ytpgffckfbgfgcaa.A
