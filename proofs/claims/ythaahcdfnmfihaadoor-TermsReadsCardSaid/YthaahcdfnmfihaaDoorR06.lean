/-
  Packed out of the texts: TM5, TPri, A23, TM6, TM7, TM8.
-/
import Derived.Test.YthaahcdfnmfihaaDoorR05
import Derived.Lib.AppendStr
/-
  Policies' texts: the document's parser.
-/
set_option maxRecDepth 100000
set_option linter.unusedSimpArgs false
set_option linter.unusedVariables false
namespace Go.Proofs.YthaahcdfnmfihaaDoor.A
open Go.RowKit

section
variable {l wd : Txt} {k : Nat} {d n : Int}
theorem cut_digs {z : Nat} (h : ∀ j (hj : j < l.length), j < z → isDig l[j] = true) (hz : z ≤ l.length) (hs : ∀ hq : z < l.length, ¬ isDig (l[z]'hq) = true) : z = (digs l).length := by
  rcases Nat.lt_or_ge z l.length with h1 | h1
  · exact (digs_stop h1 h (hs h1)).symm
  · exact ((digs_all fun j hj => h j hj (by omega)).trans (by omega)).symm
set_option maxHeartbeats 2000000 in
theorem rnumber_s (hl : l.length ≤ 100000) : Spec Tryd.prog 32 [stA l] [] (fun _ : Unit => []) (fun _ => .tup [int (numF l).1, stA (numF l).2.1, boo (numF l).2.2]) := by
  have hdl := digs_len l
  refine spec_of Tryd.func32 rfl Tryd.ntmps32 rfl fun G w => ?_
  refine SC.seq (SC.region ?_)
  refine SL.val (Val.assign rfl) rfl rfl ?_
  refine SL.val (Val.assign rfl) rfl rfl ?_
  refine SL.val (Val.assign rfl) rfl rfl ?_
  refine SL.nil (SE.seq ?_)
  refine SC.seq (SC.region ?_)
  refine SL.val (Val.assign rfl) rfl rfl ?_
  refine SL.val (Val.assign rfl) rfl rfl ?_
  refine SL.nil (SE.seq ?_)
  refine SC.cutS (ι := Unit) (fun z => []) (fun z => [(0, stA l), (5, int ((digs l).length : Nat)), (6, int (decV (l.take (min (digs l).length 5)) : Nat))]) (fun z => True) ?_ ?_
  · skip
    refine SC.block ?_
    refine SC.loop (ι := Nat) (fun z => []) (fun z => [(0, stA l), (5, int (z : Nat)), (6, int (decV (l.take (min z 5)) : Nat))]) (fun z => z ≤ l.length ∧ ∀ j (hj : j < l.length), j < z → isDig l[j] = true) (fun z => l.length - z) (0) (⟨Nat.zero_le _, fun j _ h => absurd h (by omega)⟩) (by exact ⟨rfl, rfl, rfl, trivial⟩) (by repeat first|exact s0 _|exact s1 _|apply s2|apply s3) ?_
    intro z hz
    refine SC.seq ?_
    refine SC.seq (SC.region ?_)
    refine SL.val (Val.move rfl) rfl rfl ?_
    refine SL.val (Val.move rfl) rfl rfl ?_
    refine SL.val (Val.to (C := int ((l.length : Nat) : Int)) (Val.lenSt rfl Tryd.underlying9) rfl) rfl rfl ?_
    refine SL.val (Val.ltI rfl rfl) rfl rfl ?_
    refine SL.val (Val.move rfl) rfl rfl ?_
    refine SL.bothP (t := 11) rfl ?_ ?_
    rotate_left
    · intro hc11
      iterate 4 refine SL.skip rfl rfl ?_
      refine SL.val (Val.pickF rfl rfl) rfl rfl ?_
      refine SL.val (Val.move rfl) rfl rfl ?_
      iterate 4 refine SL.skip rfl rfl ?_
      refine SL.val (Val.pickF rfl rfl) rfl rfl ?_
      refine SL.nil (SE.seq ?_)
      refine SC.condF rfl ?_
      refine SC.exit ?_
      refine SE.then_ (by intro h; cases h) ?_
      refine SE.then_ (by intro h; cases h) ?_
      refine SE.exit ?_
      have hdz := cut_digs hz.2 hz.1 fun hq2 hdd => by
        have h3 := of_decide_eq_true (show decide (48 ≤ (l[z]'hq2).toNat ∧ (l[z]'hq2).toNat ≤ 57) = true from hdd)
        omega
      refine SE.meet (()) (trivial) (by exact ⟨rfl, congrArg (fun k : Nat => some (int (k : Nat))) hdz, congrArg (fun k : Nat => some (int (decV (l.take (min k 5)) : Nat))) hdz, trivial⟩) (by repeat first|exact s0 _|exact s1 _|apply s2|apply s3)
    intro hc11
    have hq : z < l.length := by omega
    refine SL.val (Val.move rfl) rfl rfl ?_
    refine SL.val (Val.move rfl) rfl rfl ?_
    refine SL.val (Val.to (C := .v (.int .u8 ((l[z]'hq).toNat : Nat))) (Val.indexSt (s := ⟨l.toArray⟩) (q := z) rfl rfl rfl hq Tryd.underlying9) rfl) rfl rfl ?_
    refine SL.val (Val.geI rfl rfl) rfl rfl ?_
    refine SL.val (Val.pickT rfl rfl) rfl rfl ?_
    refine SL.val (Val.move rfl) rfl rfl ?_
    refine SL.bothP (t := 17) rfl ?_ ?_
    rotate_left
    · intro hc17
      iterate 4 refine SL.skip rfl rfl ?_
      refine SL.val (Val.pickF rfl rfl) rfl rfl ?_
      refine SL.nil (SE.seq ?_)
      refine SC.condF rfl ?_
      refine SC.exit ?_
      refine SE.then_ (by intro h; cases h) ?_
      refine SE.then_ (by intro h; cases h) ?_
      refine SE.exit ?_
      have hdz := cut_digs hz.2 hz.1 fun hq2 hdd => by
        have h3 := of_decide_eq_true (show decide (48 ≤ (l[z]'hq2).toNat ∧ (l[z]'hq2).toNat ≤ 57) = true from hdd)
        omega
      refine SE.meet (()) (trivial) (by exact ⟨rfl, congrArg (fun k : Nat => some (int (k : Nat))) hdz, congrArg (fun k : Nat => some (int (decV (l.take (min k 5)) : Nat))) hdz, trivial⟩) (by repeat first|exact s0 _|exact s1 _|apply s2|apply s3)
    intro hc17
    refine SL.val (Val.move rfl) rfl rfl ?_
    refine SL.val (Val.move rfl) rfl rfl ?_
    refine SL.val (Val.to (C := .v (.int .u8 ((l[z]'hq).toNat : Nat))) (Val.indexSt (s := ⟨l.toArray⟩) (q := z) rfl rfl rfl hq Tryd.underlying9) rfl) rfl rfl ?_
    refine SL.val (Val.leI rfl rfl) rfl rfl ?_
    refine SL.val (Val.pickT rfl rfl) rfl rfl ?_
    refine SL.nil (SE.seq ?_)
    refine SC.condP rfl ?_ ?_
    rotate_left
    · intro hc22
      refine SC.exit ?_
      refine SE.then_ (by intro h; cases h) ?_
      refine SE.then_ (by intro h; cases h) ?_
      refine SE.exit ?_
      have hdz := cut_digs hz.2 hz.1 fun hq2 hdd => by
        have h3 := of_decide_eq_true (show decide (48 ≤ (l[z]'hq2).toNat ∧ (l[z]'hq2).toNat ≤ 57) = true from hdd)
        omega
      refine SE.meet (()) (trivial) (by exact ⟨rfl, congrArg (fun k : Nat => some (int (k : Nat))) hdz, congrArg (fun k : Nat => some (int (decV (l.take (min k 5)) : Nat))) hdz, trivial⟩) (by repeat first|exact s0 _|exact s1 _|apply s2|apply s3)
    intro hc22
    have hdv : decV (l.take (min z 5)) < 100000 := decV_few hz.2
    have h8 := (l[z]'hq).toNat_lt
    refine SC.skip ?_
    refine SE.seq ?_
    refine SC.block ?_
    refine SC.seq ?_
    refine SC.seq (SC.region ?_)
    refine SL.val (Val.move rfl) rfl rfl ?_
    refine SL.val (Val.ltI rfl rfl) rfl rfl ?_
    refine SL.nil (SE.seq ?_)
    refine SC.condP rfl ?_ ?_
    rotate_left
    · intro hc24
      refine SC.skip ?_
      refine SE.seq ?_
      refine SC.region ?_
      refine SL.val (Val.move rfl) rfl rfl ?_
      first
        | refine SL.val (Val.addI rfl rfl (by simp only [InR, lo, hi]; omega)) rfl rfl ?_
        | refine SL.val (Val.addW rfl rfl) rfl rfl ?_
      refine SL.val (Val.assign rfl) rfl rfl ?_
      refine SL.nil ?_
      refine SE.inBlock ?_
      have hdd : isDig (l[z]'hq) = true := decide_eq_true (by omega)
      have hnx : min (z + 1) 5 = min z 5 := by omega
      refine SE.round (z + 1) (by first | omega | (dsimp only; omega)) (⟨hq, fun j hj h => by rcases Nat.lt_or_ge j z with h1 | h1; exact hz.2 j hj h1; obtain rfl : j = z := (by omega); exact hdd⟩) (by exact ⟨rfl, rfl, congrArg (fun x : Nat => some (int (x : Nat))) (by rw [hnx]), trivial⟩) (by repeat first|exact s0 _|exact s1 _|apply s2|apply s3)
    intro hc24
    refine SC.region ?_
    refine SL.val (Val.move rfl) rfl rfl ?_
    first
      | refine SL.val (Val.mulI rfl rfl (by simp only [InR, lo, hi]; omega)) rfl rfl ?_
      | refine SL.val (Val.mulW rfl rfl) rfl rfl ?_
    refine SL.val (Val.move rfl) rfl rfl ?_
    refine SL.val (Val.move rfl) rfl rfl ?_
    refine SL.val (Val.to (C := .v (.int .u8 ((l[z]'hq).toNat : Nat))) (Val.indexSt (s := ⟨l.toArray⟩) (q := z) rfl rfl rfl hq Tryd.underlying9) rfl) rfl rfl ?_
    first
      | refine SL.val (Val.subI rfl rfl (by simp only [InR, lo, hi]; omega)) rfl rfl ?_
      | refine SL.val (Val.subW rfl rfl) rfl rfl ?_
    first
      | refine SL.val (Val.convI rfl Tryd.underlying3 (by kernel_rfl) (by simp only [InR, lo, hi]; omega)) rfl rfl ?_
      | refine SL.val (Val.convW rfl Tryd.underlying3 (by kernel_rfl)) rfl rfl ?_
    first
      | refine SL.val (Val.addI rfl rfl (by simp only [InR, lo, hi]; omega)) rfl rfl ?_
      | refine SL.val (Val.addW rfl rfl) rfl rfl ?_
    refine SL.val (Val.assign rfl) rfl rfl ?_
    refine SL.nil (SE.seq ?_)
    refine SC.region ?_
    refine SL.val (Val.move rfl) rfl rfl ?_
    first
      | refine SL.val (Val.addI rfl rfl (by simp only [InR, lo, hi]; omega)) rfl rfl ?_
      | refine SL.val (Val.addW rfl rfl) rfl rfl ?_
    refine SL.val (Val.assign rfl) rfl rfl ?_
    refine SL.nil ?_
    refine SE.inBlock ?_
    have hdd : isDig (l[z]'hq) = true := decide_eq_true (by omega)
    have hnx := decV_next hq (by omega)
    refine SE.round (z + 1) (by first | omega | (dsimp only; omega)) (⟨hq, fun j hj h => by rcases Nat.lt_or_ge j z with h1 | h1; exact hz.2 j hj h1; obtain rfl : j = z := (by omega); exact hdd⟩) (by exact ⟨rfl, rfl, congrArg (fun x : Int => some (int x)) (by rw [hnx]; omega), trivial⟩) (by repeat first|exact s0 _|exact s1 _|apply s2|apply s3)
  · intro z hz
    refine SC.seq ?_
    refine SC.seq (SC.region ?_)
    refine SL.val (Val.move rfl) rfl rfl ?_
    refine SL.val (Val.eqI rfl rfl) rfl rfl ?_
    refine SL.val (Val.move rfl) rfl rfl ?_
    refine SL.bothP (t := 37) rfl ?_ ?_
    · intro hc37
      iterate 2 refine SL.skip rfl rfl ?_
      refine SL.val (Val.pickT rfl rfl) rfl rfl ?_
      refine SL.val (Val.move rfl) rfl rfl ?_
      iterate 7 refine SL.skip rfl rfl ?_
      refine SL.val (Val.pickT rfl rfl) rfl rfl ?_
      refine SL.nil (SE.seq ?_)
      refine SC.condT rfl ?_
      refine SC.seq (SC.region ?_)
      refine SL.val (Val.move rfl) rfl rfl ?_
      refine SL.val (Val.assign rfl) rfl rfl ?_
      refine SL.val (Val.assign rfl) rfl rfl ?_
      refine SL.val (Val.assign rfl) rfl rfl ?_
      refine SL.nil (SE.seq ?_)
      refine SC.ret ?_
      refine SE.then_ (by intro h; cases h) ?_
      have hnn : numT l = none := by
        refine if_pos ?_
        first
          | exact .inl (by omega)
          | exact .inr (.inl (by omega))
          | exact .inr (.inr ⟨by omega, by rw [hdf]; exact congrArg some (UInt8.toNat_inj.1 (by show _ = 48; omega))⟩)
      refine SE.fin (rs := [.tmp 2, .tmp 3, .tmp 4]) rfl (RV.tmp rfl (RV.tmp rfl (RV.tmp rfl RV.nil))) (()) (by repeat first|exact s0 _|exact s1 _|apply s2|apply s3) (by simp [It.rids]) ?_
      rw [numF_none hnn]
      rfl
    intro hc37
    have hq0 : 0 < l.length := by omega
    have hdf := digs_first (l := l) (by omega) hq0
    refine SL.val (Val.move rfl) rfl rfl ?_
    refine SL.val (Val.gtI rfl rfl) rfl rfl ?_
    refine SL.val (Val.pickF rfl rfl) rfl rfl ?_
    refine SL.val (Val.move rfl) rfl rfl ?_
    refine SL.bothP (t := 41) rfl ?_ ?_
    · intro hc41
      iterate 7 refine SL.skip rfl rfl ?_
      refine SL.val (Val.pickT rfl rfl) rfl rfl ?_
      refine SL.nil (SE.seq ?_)
      refine SC.condT rfl ?_
      refine SC.seq (SC.region ?_)
      refine SL.val (Val.move rfl) rfl rfl ?_
      refine SL.val (Val.assign rfl) rfl rfl ?_
      refine SL.val (Val.assign rfl) rfl rfl ?_
      refine SL.val (Val.assign rfl) rfl rfl ?_
      refine SL.nil (SE.seq ?_)
      refine SC.ret ?_
      refine SE.then_ (by intro h; cases h) ?_
      have hnn : numT l = none := by
        refine if_pos ?_
        first
          | exact .inl (by omega)
          | exact .inr (.inl (by omega))
          | exact .inr (.inr ⟨by omega, by rw [hdf]; exact congrArg some (UInt8.toNat_inj.1 (by show _ = 48; omega))⟩)
      refine SE.fin (rs := [.tmp 2, .tmp 3, .tmp 4]) rfl (RV.tmp rfl (RV.tmp rfl (RV.tmp rfl RV.nil))) (()) (by repeat first|exact s0 _|exact s1 _|apply s2|apply s3) (by simp [It.rids]) ?_
      rw [numF_none hnn]
      rfl
    intro hc41
    refine SL.val (Val.move rfl) rfl rfl ?_
    refine SL.val (Val.gtI rfl rfl) rfl rfl ?_
    refine SL.val (Val.move rfl) rfl rfl ?_
    refine SL.bothP (t := 44) rfl ?_ ?_
    rotate_left
    · intro hc44
      iterate 3 refine SL.skip rfl rfl ?_
      refine SL.val (Val.pickF rfl rfl) rfl rfl ?_
      refine SL.val (Val.pickF rfl rfl) rfl rfl ?_
      refine SL.nil (SE.seq ?_)
      refine SC.condF rfl ?_
      refine SC.skip ?_
      refine SE.seq ?_
      refine SC.seq ?_
      refine SC.draw [] (.q 0 (.q 1 (.q 2 (.q 3 (.q 4 (.q 5 (.q 6 .nil))))))) (by kernel_rfl) (by kernel_rfl) ?_
      refine SX.val rfl (Val.move rfl) (by simp) rfl rfl ?_
      refine SX.val rfl (Val.move rfl) (by simp) rfl rfl ?_
      refine SX.val rfl (Val.move rfl) (by simp) rfl rfl ?_
      refine SX.hx (by first|(simp[mids,It.mids,ownPc];done)|(intro k hk;simp[mids,It.mids,ownPc] at hk ⊢;grind)) fun hx9 => ?_
      refine SX.val rfl (Val.to (C := stA (l.drop (digs l).length)) (Val.sliceStLo (q := (digs l).length) Tryd.underlying9 rfl rfl rfl (by simp only [tx_size]; omega)) (st_lo _ _)) hx9 rfl rfl ?_
      refine SX.val rfl (Val.assign rfl) (by simp) rfl rfl ?_
      refine SX.val rfl (Val.assign rfl) (by simp) rfl rfl ?_
      refine SX.val rfl (Val.assign rfl) (by simp) rfl rfl ?_
      refine SX.nil (SE.seq ?_)
      refine SC.ret ?_
      have hnn : numT l = some (decV (digs l), l.drop (digs l).length) := if_neg (by
        rintro (h | h | ⟨h1, h2⟩)
        · omega
        · omega
        · first
            | omega
            | (rw [hdf] at h2; have h3 := congrArg UInt8.toNat (Option.some.inj h2); have h4 : (48 : UInt8).toNat = 48 := rfl; omega))
      refine SE.fin (rs := [.tmp 2, .tmp 3, .tmp 4]) rfl (RV.tmp rfl (RV.tmp rfl (RV.tmp rfl RV.nil))) (()) (by repeat first|exact s0 _|exact s1 _|apply s2|apply s3) (by simp [It.rids]) ?_
      rw [numF_some hnn, Nat.min_eq_left (show (digs l).length ≤ 5 by omega), take_digs]
      rfl
    intro hc44
    refine SL.val (Val.move rfl) rfl rfl ?_
    refine SL.val (Val.to (C := .v (.int .u8 ((l[0]'hq0).toNat : Nat))) (Val.indexSt (s := ⟨l.toArray⟩) (q := 0) rfl rfl rfl hq0 Tryd.underlying9) rfl) rfl rfl ?_
    refine SL.val (Val.eqI rfl rfl) rfl rfl ?_
    refine SL.val (Val.pickT rfl rfl) rfl rfl ?_
    refine SL.val (Val.pickF rfl rfl) rfl rfl ?_
    refine SL.nil (SE.seq ?_)
    refine SC.condP rfl ?_ ?_
    · intro hc49
      refine SC.seq (SC.region ?_)
      refine SL.val (Val.move rfl) rfl rfl ?_
      refine SL.val (Val.assign rfl) rfl rfl ?_
      refine SL.val (Val.assign rfl) rfl rfl ?_
      refine SL.val (Val.assign rfl) rfl rfl ?_
      refine SL.nil (SE.seq ?_)
      refine SC.ret ?_
      refine SE.then_ (by intro h; cases h) ?_
      have hnn : numT l = none := by
        refine if_pos ?_
        first
          | exact .inl (by omega)
          | exact .inr (.inl (by omega))
          | exact .inr (.inr ⟨by omega, by rw [hdf]; exact congrArg some (UInt8.toNat_inj.1 (by show _ = 48; omega))⟩)
      refine SE.fin (rs := [.tmp 2, .tmp 3, .tmp 4]) rfl (RV.tmp rfl (RV.tmp rfl (RV.tmp rfl RV.nil))) (()) (by repeat first|exact s0 _|exact s1 _|apply s2|apply s3) (by simp [It.rids]) ?_
      rw [numF_none hnn]
      rfl
    intro hc49
    refine SC.skip ?_
    refine SE.seq ?_
    refine SC.seq ?_
    refine SC.draw [] (.q 0 (.q 1 (.q 2 (.q 3 (.q 4 (.q 5 (.q 6 .nil))))))) (by kernel_rfl) (by kernel_rfl) ?_
    refine SX.val rfl (Val.move rfl) (by simp) rfl rfl ?_
    refine SX.val rfl (Val.move rfl) (by simp) rfl rfl ?_
    refine SX.val rfl (Val.move rfl) (by simp) rfl rfl ?_
    refine SX.hx (by first|(simp[mids,It.mids,ownPc];done)|(intro k hk;simp[mids,It.mids,ownPc] at hk ⊢;grind)) fun hx9 => ?_
    refine SX.val rfl (Val.to (C := stA (l.drop (digs l).length)) (Val.sliceStLo (q := (digs l).length) Tryd.underlying9 rfl rfl rfl (by simp only [tx_size]; omega)) (st_lo _ _)) hx9 rfl rfl ?_
    refine SX.val rfl (Val.assign rfl) (by simp) rfl rfl ?_
    refine SX.val rfl (Val.assign rfl) (by simp) rfl rfl ?_
    refine SX.val rfl (Val.assign rfl) (by simp) rfl rfl ?_
    refine SX.nil (SE.seq ?_)
    refine SC.ret ?_
    have hnn : numT l = some (decV (digs l), l.drop (digs l).length) := if_neg (by
      rintro (h | h | ⟨h1, h2⟩)
      · omega
      · omega
      · first
          | omega
          | (rw [hdf] at h2; have h3 := congrArg UInt8.toNat (Option.some.inj h2); have h4 : (48 : UInt8).toNat = 48 := rfl; omega))
    refine SE.fin (rs := [.tmp 2, .tmp 3, .tmp 4]) rfl (RV.tmp rfl (RV.tmp rfl (RV.tmp rfl RV.nil))) (()) (by repeat first|exact s0 _|exact s1 _|apply s2|apply s3) (by simp [It.rids]) ?_
    rw [numF_some hnn, Nat.min_eq_left (show (digs l).length ≤ 5 by omega), take_digs]
    rfl
set_option maxHeartbeats 2000000 in
theorem rrow_s (hd : 0 ≤ d ∧ d ≤ 100) (hp : ∀ l : Txt, l.length ≤ 1000 → Spec Tryd.prog 17 [stA l, int (d + 1)] [] (fun _ : {z : Frm × Txt × Bool // DocP k l z} => []) (fun z => .tup [.agg z.1.1.abs, stA z.1.2.1, boo z.1.2.2])) (hl : l.length ≤ 1000) : Spec Tryd.prog 31 [stA l, int d] [] (fun _ : {z : List Frm × Txt × Bool // DocR k l z} => []) (fun z => .tup [.sl 3 (z.1.1.map Frm.abs), stA z.1.2.1, boo z.1.2.2]) := by
  refine spec_of Tryd.func31 rfl Tryd.ntmps31 rfl fun G w => ?_
  refine SC.seq (SC.region ?_)
  refine SL.val (Val.assign rfl) rfl rfl ?_
  refine SL.val (Val.assign rfl) rfl rfl ?_
  refine SL.val (Val.assign rfl) rfl rfl ?_
  refine SL.nil (SE.seq ?_)
  refine SC.seq (SC.region ?_)
  refine SL.val (Val.move rfl) rfl rfl ?_
  refine SL.call (rbare_s (l := l)) Casts.refl (by kernel_rfl) rfl rfl rfl ?_
  refine After.pure (by repeat first|exact .nil|refine .blk (by repeat first|assumption|exact m0|apply m1) ?_|refine .rd (by repeat first|assumption|exact m0|apply m1) ?_|refine .pc (by repeat first|assumption|exact m0|apply m1) ?_|refine .rdpc (by repeat first|assumption|exact m0|apply m1) ?_) (fun _ => rfl) ?_
  intro _
  refine SL.val (Val.assign rfl) rfl rfl ?_
  refine SL.nil (SE.seq ?_)
  refine SC.seq ?_
  refine SC.seq (SC.region ?_)
  refine SL.val (Val.move rfl) rfl rfl ?_
  refine SL.call (rbegins_s (l := (bare l)) (wd := [40])) Casts.refl (by kernel_rfl) rfl rfl rfl ?_
  refine After.pure (by repeat first|exact .nil|refine .blk (by repeat first|assumption|exact m0|apply m1) ?_|refine .rd (by repeat first|assumption|exact m0|apply m1) ?_|refine .pc (by repeat first|assumption|exact m0|apply m1) ?_|refine .rdpc (by repeat first|assumption|exact m0|apply m1) ?_) (fun _ => rfl) ?_
  intro _
  refine SL.val (Val.notB rfl) rfl rfl ?_
  refine SL.nil (SE.seq ?_)
  refine SC.cond rfl ?_ ?_
  · intro hc15
    have hb0 : ¬ begins (bare l) [40] = true := by simpa using hc15
    refine SC.seq (SC.region ?_)
    refine SL.val (Val.move rfl) rfl rfl ?_
    refine SL.val (Val.assign rfl) rfl rfl ?_
    refine SL.val (Val.assign rfl) rfl rfl ?_
    refine SL.val (Val.assign rfl) rfl rfl ?_
    refine SL.nil (SE.seq ?_)
    refine SC.ret ?_
    refine SE.then_ (by intro h; cases h) ?_
    refine SE.finC (rs := [.tmp 4, .tmp 5, .tmp 6]) rfl (RV.tmp rfl (RV.tmp rfl (RV.tmp rfl RV.nil))) (Casts.nils (s := 3) Casts.refl) (⟨([], bare l, false), DocR.of_none (if_neg hb0) _⟩) (by repeat first|exact s0 _|exact s1 _|apply s2|apply s3) (by simp [It.rids]) ?_
    exact rfl
  intro hc15
  have hb0 : begins (bare l) [40] = true := by simpa using hc15
  refine SC.skip ?_
  refine SE.seq ?_
  refine SC.seq (SC.region ?_)
  refine SL.val (Val.assign rfl) rfl rfl ?_
  refine SL.nil (SE.seq ?_)
  refine SC.block ?_
  refine SC.own0 25 3 ?_
  refine SC.loop (ι := Txt × List Frm × Value) (fun z => [own 25 3 z.2.2 (z.2.1.map Frm.abs)]) (fun z => [(0, stA z.1), (1, int d), (7, .v z.2.2)]) (fun z => DocI k l (z.1, z.2.1)) (fun z => z.1.length) (bare l, [], .slice none 0 0) (DocI.start hb0) (by exact ⟨rfl, rfl, rfl, trivial⟩) (by repeat first|exact s0 _|exact s1 _|apply s2|apply s3) ?_
  intro z hz
  have hzp := hz.pos
  have hzl := hz.len
  have hzf := hz.few
  dsimp only at hzp hzl hzf
  refine SC.block ?_
  refine SC.seq (SC.region ?_)
  refine SL.val (Val.move rfl) rfl rfl ?_
  refine SL.val (Val.to (C := stA (z.1.drop 1)) (Val.sliceStLo (q := 1) Tryd.underlying9 rfl rfl rfl (by simp only [tx_size]; omega)) (st_lo _ _)) rfl rfl ?_
  refine SL.val (Val.move rfl) rfl rfl ?_
  first
    | refine SL.val (Val.addI rfl rfl (by simp only [InR, lo, hi]; omega)) rfl rfl ?_
    | refine SL.val (Val.addW rfl rfl) rfl rfl ?_
  refine SL.call (hp (z.1.drop 1) (by have := hz.len; rw [List.length_drop]; omega)) Casts.refl (by kernel_rfl) rfl rfl rfl ?_
  refine After.pure (by repeat first|exact .nil|refine .blk (by repeat first|assumption|exact m0|apply m1) ?_|refine .rd (by repeat first|assumption|exact m0|apply m1) ?_|refine .pc (by repeat first|assumption|exact m0|apply m1) ?_|refine .rdpc (by repeat first|assumption|exact m0|apply m1) ?_) (fun _ => rfl) ?_
  intro y
  refine SL.val (Val.move rfl) rfl rfl ?_
  refine SL.val (Val.extract rfl rfl) rfl rfl ?_
  refine SL.val (Val.extract rfl rfl) rfl rfl ?_
  refine SL.val (Val.extract rfl rfl) rfl rfl ?_
  refine SL.eff (Eff.alloc tabOk rfl) rfl rfl ?_
  rintro _ _ ⟨b8, rfl, rfl⟩
  refine SL.eff (Eff.store (L' := y.1.1.abs) tabOk rfl rfl rfl (by repeat first|assumption|exact Upd.here|apply Upd.there) (by exact Frm.abs_len _) (Nat.le_of_ble_eq_true (by rfl)) (by exact Frm.abs_ones _) (putL_whole (by exact Frm.abs_len _))) rfl rfl ?_
  rintro _ _ ⟨rfl, rfl⟩
  refine SL.val (Val.assign rfl) rfl rfl ?_
  refine SL.val (Val.assign rfl) rfl rfl ?_
  refine SL.nil (SE.seq ?_)
  refine SC.seq ?_
  refine SC.seq (SC.region ?_)
  refine SL.val (Val.move rfl) rfl rfl ?_
  refine SL.val (Val.notB rfl) rfl rfl ?_
  refine SL.nil (SE.seq ?_)
  refine SC.cond rfl ?_ ?_
  · intro hc27
    have ho : y.1.2.2 = false := by simpa using hc27
    refine SC.seq (SC.region ?_)
    refine SL.val (Val.move rfl) rfl rfl ?_
    refine SL.val (Val.assign rfl) rfl rfl ?_
    refine SL.val (Val.assign rfl) rfl rfl ?_
    refine SL.val (Val.assign rfl) rfl rfl ?_
    refine SL.nil (SE.seq ?_)
    refine SC.ret ?_
    refine SE.then_ (by intro h; cases h) ?_
    refine SE.ret ?_
    refine SE.then_ (by intro h; cases h) ?_
    refine SE.ret ?_
    refine SE.finC (rs := [.tmp 4, .tmp 5, .tmp 6]) rfl (RV.tmp rfl (RV.tmp rfl (RV.tmp rfl RV.nil))) (Casts.nils (s := 3) Casts.refl) (⟨([], z.1, false), DocR.of_none (hz.no y.2 ho) _⟩) (by repeat first|exact s0 _|exact s1 _|apply s2|apply s3) (by simp [It.rids]) ?_
    exact rfl
  intro hc27
  have ho : y.1.2.2 = true := by simpa using hc27
  refine SC.skip ?_
  refine SE.seq ?_
  refine SC.seq (SC.region ?_)
  refine SL.val (Val.move rfl) rfl rfl ?_
  refine SL.val (Val.loadA tabOk rfl rfl rfl (by first|(apply Or.inl;(repeat first|assumption|exact m0|apply m1);done)|(apply Or.inr;(repeat first|assumption|exact m0|apply m1);done)) List.not_mem_nil (Frm.abs_len _)) rfl rfl ?_
  refine SL.eff (Eff.buildSl tabOk Tryd.underlying23 rfl rfl rfl (elems_one (Frm.abs_len _)) rfl rfl rfl) rfl rfl ?_
  rintro _ _ ⟨rfl, rfl⟩
  refine SL.eff (Eff.appendE (zs := (z.2.1 ++ [y.1.1]).map Frm.abs) tabOk [_] (by rw [List.map_append]; rfl) Tryd.underlying23 rfl rfl rfl rfl rfl rfl (by intro c hc; rw [List.mem_singleton] at hc; subst hc; exact Frm.abs_ones _) (by unfold maxLen; simp only [List.length_map, List.length_cons, List.length_nil]; omega) (by rw [show Tryd.prog.bytesOf 25 = 40 by kernel_rfl]; simp only [List.length_map, List.length_cons, List.length_nil]; omega)) rfl rfl ?_
  rintro _ _ ⟨r32, rfl, rfl⟩
  refine SL.val (Val.assign rfl) rfl rfl ?_
  refine SL.nil (SE.seq ?_)
  refine SC.seq (SC.region ?_)
  refine SL.val (Val.move rfl) rfl rfl ?_
  refine SL.call (rbare_s (l := y.1.2.1)) Casts.refl (by kernel_rfl) rfl rfl rfl ?_
  refine After.pure (by repeat first|exact .nil|refine .blk (by repeat first|assumption|exact m0|apply m1) ?_|refine .rd (by repeat first|assumption|exact m0|apply m1) ?_|refine .pc (by repeat first|assumption|exact m0|apply m1) ?_|refine .rdpc (by repeat first|assumption|exact m0|apply m1) ?_) (fun _ => rfl) ?_
  intro _
  refine SL.val (Val.assign rfl) rfl rfl ?_
  refine SL.nil (SE.seq ?_)
  refine SC.seq ?_
  refine SC.seq (SC.region ?_)
  refine SL.val (Val.move rfl) rfl rfl ?_
  refine SL.call (rbegins_s (l := (bare y.1.2.1)) (wd := [41])) Casts.refl (by kernel_rfl) rfl rfl rfl ?_
  refine After.pure (by repeat first|exact .nil|refine .blk (by repeat first|assumption|exact m0|apply m1) ?_|refine .rd (by repeat first|assumption|exact m0|apply m1) ?_|refine .pc (by repeat first|assumption|exact m0|apply m1) ?_|refine .rdpc (by repeat first|assumption|exact m0|apply m1) ?_) (fun _ => rfl) ?_
  intro _
  refine SL.nil (SE.seq ?_)
  refine SC.cond rfl ?_ ?_
  · intro hc36
    have hbl := begins_len hc36
    simp only [List.length_singleton] at hbl
    refine SC.seq ?_
    refine SC.draw [] (.q 0 (.q 1 (.q 2 (.q 3 (.q 4 (.q 5 .nil)))))) (by kernel_rfl) (by kernel_rfl) ?_
    refine SX.val rfl (Val.move rfl) (by simp) rfl rfl ?_
    refine SX.val rfl (Val.move rfl) (by simp) rfl rfl ?_
    refine SX.hx (by first|(simp[mids,It.mids,ownPc];done)|(intro k hk;simp[mids,It.mids,ownPc] at hk ⊢;grind)) fun hx9 => ?_
    refine SX.val rfl (Val.to (C := stA ((bare y.1.2.1).drop 1)) (Val.sliceStLo (q := 1) Tryd.underlying9 rfl rfl rfl (by simp only [tx_size]; omega)) (st_lo _ _)) hx9 rfl rfl ?_
    refine SX.val rfl (Val.assign rfl) (by simp) rfl rfl ?_
    refine SX.val rfl (Val.assign rfl) (by simp) rfl rfl ?_
    refine SX.val rfl (Val.assign rfl) (by simp) rfl rfl ?_
    refine SX.nil (SE.seq ?_)
    refine SC.ret ?_
    refine SE.then_ (by intro h; cases h) ?_
    refine SE.ret ?_
    refine SE.then_ (by intro h; cases h) ?_
    refine SE.ret ?_
    refine SE.freeze [_] (t := 4) rfl rfl ?_
    refine SE.fin (rs := [.tmp 4, .tmp 5, .tmp 6]) rfl (RV.tmp rfl (RV.tmp rfl (RV.tmp rfl RV.nil))) (⟨(z.2.1 ++ [y.1.1], (bare y.1.2.1).drop 1, true), DocR.of_some (hz.done y.2 ho hc36)⟩) (by repeat first|exact s0 _|exact s1 _|apply s2|apply s3) (by simp [It.rids]) ?_
    exact rfl
  intro hc36
  have hb1 : ¬ begins (bare y.1.2.1) [41] = true := by rw [hc36]; decide
  refine SC.skip ?_
  refine SE.seq ?_
  refine SC.seq (SC.region ?_)
  refine SL.val (Val.move rfl) rfl rfl ?_
  refine SL.call (rbegins_s (l := (bare y.1.2.1)) (wd := [44])) Casts.refl (by kernel_rfl) rfl rfl rfl ?_
  refine After.pure (by repeat first|exact .nil|refine .blk (by repeat first|assumption|exact m0|apply m1) ?_|refine .rd (by repeat first|assumption|exact m0|apply m1) ?_|refine .pc (by repeat first|assumption|exact m0|apply m1) ?_|refine .rdpc (by repeat first|assumption|exact m0|apply m1) ?_) (fun _ => rfl) ?_
  intro _
  refine SL.val (Val.notB rfl) rfl rfl ?_
  refine SL.nil (SE.seq ?_)
  refine SC.cond rfl ?_ ?_
  rotate_left
  · intro hc42
    have hb2 : begins (bare y.1.2.1) [44] = true := by simpa using hc42
    refine SC.skip ?_
    refine SE.inBlock ?_
    have hst := hz.step y.2 ho hb1 hb2
    refine SE.round (bare y.1.2.1, z.2.1 ++ [y.1.1], r32) hst.2 (hst.1) (by exact ⟨rfl, rfl, rfl, trivial⟩) (by repeat first|exact s0 _|exact s1 _|apply s2|apply s3)
  intro hc42
  have hb2 : ¬ begins (bare y.1.2.1) [44] = true := by simpa using hc42
  refine SC.seq (SC.region ?_)
  refine SL.val (Val.move rfl) rfl rfl ?_
  refine SL.val (Val.assign rfl) rfl rfl ?_
  refine SL.val (Val.assign rfl) rfl rfl ?_
  refine SL.val (Val.assign rfl) rfl rfl ?_
  refine SL.nil (SE.seq ?_)
  refine SC.ret ?_
  refine SE.ret ?_
  refine SE.then_ (by intro h; cases h) ?_
  refine SE.ret ?_
  refine SE.finC (rs := [.tmp 4, .tmp 5, .tmp 6]) rfl (RV.tmp rfl (RV.tmp rfl (RV.tmp rfl RV.nil))) (Casts.nils (s := 3) Casts.refl) (⟨([], bare y.1.2.1, false), DocR.of_none (hz.bad y.2 ho hb1 hb2) _⟩) (by repeat first|exact s0 _|exact s1 _|apply s2|apply s3) (by simp [It.rids]) ?_
  exact rfl
theorem rpol0_s (hl : l.length ≤ 1000) : Spec Tryd.prog 17 [stA l, int 11] [] (fun _ : {z : Frm × Txt × Bool // DocP 0 l z} => []) (fun z => .tup [.agg z.1.1.abs, stA z.1.2.1, boo z.1.2.2]) := by
  refine spec_of Tryd.func17 rfl Tryd.ntmps17 rfl fun G w => ?_
  refine SC.seq (SC.region ?_)
  refine SL.eff (Eff.alloc tabOk rfl) rfl rfl ?_
  rintro _ _ ⟨b4, rfl, rfl⟩
  refine SL.val (Val.assign rfl) rfl rfl ?_
  refine SL.val (Val.assign rfl) rfl rfl ?_
  refine SL.nil (SE.seq ?_)
  refine SC.seq (SC.region ?_)
  refine SL.val (Val.move rfl) rfl rfl ?_
  refine SL.call (rbare_s (l := l)) Casts.refl (by kernel_rfl) rfl rfl rfl ?_
  refine After.pure (by repeat first|exact .nil|refine .blk (by repeat first|assumption|exact m0|apply m1) ?_|refine .rd (by repeat first|assumption|exact m0|apply m1) ?_|refine .pc (by repeat first|assumption|exact m0|apply m1) ?_|refine .rdpc (by repeat first|assumption|exact m0|apply m1) ?_) (fun _ => rfl) ?_
  intro _
  refine SL.val (Val.assign rfl) rfl rfl ?_
  refine SL.nil (SE.seq ?_)
  refine SC.seq ?_
  refine SC.seq (SC.region ?_)
  refine SL.val (Val.move rfl) rfl rfl ?_
  refine SL.val (Val.gtI rfl rfl) rfl rfl ?_
  refine SL.nil (SE.seq ?_)
  refine SC.condP rfl ?_ (by intro hc19; exfalso; omega)
  intro hc19
  refine SC.seq (SC.region ?_)
  refine SL.val (Val.buildS tabOk rfl rfl rfl rfl) rfl rfl ?_
  refine SL.val (Val.move rfl) rfl rfl ?_
  refine SL.eff (Eff.store tabOk rfl rfl rfl (by repeat first|assumption|exact Upd.here|apply Upd.there) (by rfl) (Nat.le_of_ble_eq_true (by rfl)) (by rfl) (by rfl)) rfl rfl ?_
  rintro _ _ ⟨rfl, rfl⟩
  refine SL.val (Val.assign rfl) rfl rfl ?_
  refine SL.val (Val.assign rfl) rfl rfl ?_
  refine SL.nil (SE.seq ?_)
  refine SC.ret ?_
  refine SE.then_ (by intro h; cases h) ?_
  refine SE.finC (rs := [.cell 4 25, .tmp 5, .tmp 6]) rfl (RV.cell rfl (RV.cellA tabOk rfl rfl (by first|(apply Or.inl;(repeat first|assumption|exact m0|apply m1);done)|(apply Or.inr;(repeat first|assumption|exact m0|apply m1);done)) (by rfl)) (RV.tmp rfl (RV.tmp rfl RV.nil))) (Casts.cons (cast_agg (Casts.keep (Casts.keep (Casts.nils (s := 3) Casts.refl)))) Casts.refl) (⟨(.mk 0 0 [], bare l, false), DocP.deep rfl⟩) (by repeat first|exact s0 _|exact s1 _|apply s2|apply s3) (by simp [It.rids]) ?_
  first
    | (rw [Frm.abs_mk]; rfl)
    | rfl
set_option maxHeartbeats 2000000 in
theorem rpol_step (hd : 1 ≤ d ∧ d ≤ 10) (hp : ∀ l : Txt, l.length ≤ 1000 → Spec Tryd.prog 17 [stA l, int (d + 1)] [] (fun _ : {z : Frm × Txt × Bool // DocP k l z} => []) (fun z => .tup [.agg z.1.1.abs, stA z.1.2.1, boo z.1.2.2])) (hl : l.length ≤ 1000) : Spec Tryd.prog 17 [stA l, int d] [] (fun _ : {z : Frm × Txt × Bool // DocP (k + 1) l z} => []) (fun z => .tup [.agg z.1.1.abs, stA z.1.2.1, boo z.1.2.2]) := by
  have hbl := bare_len l
  refine spec_of Tryd.func17 rfl Tryd.ntmps17 rfl fun G w => ?_
  refine SC.seq (SC.region ?_)
  refine SL.eff (Eff.alloc tabOk rfl) rfl rfl ?_
  rintro _ _ ⟨b4, rfl, rfl⟩
  refine SL.val (Val.assign rfl) rfl rfl ?_
  refine SL.val (Val.assign rfl) rfl rfl ?_
  refine SL.nil (SE.seq ?_)
  refine SC.seq (SC.region ?_)
  refine SL.val (Val.move rfl) rfl rfl ?_
  refine SL.call (rbare_s (l := l)) Casts.refl (by kernel_rfl) rfl rfl rfl ?_
  refine After.pure (by repeat first|exact .nil|refine .blk (by repeat first|assumption|exact m0|apply m1) ?_|refine .rd (by repeat first|assumption|exact m0|apply m1) ?_|refine .pc (by repeat first|assumption|exact m0|apply m1) ?_|refine .rdpc (by repeat first|assumption|exact m0|apply m1) ?_) (fun _ => rfl) ?_
  intro _
  refine SL.val (Val.assign rfl) rfl rfl ?_
  refine SL.nil (SE.seq ?_)
  refine SC.seq ?_
  refine SC.seq (SC.region ?_)
  refine SL.val (Val.move rfl) rfl rfl ?_
  refine SL.val (Val.gtI rfl rfl) rfl rfl ?_
  refine SL.nil (SE.seq ?_)
  refine SC.condP rfl (by intro hc19; exfalso; omega) ?_
  intro hc19
  refine SC.skip ?_
  refine SE.seq ?_
  refine SC.seq ?_
  refine SC.seq (SC.region ?_)
  refine SL.val (Val.move rfl) rfl rfl ?_
  refine SL.call (rbegins_s (l := (bare l)) (wd := [97, 108, 108])) Casts.refl (by kernel_rfl) rfl rfl rfl ?_
  refine After.pure (by repeat first|exact .nil|refine .blk (by repeat first|assumption|exact m0|apply m1) ?_|refine .rd (by repeat first|assumption|exact m0|apply m1) ?_|refine .pc (by repeat first|assumption|exact m0|apply m1) ?_|refine .rdpc (by repeat first|assumption|exact m0|apply m1) ?_) (fun _ => rfl) ?_
  intro _
  refine SL.val (Val.move rfl) rfl rfl ?_
  refine SL.both (t := 24) rfl ?_ ?_
  · intro hc24
    have ha : begins (bare l) [97, 108, 108] = true := hc24
    have hal := begins_len ha
    simp only [List.length_cons, List.length_nil] at hal
    iterate 2 refine SL.skip rfl rfl ?_
    refine SL.val (Val.pickT rfl rfl) rfl rfl ?_
    refine SL.nil (SE.seq ?_)
    refine SC.condT rfl ?_
    refine SC.seq (SC.region ?_)
    refine SL.val (Val.move rfl) rfl rfl ?_
    refine SL.val (Val.to (C := stA ((bare l).drop 3)) (Val.sliceStLo (q := 3) Tryd.underlying9 rfl rfl rfl (by simp only [tx_size]; omega)) (st_lo _ _)) rfl rfl ?_
    refine SL.val (Val.move rfl) rfl rfl ?_
    refine SL.call (rrow_s (l := (bare l).drop 3) (by omega) hp (by rw [List.length_drop]; omega)) Casts.refl (by kernel_rfl) rfl rfl rfl ?_
    refine After.pure (by repeat first|exact .nil|refine .blk (by repeat first|assumption|exact m0|apply m1) ?_|refine .rd (by repeat first|assumption|exact m0|apply m1) ?_|refine .pc (by repeat first|assumption|exact m0|apply m1) ?_|refine .rdpc (by repeat first|assumption|exact m0|apply m1) ?_) (fun _ => rfl) ?_
    intro y
    refine SL.val (Val.move rfl) rfl rfl ?_
    refine SL.val (Val.extract rfl rfl) rfl rfl ?_
    refine SL.val (Val.extract rfl rfl) rfl rfl ?_
    refine SL.val (Val.extract rfl rfl) rfl rfl ?_
    refine SL.val (Val.assign rfl) rfl rfl ?_
    refine SL.val (Val.assign rfl) rfl rfl ?_
    refine SL.val (Val.assign rfl) rfl rfl ?_
    refine SL.nil (SE.seq ?_)
    refine SC.seq (SC.region ?_)
    refine SL.val (Val.assign rfl) rfl rfl ?_
    refine SL.nil (SE.seq ?_)
    refine SC.seq ?_
    refine SC.seq (SC.region ?_)
    refine SL.val (Val.move rfl) rfl rfl ?_
    refine SL.call (rbegins_s (l := (bare l)) (wd := [97, 108, 108])) Casts.refl (by kernel_rfl) rfl rfl rfl ?_
    refine After.pure (by repeat first|exact .nil|refine .blk (by repeat first|assumption|exact m0|apply m1) ?_|refine .rd (by repeat first|assumption|exact m0|apply m1) ?_|refine .pc (by repeat first|assumption|exact m0|apply m1) ?_|refine .rdpc (by repeat first|assumption|exact m0|apply m1) ?_) (fun _ => rfl) ?_
    intro _
    refine SL.nil (SE.seq ?_)
    refine SC.cond rfl ?_ (by intro hc37; exfalso; rw [hc24] at hc37; cases hc37)
    intro hc37
    refine SC.region ?_
    refine SL.val (Val.move rfl) rfl rfl ?_
    first
      | refine SL.val (Val.lenSl rfl Tryd.underlying23 (List.length_map _)) rfl rfl ?_
      | refine SL.val (Val.lenOwn rfl (by repeat first|assumption|exact m0|apply m1) Tryd.underlying23 (List.length_map _)) rfl rfl ?_
      | refine SL.val (Val.lenNil rfl Tryd.underlying23) rfl rfl ?_
    refine SL.val (Val.assign rfl) rfl rfl ?_
    refine SL.nil (SE.seq ?_)
    refine SC.seq (SC.region ?_)
    refine SL.val (Val.move rfl) rfl rfl ?_
    refine SL.val (Val.move rfl) rfl rfl ?_
    refine SL.val (Val.buildS tabOk rfl rfl rfl rfl) rfl rfl ?_
    refine SL.val (Val.move rfl) rfl rfl ?_
    refine SL.val (Val.move rfl) rfl rfl ?_
    refine SL.eff (Eff.store tabOk rfl rfl rfl (by repeat first|assumption|exact Upd.here|apply Upd.there) (by rfl) (Nat.le_of_ble_eq_true (by rfl)) (by rfl) (by rfl)) rfl rfl ?_
    rintro _ _ ⟨rfl, rfl⟩
    refine SL.val (Val.assign rfl) rfl rfl ?_
    refine SL.val (Val.assign rfl) rfl rfl ?_
    refine SL.nil (SE.seq ?_)
    refine SC.ret ?_
    refine SE.then_ (by intro h; cases h) ?_
    refine SE.fin (rs := [.cell 4 25, .tmp 5, .tmp 6]) rfl (RV.cell rfl (RV.cellA tabOk rfl rfl (by first|(apply Or.inl;(repeat first|assumption|exact m0|apply m1);done)|(apply Or.inr;(repeat first|assumption|exact m0|apply m1);done)) (by rfl)) (RV.tmp rfl (RV.tmp rfl RV.nil))) (⟨(.mk 0 y.1.1.length y.1.1, y.1.2.1, y.1.2.2), DocP.all ha y.2⟩) (by repeat first|exact s0 _|exact s1 _|apply s2|apply s3) (by simp [It.rids]) ?_
    first
      | (rw [Frm.abs_mk]; rfl)
      | rfl
  intro hc24
  have ha : ¬ begins (bare l) [97, 108, 108] = true := by rw [hc24]; decide
  refine SL.val (Val.move rfl) rfl rfl ?_
  refine SL.call (rbegins_s (l := (bare l)) (wd := [97, 110, 121])) Casts.refl (by kernel_rfl) rfl rfl rfl ?_
  refine After.pure (by repeat first|exact .nil|refine .blk (by repeat first|assumption|exact m0|apply m1) ?_|refine .rd (by repeat first|assumption|exact m0|apply m1) ?_|refine .pc (by repeat first|assumption|exact m0|apply m1) ?_|refine .rdpc (by repeat first|assumption|exact m0|apply m1) ?_) (fun _ => rfl) ?_
  intro _
  refine SL.val (Val.pickF rfl rfl) rfl rfl ?_
  refine SL.nil (SE.seq ?_)
  refine SC.cond rfl ?_ ?_
  · intro hc27
    have hb : begins (bare l) [97, 110, 121] = true := hc27
    have hal := begins_len hb
    simp only [List.length_cons, List.length_nil] at hal
    refine SC.seq (SC.region ?_)
    refine SL.val (Val.move rfl) rfl rfl ?_
    refine SL.val (Val.to (C := stA ((bare l).drop 3)) (Val.sliceStLo (q := 3) Tryd.underlying9 rfl rfl rfl (by simp only [tx_size]; omega)) (st_lo _ _)) rfl rfl ?_
    refine SL.val (Val.move rfl) rfl rfl ?_
    refine SL.call (rrow_s (l := (bare l).drop 3) (by omega) hp (by rw [List.length_drop]; omega)) Casts.refl (by kernel_rfl) rfl rfl rfl ?_
    refine After.pure (by repeat first|exact .nil|refine .blk (by repeat first|assumption|exact m0|apply m1) ?_|refine .rd (by repeat first|assumption|exact m0|apply m1) ?_|refine .pc (by repeat first|assumption|exact m0|apply m1) ?_|refine .rdpc (by repeat first|assumption|exact m0|apply m1) ?_) (fun _ => rfl) ?_
    intro y
    refine SL.val (Val.move rfl) rfl rfl ?_
    refine SL.val (Val.extract rfl rfl) rfl rfl ?_
    refine SL.val (Val.extract rfl rfl) rfl rfl ?_
    refine SL.val (Val.extract rfl rfl) rfl rfl ?_
    refine SL.val (Val.assign rfl) rfl rfl ?_
    refine SL.val (Val.assign rfl) rfl rfl ?_
    refine SL.val (Val.assign rfl) rfl rfl ?_
    refine SL.nil (SE.seq ?_)
    refine SC.seq (SC.region ?_)
    refine SL.val (Val.assign rfl) rfl rfl ?_
    refine SL.nil (SE.seq ?_)
    refine SC.seq ?_
    refine SC.seq (SC.region ?_)
    refine SL.val (Val.move rfl) rfl rfl ?_
    refine SL.call (rbegins_s (l := (bare l)) (wd := [97, 108, 108])) Casts.refl (by kernel_rfl) rfl rfl rfl ?_
    refine After.pure (by repeat first|exact .nil|refine .blk (by repeat first|assumption|exact m0|apply m1) ?_|refine .rd (by repeat first|assumption|exact m0|apply m1) ?_|refine .pc (by repeat first|assumption|exact m0|apply m1) ?_|refine .rdpc (by repeat first|assumption|exact m0|apply m1) ?_) (fun _ => rfl) ?_
    intro _
    refine SL.nil (SE.seq ?_)
    refine SC.cond rfl (by intro hc37; exfalso; rw [hc24] at hc37; cases hc37) ?_
    intro hc37
    refine SC.skip ?_
    refine SE.seq ?_
    refine SC.seq (SC.region ?_)
    refine SL.val (Val.move rfl) rfl rfl ?_
    refine SL.val (Val.move rfl) rfl rfl ?_
    refine SL.val (Val.buildS tabOk rfl rfl rfl rfl) rfl rfl ?_
    refine SL.val (Val.move rfl) rfl rfl ?_
    refine SL.val (Val.move rfl) rfl rfl ?_
    refine SL.eff (Eff.store tabOk rfl rfl rfl (by repeat first|assumption|exact Upd.here|apply Upd.there) (by rfl) (Nat.le_of_ble_eq_true (by rfl)) (by rfl) (by rfl)) rfl rfl ?_
    rintro _ _ ⟨rfl, rfl⟩
    refine SL.val (Val.assign rfl) rfl rfl ?_
    refine SL.val (Val.assign rfl) rfl rfl ?_
    refine SL.nil (SE.seq ?_)
    refine SC.ret ?_
    refine SE.then_ (by intro h; cases h) ?_
    refine SE.fin (rs := [.cell 4 25, .tmp 5, .tmp 6]) rfl (RV.cell rfl (RV.cellA tabOk rfl rfl (by first|(apply Or.inl;(repeat first|assumption|exact m0|apply m1);done)|(apply Or.inr;(repeat first|assumption|exact m0|apply m1);done)) (by rfl)) (RV.tmp rfl (RV.tmp rfl RV.nil))) (⟨(.mk 0 1 y.1.1, y.1.2.1, y.1.2.2), DocP.any ha hb y.2⟩) (by repeat first|exact s0 _|exact s1 _|apply s2|apply s3) (by simp [It.rids]) ?_
    first
      | (rw [Frm.abs_mk]; rfl)
      | rfl
  intro hc27
  have hb : ¬ begins (bare l) [97, 110, 121] = true := by rw [hc27]; decide
  refine SC.skip ?_
  refine SE.seq ?_
  refine SC.seq (SC.region ?_)
  refine SL.val (Val.move rfl) rfl rfl ?_
  refine SL.call (rnumber_s (l := bare l) (by omega)) Casts.refl (by kernel_rfl) rfl rfl rfl ?_
  refine After.pure (by repeat first|exact .nil|refine .blk (by repeat first|assumption|exact m0|apply m1) ?_|refine .rd (by repeat first|assumption|exact m0|apply m1) ?_|refine .pc (by repeat first|assumption|exact m0|apply m1) ?_|refine .rdpc (by repeat first|assumption|exact m0|apply m1) ?_) (fun _ => rfl) ?_
  intro _
  refine SL.val (Val.move rfl) rfl rfl ?_
  refine SL.val (Val.extract rfl rfl) rfl rfl ?_
  refine SL.val (Val.extract rfl rfl) rfl rfl ?_
  refine SL.val (Val.extract rfl rfl) rfl rfl ?_
  refine SL.val (Val.assign rfl) rfl rfl ?_
  refine SL.val (Val.assign rfl) rfl rfl ?_
  refine SL.val (Val.assign rfl) rfl rfl ?_
  refine SL.nil (SE.seq ?_)
  refine SC.seq ?_
  refine SC.seq (SC.region ?_)
  refine SL.val (Val.move rfl) rfl rfl ?_
  refine SL.val (Val.notB rfl) rfl rfl ?_
  refine SL.nil (SE.seq ?_)
  refine SC.cond rfl ?_ ?_
  · intro hc52
    have hn : (numF (bare l)).2.2 = false := by simpa using hc52
    refine SC.seq (SC.region ?_)
    refine SL.val (Val.buildS tabOk rfl rfl rfl rfl) rfl rfl ?_
    refine SL.val (Val.move rfl) rfl rfl ?_
    refine SL.eff (Eff.store tabOk rfl rfl rfl (by repeat first|assumption|exact Upd.here|apply Upd.there) (by rfl) (Nat.le_of_ble_eq_true (by rfl)) (by rfl) (by rfl)) rfl rfl ?_
    rintro _ _ ⟨rfl, rfl⟩
    refine SL.val (Val.assign rfl) rfl rfl ?_
    refine SL.val (Val.assign rfl) rfl rfl ?_
    refine SL.nil (SE.seq ?_)
    refine SC.ret ?_
    refine SE.then_ (by intro h; cases h) ?_
    refine SE.finC (rs := [.cell 4 25, .tmp 5, .tmp 6]) rfl (RV.cell rfl (RV.cellA tabOk rfl rfl (by first|(apply Or.inl;(repeat first|assumption|exact m0|apply m1);done)|(apply Or.inr;(repeat first|assumption|exact m0|apply m1);done)) (by rfl)) (RV.tmp rfl (RV.tmp rfl RV.nil))) (Casts.cons (cast_agg (Casts.keep (Casts.keep (Casts.nils (s := 3) Casts.refl)))) Casts.refl) (⟨(.mk 0 0 [], bare l, false), DocP.bad ha hb hn rfl⟩) (by repeat first|exact s0 _|exact s1 _|apply s2|apply s3) (by simp [It.rids]) ?_
    first
      | (rw [Frm.abs_mk]; rfl)
      | rfl
  intro hc52
  have hn : (numF (bare l)).2.2 = true := by simpa using hc52
  obtain ⟨v, hv1, hv2, hv3, hv4⟩ := numF_ok hn
  have hb9 := bare_len (numF (bare l)).2.1
  refine SC.skip ?_
  refine SE.seq ?_
  refine SC.seq ?_
  refine SC.seq (SC.region ?_)
  refine SL.val (Val.move rfl) rfl rfl ?_
  refine SL.call (rbare_s (l := (numF (bare l)).2.1)) Casts.refl (by kernel_rfl) rfl rfl rfl ?_
  refine After.pure (by repeat first|exact .nil|refine .blk (by repeat first|assumption|exact m0|apply m1) ?_|refine .rd (by repeat first|assumption|exact m0|apply m1) ?_|refine .pc (by repeat first|assumption|exact m0|apply m1) ?_|refine .rdpc (by repeat first|assumption|exact m0|apply m1) ?_) (fun _ => rfl) ?_
  intro _
  refine SL.call (rbegins_s (l := (bare (numF (bare l)).2.1)) (wd := [111, 102])) Casts.refl (by kernel_rfl) rfl rfl rfl ?_
  refine After.pure (by repeat first|exact .nil|refine .blk (by repeat first|assumption|exact m0|apply m1) ?_|refine .rd (by repeat first|assumption|exact m0|apply m1) ?_|refine .pc (by repeat first|assumption|exact m0|apply m1) ?_|refine .rdpc (by repeat first|assumption|exact m0|apply m1) ?_) (fun _ => rfl) ?_
  intro _
  refine SL.val (Val.notB rfl) rfl rfl ?_
  refine SL.nil (SE.seq ?_)
  refine SC.cond rfl ?_ ?_
  · intro hc58
    have hof : ¬ begins (bare (numF (bare l)).2.1) [111, 102] = true := by simpa using hc58
    refine SC.seq (SC.region ?_)
    refine SL.val (Val.move rfl) rfl rfl ?_
    refine SL.val (Val.buildS tabOk rfl rfl rfl rfl) rfl rfl ?_
    refine SL.val (Val.move rfl) rfl rfl ?_
    refine SL.eff (Eff.store tabOk rfl rfl rfl (by repeat first|assumption|exact Upd.here|apply Upd.there) (by rfl) (Nat.le_of_ble_eq_true (by rfl)) (by rfl) (by rfl)) rfl rfl ?_
    rintro _ _ ⟨rfl, rfl⟩
    refine SL.val (Val.assign rfl) rfl rfl ?_
    refine SL.val (Val.assign rfl) rfl rfl ?_
    refine SL.nil (SE.seq ?_)
    refine SC.ret ?_
    refine SE.then_ (by intro h; cases h) ?_
    refine SE.finC (rs := [.cell 4 25, .tmp 5, .tmp 6]) rfl (RV.cell rfl (RV.cellA tabOk rfl rfl (by first|(apply Or.inl;(repeat first|assumption|exact m0|apply m1);done)|(apply Or.inr;(repeat first|assumption|exact m0|apply m1);done)) (by rfl)) (RV.tmp rfl (RV.tmp rfl RV.nil))) (Casts.cons (cast_agg (Casts.keep (Casts.keep (Casts.nils (s := 3) Casts.refl)))) Casts.refl) (⟨(.mk (numF (bare l)).1 0 [], (numF (bare l)).2.1, true), DocP.org ha hb hn hof⟩) (by repeat first|exact s0 _|exact s1 _|apply s2|apply s3) (by simp [It.rids]) ?_
    first
      | (rw [Frm.abs_mk]; rfl)
      | rfl
  intro hc58
  have hof : begins (bare (numF (bare l)).2.1) [111, 102] = true := by simpa using hc58
  have hol := begins_len hof
  simp only [List.length_cons, List.length_nil] at hol
  refine SC.skip ?_
  refine SE.seq ?_
  refine SC.seq (SC.region ?_)
  refine SL.val (Val.move rfl) rfl rfl ?_
  refine SL.call (rbare_s (l := (numF (bare l)).2.1)) Casts.refl (by kernel_rfl) rfl rfl rfl ?_
  refine After.pure (by repeat first|exact .nil|refine .blk (by repeat first|assumption|exact m0|apply m1) ?_|refine .rd (by repeat first|assumption|exact m0|apply m1) ?_|refine .pc (by repeat first|assumption|exact m0|apply m1) ?_|refine .rdpc (by repeat first|assumption|exact m0|apply m1) ?_) (fun _ => rfl) ?_
  intro _
  refine SL.val (Val.to (C := stA ((bare (numF (bare l)).2.1).drop 2)) (Val.sliceStLo (q := 2) Tryd.underlying9 rfl rfl rfl (by simp only [tx_size]; omega)) (st_lo _ _)) rfl rfl ?_
  refine SL.val (Val.move rfl) rfl rfl ?_
  refine SL.call (rrow_s (l := (bare (numF (bare l)).2.1).drop 2) (by omega) hp (by rw [List.length_drop]; omega)) Casts.refl (by kernel_rfl) rfl rfl rfl ?_
  refine After.pure (by repeat first|exact .nil|refine .blk (by repeat first|assumption|exact m0|apply m1) ?_|refine .rd (by repeat first|assumption|exact m0|apply m1) ?_|refine .pc (by repeat first|assumption|exact m0|apply m1) ?_|refine .rdpc (by repeat first|assumption|exact m0|apply m1) ?_) (fun _ => rfl) ?_
  intro y
  refine SL.val (Val.move rfl) rfl rfl ?_
  refine SL.val (Val.extract rfl rfl) rfl rfl ?_
  refine SL.val (Val.extract rfl rfl) rfl rfl ?_
  refine SL.val (Val.extract rfl rfl) rfl rfl ?_
  refine SL.val (Val.assign rfl) rfl rfl ?_
  refine SL.val (Val.assign rfl) rfl rfl ?_
  refine SL.val (Val.assign rfl) rfl rfl ?_
  refine SL.nil (SE.seq ?_)
  refine SC.seq (SC.region ?_)
  refine SL.val (Val.move rfl) rfl rfl ?_
  refine SL.val (Val.move rfl) rfl rfl ?_
  refine SL.val (Val.buildS tabOk rfl rfl rfl rfl) rfl rfl ?_
  refine SL.val (Val.move rfl) rfl rfl ?_
  refine SL.val (Val.move rfl) rfl rfl ?_
  refine SL.val (Val.move rfl) rfl rfl ?_
  refine SL.both (t := 76) rfl ?_ ?_
  rotate_left
  · intro hc76
    iterate 2 refine SL.skip rfl rfl ?_
    refine SL.val (Val.pickF rfl rfl) rfl rfl ?_
    refine SL.val (Val.move rfl) rfl rfl ?_
    iterate 2 refine SL.skip rfl rfl ?_
    refine SL.val (Val.pickF rfl rfl) rfl rfl ?_
    refine SL.eff (Eff.store tabOk rfl rfl rfl (by repeat first|assumption|exact Upd.here|apply Upd.there) (by rfl) (Nat.le_of_ble_eq_true (by rfl)) (by rfl) (by rfl)) rfl rfl ?_
    rintro _ _ ⟨rfl, rfl⟩
    refine SL.val (Val.assign rfl) rfl rfl ?_
    refine SL.val (Val.assign rfl) rfl rfl ?_
    refine SL.nil (SE.seq ?_)
    refine SC.ret ?_
    refine SE.fin (rs := [.cell 4 25, .tmp 5, .tmp 6]) rfl (RV.cell rfl (RV.cellA tabOk rfl rfl (by first|(apply Or.inl;(repeat first|assumption|exact m0|apply m1);done)|(apply Or.inr;(repeat first|assumption|exact m0|apply m1);done)) (by rfl)) (RV.tmp rfl (RV.tmp rfl RV.nil))) (⟨(.mk 0 (numF (bare l)).1 y.1.1, y.1.2.1, false), DocP.of ha hb hn hof y.2 ⟨fun h => (by cases h), fun h => (by rw [hc76] at h; cases h.1)⟩⟩) (by repeat first|exact s0 _|exact s1 _|apply s2|apply s3) (by simp [It.rids]) ?_
    first
      | (rw [Frm.abs_mk]; rfl)
      | rfl
  intro hc76
  refine SL.val (Val.move rfl) rfl rfl ?_
  refine SL.val (Val.geI rfl rfl) rfl rfl ?_
  refine SL.val (Val.pickT rfl rfl) rfl rfl ?_
  refine SL.val (Val.move rfl) rfl rfl ?_
  refine SL.bothP (t := 80) rfl ?_ ?_
  · intro hc80
    refine SL.val (Val.move rfl) rfl rfl ?_
    refine SL.val (Val.leI rfl rfl) rfl rfl ?_
    refine SL.val (Val.pickT rfl rfl) rfl rfl ?_
    refine SL.eff (Eff.store tabOk rfl rfl rfl (by repeat first|assumption|exact Upd.here|apply Upd.there) (by rfl) (Nat.le_of_ble_eq_true (by rfl)) (by rfl) (by rfl)) rfl rfl ?_
    rintro _ _ ⟨rfl, rfl⟩
    refine SL.val (Val.assign rfl) rfl rfl ?_
    refine SL.val (Val.assign rfl) rfl rfl ?_
    refine SL.nil (SE.seq ?_)
    refine SC.ret ?_
    refine SE.fin (rs := [.cell 4 25, .tmp 5, .tmp 6]) rfl (RV.cell rfl (RV.cellA tabOk rfl rfl (by first|(apply Or.inl;(repeat first|assumption|exact m0|apply m1);done)|(apply Or.inr;(repeat first|assumption|exact m0|apply m1);done)) (by rfl)) (RV.tmp rfl (RV.tmp rfl RV.nil))) (⟨(.mk 0 (numF (bare l)).1 y.1.1, y.1.2.1, decide ((numF (bare l)).1 ≤ 99)), DocP.of ha hb hn hof y.2 (by rw [decide_eq_true_iff]; exact ⟨fun h => ⟨hc76, by omega, h⟩, fun h => h.2.2⟩)⟩) (by repeat first|exact s0 _|exact s1 _|apply s2|apply s3) (by simp [It.rids]) ?_
    first
      | (rw [Frm.abs_mk]; rfl)
      | rfl
  intro hc80
  iterate 2 refine SL.skip rfl rfl ?_
  refine SL.val (Val.pickF rfl rfl) rfl rfl ?_
  refine SL.eff (Eff.store tabOk rfl rfl rfl (by repeat first|assumption|exact Upd.here|apply Upd.there) (by rfl) (Nat.le_of_ble_eq_true (by rfl)) (by rfl) (by rfl)) rfl rfl ?_
  rintro _ _ ⟨rfl, rfl⟩
  refine SL.val (Val.assign rfl) rfl rfl ?_
  refine SL.val (Val.assign rfl) rfl rfl ?_
  refine SL.nil (SE.seq ?_)
  refine SC.ret ?_
  refine SE.fin (rs := [.cell 4 25, .tmp 5, .tmp 6]) rfl (RV.cell rfl (RV.cellA tabOk rfl rfl (by first|(apply Or.inl;(repeat first|assumption|exact m0|apply m1);done)|(apply Or.inr;(repeat first|assumption|exact m0|apply m1);done)) (by rfl)) (RV.tmp rfl (RV.tmp rfl RV.nil))) (⟨(.mk 0 (numF (bare l)).1 y.1.1, y.1.2.1, false), DocP.of ha hb hn hof y.2 ⟨fun h => (by cases h), fun h => absurd h.2.1 (by omega)⟩⟩) (by repeat first|exact s0 _|exact s1 _|apply s2|apply s3) (by simp [It.rids]) ?_
  first
    | (rw [Frm.abs_mk]; rfl)
    | rfl
theorem rpol_s : ∀ k : Nat, k ≤ 10 → ∀ l : Txt, l.length ≤ 1000 → Spec Tryd.prog 17 [stA l, int (11 - (k : Int))] [] (fun _ : {z : Frm × Txt × Bool // DocP k l z} => []) (fun z => .tup [.agg z.1.1.abs, stA z.1.2.1, boo z.1.2.2])
  | 0, _, l, hl => rpol0_s hl
  | k + 1, hk, l, hl => rpol_step (by omega) (by
      rw [show (11 - ((k + 1 : Nat) : Int)) + 1 = 11 - (k : Int) by omega]
      exact rpol_s k (by omega)) hl
theorem rpol1_s (hl : l.length ≤ 1000) : Spec Tryd.prog 17 [stA l, int 1] [] (fun _ : {z : Frm × Txt × Bool // DocP 10 l z} => []) (fun z => .tup [.agg z.1.1.abs, stA z.1.2.1, boo z.1.2.2]) := rpol_s 10 (Nat.le_refl _) l hl
set_option maxHeartbeats 2000000 in
theorem rparse_s  : Spec Tryd.prog 8 [stA l, int n] [] (fun _ : Unit => []) (fun _ => .tup [.agg (parseF l n).1.abs, int (parseF l n).2]) := by
  refine spec_of Tryd.func8 rfl Tryd.ntmps8 rfl fun G w => ?_
  refine SC.seq (SC.region ?_)
  refine SL.eff (Eff.alloc tabOk rfl) rfl rfl ?_
  rintro _ _ ⟨b4, rfl, rfl⟩
  refine SL.val (Val.assign rfl) rfl rfl ?_
  refine SL.nil (SE.seq ?_)
  refine SC.seq ?_
  refine SC.seq (SC.region ?_)
  refine SL.val (Val.move rfl) rfl rfl ?_
  refine SL.val (Val.to (C := int ((l.length : Nat) : Int)) (Val.lenSt rfl Tryd.underlying9) rfl) rfl rfl ?_
  refine SL.val (Val.gtI rfl rfl) rfl rfl ?_
  refine SL.nil (SE.seq ?_)
  refine SC.condP rfl ?_ ?_
  · intro hc12
    have hl2 : 200 < l.length := by omega
    refine SC.seq (SC.region ?_)
    refine SL.val (Val.buildS tabOk rfl rfl rfl rfl) rfl rfl ?_
    refine SL.eff (Eff.store tabOk rfl rfl rfl (by repeat first|assumption|exact Upd.here|apply Upd.there) (by rfl) (Nat.le_of_ble_eq_true (by rfl)) (by rfl) (by rfl)) rfl rfl ?_
    rintro _ _ ⟨rfl, rfl⟩
    refine SL.val (Val.assign rfl) rfl rfl ?_
    refine SL.nil (SE.seq ?_)
    refine SC.ret ?_
    refine SE.then_ (by intro h; cases h) ?_
    refine SE.finC (rs := [.cell 4 25, .tmp 5]) rfl (RV.cell rfl (RV.cellA tabOk rfl rfl (by first|(apply Or.inl;(repeat first|assumption|exact m0|apply m1);done)|(apply Or.inr;(repeat first|assumption|exact m0|apply m1);done)) (by rfl)) (RV.tmp rfl RV.nil)) (Casts.cons (cast_agg (Casts.keep (Casts.keep (Casts.nils (s := 3) Casts.refl)))) Casts.refl) (()) (by repeat first|exact s0 _|exact s1 _|apply s2|apply s3) (by simp [It.rids]) ?_
    rw [parse_long hl2]
    rw [Frm.abs_mk]
    rfl
  intro hc12
  have hl2 : ¬ 200 < l.length := by omega
  refine SC.skip ?_
  refine SE.seq ?_
  refine SC.seq (SC.region ?_)
  refine SL.val (Val.move rfl) rfl rfl ?_
  refine SL.call (rpol1_s (l := l) (by omega)) Casts.refl (by kernel_rfl) rfl rfl rfl ?_
  refine After.pure (by repeat first|exact .nil|refine .blk (by repeat first|assumption|exact m0|apply m1) ?_|refine .rd (by repeat first|assumption|exact m0|apply m1) ?_|refine .pc (by repeat first|assumption|exact m0|apply m1) ?_|refine .rdpc (by repeat first|assumption|exact m0|apply m1) ?_) (fun _ => rfl) ?_
  intro y
  refine SL.val (Val.move rfl) rfl rfl ?_
  refine SL.val (Val.extract rfl rfl) rfl rfl ?_
  refine SL.val (Val.extract rfl rfl) rfl rfl ?_
  refine SL.val (Val.extract rfl rfl) rfl rfl ?_
  refine SL.eff (Eff.alloc tabOk rfl) rfl rfl ?_
  rintro _ _ ⟨b6, rfl, rfl⟩
  refine SL.eff (Eff.store (L' := y.1.1.abs) tabOk rfl rfl rfl (by repeat first|assumption|exact Upd.here|apply Upd.there) (by exact Frm.abs_len _) (Nat.le_of_ble_eq_true (by rfl)) (by exact Frm.abs_ones _) (putL_whole (by exact Frm.abs_len _))) rfl rfl ?_
  rintro _ _ ⟨rfl, rfl⟩
  refine SL.val (Val.assign rfl) rfl rfl ?_
  refine SL.val (Val.assign rfl) rfl rfl ?_
  refine SL.nil (SE.seq ?_)
  refine SC.seq ?_
  refine SC.seq (SC.region ?_)
  refine SL.val (Val.move rfl) rfl rfl ?_
  refine SL.val (Val.notB rfl) rfl rfl ?_
  refine SL.val (Val.move rfl) rfl rfl ?_
  refine SL.both (t := 22) rfl ?_ ?_
  · intro hc22
    have ho : y.1.2.2 = false := by simpa using hc22
    iterate 3 refine SL.skip rfl rfl ?_
    refine SL.val (Val.pickT rfl rfl) rfl rfl ?_
    refine SL.nil (SE.seq ?_)
    refine SC.condT rfl ?_
    refine SC.seq (SC.region ?_)
    refine SL.val (Val.buildS tabOk rfl rfl rfl rfl) rfl rfl ?_
    refine SL.eff (Eff.store tabOk rfl rfl rfl (by repeat first|assumption|exact Upd.here|apply Upd.there) (by rfl) (Nat.le_of_ble_eq_true (by rfl)) (by rfl) (by rfl)) rfl rfl ?_
    rintro _ _ ⟨rfl, rfl⟩
    refine SL.val (Val.assign rfl) rfl rfl ?_
    refine SL.nil (SE.seq ?_)
    refine SC.ret ?_
    refine SE.then_ (by intro h; cases h) ?_
    refine SE.finC (rs := [.cell 4 25, .tmp 5]) rfl (RV.cell rfl (RV.cellA tabOk rfl rfl (by first|(apply Or.inl;(repeat first|assumption|exact m0|apply m1);done)|(apply Or.inr;(repeat first|assumption|exact m0|apply m1);done)) (by rfl)) (RV.tmp rfl RV.nil)) (Casts.cons (cast_agg (Casts.keep (Casts.keep (Casts.nils (s := 3) Casts.refl)))) Casts.refl) (()) (by repeat first|exact s0 _|exact s1 _|apply s2|apply s3) (by simp [It.rids]) ?_
    rw [doc_odd hl2 y.2 (.inl ho)]
    rw [Frm.abs_mk]
    rfl
  intro hc22
  have ho : y.1.2.2 = true := by simpa using hc22
  refine SL.val (Val.move rfl) rfl rfl ?_
  refine SL.call (rbare_s (l := y.1.2.1)) Casts.refl (by kernel_rfl) rfl rfl rfl ?_
  refine After.pure (by repeat first|exact .nil|refine .blk (by repeat first|assumption|exact m0|apply m1) ?_|refine .rd (by repeat first|assumption|exact m0|apply m1) ?_|refine .pc (by repeat first|assumption|exact m0|apply m1) ?_|refine .rdpc (by repeat first|assumption|exact m0|apply m1) ?_) (fun _ => rfl) ?_
  intro _
  refine SL.val (Val.to (C := boo (decide (¬ bare y.1.2.1 = []))) (Val.neS rfl rfl) (congrArg (fun b => Abs.v (Value.bool b)) (decide_eq_decide.2 (not_congr st_eq)))) rfl rfl ?_
  refine SL.val (Val.pickF rfl rfl) rfl rfl ?_
  refine SL.nil (SE.seq ?_)
  refine SC.condP rfl ?_ ?_
  · intro hc26
    refine SC.seq (SC.region ?_)
    refine SL.val (Val.buildS tabOk rfl rfl rfl rfl) rfl rfl ?_
    refine SL.eff (Eff.store tabOk rfl rfl rfl (by repeat first|assumption|exact Upd.here|apply Upd.there) (by rfl) (Nat.le_of_ble_eq_true (by rfl)) (by rfl) (by rfl)) rfl rfl ?_
    rintro _ _ ⟨rfl, rfl⟩
    refine SL.val (Val.assign rfl) rfl rfl ?_
    refine SL.nil (SE.seq ?_)
    refine SC.ret ?_
    refine SE.then_ (by intro h; cases h) ?_
    refine SE.finC (rs := [.cell 4 25, .tmp 5]) rfl (RV.cell rfl (RV.cellA tabOk rfl rfl (by first|(apply Or.inl;(repeat first|assumption|exact m0|apply m1);done)|(apply Or.inr;(repeat first|assumption|exact m0|apply m1);done)) (by rfl)) (RV.tmp rfl RV.nil)) (Casts.cons (cast_agg (Casts.keep (Casts.keep (Casts.nils (s := 3) Casts.refl)))) Casts.refl) (()) (by repeat first|exact s0 _|exact s1 _|apply s2|apply s3) (by simp [It.rids]) ?_
    rw [doc_odd hl2 y.2 (.inr hc26)]
    rw [Frm.abs_mk]
    rfl
  intro hc26
  have hpe := doc_end (n := n) hl2 y.2 ho (Classical.byContradiction hc26)
  refine SC.skip ?_
  refine SE.seq ?_
  refine SC.seq ?_
  refine SC.seq (SC.region ?_)
  refine SL.val (Val.loadA tabOk rfl rfl rfl (by first|(apply Or.inl;(repeat first|assumption|exact m0|apply m1);done)|(apply Or.inr;(repeat first|assumption|exact m0|apply m1);done)) List.not_mem_nil (Frm.abs_len _)) rfl rfl ?_
  refine SL.val (Val.move rfl) rfl rfl ?_
  refine SL.call (rfcheck_s (f := y.1.1) (n := n) (by have := hpe.1; omega)) Casts.refl (by kernel_rfl) rfl rfl rfl ?_
  refine After.pure (by repeat first|exact .nil|refine .blk (by repeat first|assumption|exact m0|apply m1) ?_|refine .rd (by repeat first|assumption|exact m0|apply m1) ?_|refine .pc (by repeat first|assumption|exact m0|apply m1) ?_|refine .rdpc (by repeat first|assumption|exact m0|apply m1) ?_) (fun _ => rfl) ?_
  intro _
  refine SL.val (Val.assign rfl) rfl rfl ?_
  refine SL.nil (SE.seq ?_)
  refine SC.seq (SC.region ?_)
  refine SL.val (Val.move rfl) rfl rfl ?_
  refine SL.val (Val.neI rfl rfl) rfl rfl ?_
  refine SL.nil (SE.seq ?_)
  refine SC.condP rfl ?_ ?_
  rotate_left
  · intro hc32
    refine SC.skip ?_
    refine SE.seq ?_
    refine SC.seq (SC.region ?_)
    refine SL.val (Val.loadA tabOk rfl rfl rfl (by first|(apply Or.inl;(repeat first|assumption|exact m0|apply m1);done)|(apply Or.inr;(repeat first|assumption|exact m0|apply m1);done)) List.not_mem_nil (Frm.abs_len _)) rfl rfl ?_
    refine SL.eff (Eff.store (L' := y.1.1.abs) tabOk rfl rfl rfl (by repeat first|assumption|exact Upd.here|apply Upd.there) (by exact Frm.abs_len _) (Nat.le_of_ble_eq_true (by rfl)) (by exact Frm.abs_ones _) (putL_whole (by exact Frm.abs_len _))) rfl rfl ?_
    rintro _ _ ⟨rfl, rfl⟩
    refine SL.val (Val.assign rfl) rfl rfl ?_
    refine SL.nil (SE.seq ?_)
    refine SC.ret ?_
    refine SE.fin (rs := [.cell 4 25, .tmp 5]) rfl (RV.cell rfl (RV.cellA tabOk rfl rfl (by first|(apply Or.inl;(repeat first|assumption|exact m0|apply m1);done)|(apply Or.inr;(repeat first|assumption|exact m0|apply m1);done)) (by exact Frm.abs_len _)) (RV.tmp rfl RV.nil)) (()) (by repeat first|exact s0 _|exact s1 _|apply s2|apply s3) (by simp [It.rids]) ?_
    rw [hpe.2, if_neg hc32]
    rfl
  intro hc32
  refine SC.seq (SC.region ?_)
  refine SL.val (Val.buildS tabOk rfl rfl rfl rfl) rfl rfl ?_
  refine SL.val (Val.move rfl) rfl rfl ?_
  refine SL.eff (Eff.store tabOk rfl rfl rfl (by repeat first|assumption|exact Upd.here|apply Upd.there) (by rfl) (Nat.le_of_ble_eq_true (by rfl)) (by rfl) (by rfl)) rfl rfl ?_
  rintro _ _ ⟨rfl, rfl⟩
  refine SL.val (Val.assign rfl) rfl rfl ?_
  refine SL.nil (SE.seq ?_)
  refine SC.ret ?_
  refine SE.then_ (by intro h; cases h) ?_
  refine SE.finC (rs := [.cell 4 25, .tmp 5]) rfl (RV.cell rfl (RV.cellA tabOk rfl rfl (by first|(apply Or.inl;(repeat first|assumption|exact m0|apply m1);done)|(apply Or.inr;(repeat first|assumption|exact m0|apply m1);done)) (by rfl)) (RV.tmp rfl RV.nil)) (Casts.cons (cast_agg (Casts.keep (Casts.keep (Casts.nils (s := 3) Casts.refl)))) Casts.refl) (()) (by repeat first|exact s0 _|exact s1 _|apply s2|apply s3) (by simp [It.rids]) ?_
  rw [hpe.2, if_pos hc32]
  rw [Frm.abs_mk]
  rfl
end
end Go.Proofs.YthaahcdfnmfihaaDoor.A
/-
  Policies' texts, plain: how a policy is printed.
-/
set_option maxRecDepth 100000
set_option linter.unusedSimpArgs false
set_option linter.unusedVariables false
namespace Go.Proofs.YthaahcdfnmfihaaDoor.A
open Go.RowKit

def dg (n : Nat) : UInt8 := UInt8.ofNat (48 + n)
/-- A number below 100. -/
def digT (n : Nat) : Txt := if n < 10 then [dg n] else [dg (n / 10), dg (n % 10)]
theorem digT_len (n : Nat) : (digT n).length ≤ 2 := by unfold digT; split <;> simp
/-- Which of a policy's kids. -/
def headT (a : Int) (n : Nat) : Txt := if a = (n : Nat) then [97, 108, 108] else if a = 1 then [97, 110, 121] else digT a.toNat ++ [111, 102]
theorem headT_len (a : Int) (n : Nat) : (headT a n).length ≤ 4 := by
  unfold headT
  split
  · simp
  · split
    · simp
    · have := digT_len a.toNat
      simp only [List.length_append, List.length_cons, List.length_nil]
      omega
mutual
def Frm.text : Frm → Txt
  | .mk o a ks => match ks with
    | [] => digT o.toNat
    | k :: l => headT a (l.length + 1) ++ (40 :: (Frm.text k ++ Frm.texts l)) ++ [41]
def Frm.texts : List Frm → Txt
  | [] => []
  | k :: l => 44 :: (Frm.text k ++ Frm.texts l)
end
/-- Policies, with ',' between each two. -/
def joinT : List Frm → Txt
  | [] => []
  | k :: l => k.text ++ Frm.texts l
theorem Frm.texts_app : ∀ (l m : List Frm), Frm.texts (l ++ m) = Frm.texts l ++ Frm.texts m
  | [], m => rfl
  | k :: l, m => by rw [List.cons_append, Frm.texts, Frm.texts, Frm.texts_app l m, List.cons_append, List.append_assoc]
theorem joinT_snoc (l : List Frm) (k : Frm) : joinT (l ++ [k]) = joinT l ++ (if l = [] then [] else [44]) ++ k.text := by
  cases l with
  | nil => simp [joinT, Frm.texts]
  | cons x l => simp [joinT, Frm.texts_app, Frm.texts, List.append_assoc]
theorem Frm.text_leaf (o a : Int) : (Frm.mk o a []).text = digT o.toNat := by rw [Frm.text]
theorem Frm.text_node (o a : Int) {ks : List Frm} (h : ks ≠ []) : (Frm.mk o a ks).text = headT a ks.length ++ (40 :: joinT ks) ++ [41] := by
  cases ks with
  | nil => exact absurd rfl h
  | cons k l => rw [Frm.text, List.length_cons]; rfl
/-- How long a text gets. -/
theorem Frm.texts_len {ks : List Frm} (h : ∀ k ∈ ks, k.text.length + 1 ≤ 8 * k.nodes) : (Frm.texts ks).length ≤ 8 * Frm.nodess ks := by
  induction ks with
  | nil => simp [Frm.texts]
  | cons k l ih =>
    have h1 := h k List.mem_cons_self
    have h2 := ih fun x hx => h x (List.mem_cons_of_mem _ hx)
    rw [Frm.texts, Frm.nodess, List.length_cons, List.length_append]
    omega
theorem joinT_len {ks : List Frm} (h : ∀ k ∈ ks, k.text.length + 1 ≤ 8 * k.nodes) : (joinT ks).length ≤ 8 * Frm.nodess ks := by
  cases ks with
  | nil => simp [joinT]
  | cons k l =>
    have h1 := h k List.mem_cons_self
    have h2 := Frm.texts_len fun x hx => h x (List.mem_cons_of_mem _ hx)
    rw [joinT, Frm.nodess, List.length_append]
    omega
theorem Frm.text_len (f : Frm) : f.text.length + 1 ≤ 8 * f.nodes := Frm.ind (p := fun f => f.text.length + 1 ≤ 8 * f.nodes) (fun o a ks ih => by
  by_cases hk : ks = []
  · subst hk
    have := digT_len o.toNat
    rw [Frm.text_leaf, Frm.nodes_mk]
    omega
  · have h1 := joinT_len ih
    have h2 := headT_len a ks.length
    rw [Frm.text_node o a hk, Frm.nodes_mk]
    simp only [List.length_append, List.length_cons, List.length_nil]
    omega) f
/-- What stands behind so many kids. -/
def sepT (z : Nat) : UInt8 := if z = 0 then 40 else 44
def rowZ (ks : List Frm) (z : Nat) : Txt := if z = 0 then [] else 40 :: joinT (ks.take z)
theorem rowZ_len (ks : List Frm) (z : Nat) : (rowZ ks z).length ≤ 8 * Frm.nodess (ks.take z) + 1 := by
  unfold rowZ
  split
  · simp
  · have := joinT_len (ks := ks.take z) fun k _ => Frm.text_len k
    rw [List.length_cons]
    omega
theorem rowZ_next {ks : List Frm} {z : Nat} (h : z < ks.length) : rowZ ks (z + 1) = rowZ ks z ++ [sepT z] ++ (ks[z]'h).text := by
  have e : ks.take (z + 1) = ks.take z ++ [ks[z]'h] := List.take_succ_eq_append_getElem h
  unfold rowZ sepT
  rw [if_neg (by omega), e, joinT_snoc]
  rcases Nat.eq_zero_or_pos z with h0 | h0
  · subst h0
    simp [joinT]
  · have hne : ks.take z ≠ [] := by
      intro h1
      have := congrArg List.length h1
      rw [List.length_take, List.length_nil] at this
      omega
    simp [hne, show z ≠ 0 by omega, List.append_assoc]
theorem rowZ_all {ks : List Frm} (h : ks ≠ []) : rowZ ks ks.length = 40 :: joinT ks := by
  have : ks.length ≠ 0 := fun h0 => h (List.length_eq_zero_iff.1 h0)
  unfold rowZ
  rw [if_neg this, List.take_length]
/-- What is printed. -/
def printF (f : Frm) : Txt := if f.check 7 = 0 then f.text else []
end Go.Proofs.YthaahcdfnmfihaaDoor.A
/-
  The second engine: a text's bytes put behind a row of the call's own.
-/
set_option maxRecDepth 100000
set_option linter.unusedSimpArgs false
set_option linter.unusedVariables false
namespace Go.Proofs.YthaahcdfnmfihaaDoor.A
open Go.RowKit

theorem run_append_str_at {P : Program} (w : World) (t u ty e : TypeId) (i : TypeInfo) (ht : P.underlying t = some (.slice e)) (hu : P.underlying u = some .string) (hi : P.info? e = some i) (hz : i.zero = some (.int .u8 0))
    (hsize : i.size = 1) (hby : i.bytes = 1) (v : Value) (n : Nat) (xs : List Value) (hown : w.ownsRow 0 e 1 v n xs) (s : ByteArray) (h63 : n + s.size ≤ maxLen) (hbytes : n + s.size ≤ 140737488355328) :
    ∃ v' w', (Builtin.append_ #[t, u] ty #[v, .string s]).run P w = .ok v' w' ∧ w'.ownsRow 0 e 1 v' (n + s.size) (xs ++ Lib.strCells s) ∧ w.grownBy w' v.ownBlock ∧ (v'.ownBlock = v.ownBlock ∨ ∀ k, v'.ownBlock = some k → w.heap.size ≤ k) := by
  rcases hown.2 with ⟨rfl, rfl⟩ | ⟨g, cap, cur, rfl, hbg, hg, hnc, hcm, hcs, htake⟩
  · obtain ⟨v', w', h1, h2, h3, _⟩ := Lib.run_append_own_string (P := P) w w.heap.size t u ty e i ht hu hi hz hsize hby _ 0 xs ⟨hown.1, .inl ⟨rfl, rfl⟩⟩ s h63 hbytes (Nat.le_refl _)
    refine ⟨v', w', h1, ⟨h2.1, ?_⟩, h3, .inr fun k hk => ?_⟩
    · rcases h2.2 with h | ⟨g, cap, cur, q1, _, q3⟩
      · exact .inl h
      · exact .inr ⟨g, cap, cur, q1, Nat.zero_le _, q3⟩
    · rcases h2.2 with ⟨h, _⟩ | ⟨g, cap, cur, q1, q2, _⟩
      · rw [h] at hk; cases hk
      · rw [q1] at hk; cases hk; exact q2
  · obtain ⟨v', w', h1, h2, h3, _⟩ := Lib.run_append_own_string (P := P) w 0 t u ty e i ht hu hi hz hsize hby _ n xs hown s h63 hbytes (Nat.zero_le _)
    refine ⟨v', w', h1, h2, h3, ?_⟩
    have hxl : xs.length = n := by simpa using hown.1
    by_cases hroom : n + s.size ≤ cap
    · have hcs' : cur.size = cap := by simpa using hcs
      have hr := Lib.run_append_room_string (P := P) w t u ty e i ht hu hi hsize g n cap cur hg s hroom (by omega)
      rw [hr] at h1
      injection h1 with h4 h5
      exact .inl (by rw [← h4]; rfl)
    · have holds : ∀ j u, xs[j]? = some u → w.cell? ((⟨g, 0, none⟩ : Addr).add j) = some u := hown.cells (g := g) rfl
      have hr := Lib.run_append_grow_string (P := P) w t u ty e i (.int .u8 0) ht hu hi hz ⟨g, 0, none⟩ n cap xs (by rw [hsize]; simpa using hxl) holds s (by omega) (by unfold maxLen at h63; omega) (by rw [hby]; exact growslice_fits (by omega) (by omega))
      rw [hr] at h1
      injection h1 with h4 h5
      exact .inr fun k hk => by rw [← h4] at hk; cases hk; exact Nat.le_refl _
theorem strCells_tx (m : List UInt8) : Lib.strCells ⟨m.toArray⟩ = m.map bc := by
  simp [Lib.strCells]
  intro a _
  rfl
section
variable {P : Program} {n : Nat} {W : Wd} {σ τ : Blks} {l : Slots} {X : List Nat} {x y : Operand} {d : Option Nat} {ty t tu e : TypeId} {pos : String} {aft : Array Edge} {g : Option (Nat × Bool)} {v : Value} {m r : List UInt8}
/-- 'append(dst, s...)': dst the call's own bytes, s a text. -/
theorem Eff.appendSt (pre : Blks) {post : Blks} (hu : P.underlying t = some (.slice e)) (hus : P.underlying tu = some .string) (hi : (P.info? e).map (fun i => (i.zero, i.size, i.bytes)) = some (some (.int .u8 0), 1, 1))
    (hx : look l x = some (.v v)) (hy : look l y = some (.v (.string ⟨m.toArray⟩))) (hσ : σ = pre ++ own e 1 v (bs r) :: post) (hm : r.length + m.length ≤ 100000000000) :
    Eff P n W σ l v.ownBlock.toList ⟨d, .call { callee := .builtin .append, args := #[x, y], argTypes := #[t, tu] }, ty, pos, aft, g⟩ fun q τ => ∃ u, q = .v u ∧ τ = pre ++ own e 1 u (bs (r ++ m)) :: post := fun a w hs => by
  subst hσ
  obtain ⟨i, hi, hz, hsz, hby⟩ := info_parts hi
  obtain ⟨us, own1, hr1⟩ : (ownPc e 1 v (bs r)).p _ w := hs.mem.hold (own e 1 v (bs r)) (by simp)
  rw [show bs r = (r.map bc).map fun u => [Abs.v u] from byt_map r] at hr1
  have hus1 : us = r.map bc := repss_ones_eq hr1
  subst hus1
  rw [show (bs r).length = r.length from List.length_map _] at own1
  have hsm : (ByteArray.mk m.toArray).size = m.length := by simp [ByteArray.size]
  obtain ⟨v', w', hrun, h2, h3, h4⟩ := run_append_str_at (P := P) w t tu ty e i hu hus hi hz hsz hby v r.length (r.map bc) own1 ⟨m.toArray⟩ (by rw [hsm]; unfold maxLen; omega) (by rw [hsm]; omega)
  rw [hsm, strCells_tx, ← List.map_append] at h2
  have hlt := World.ownsRow.lt own1
  have hxx : Ext v.ownBlock.toList w w' := ext_grownF h3 fun k hk => .inl (by simpa using hk)
  have hup : Upd (own e 1 v (bs r)) (own e 1 v' (bs (r ++ m))) (pre ++ own e 1 v (bs r) :: post) (pre ++ own e 1 v' (bs (r ++ m)) :: post) := by
    clear hs own1 hr1
    induction pre with
    | nil => exact .here
    | cons p pre ih => exact .there ih
  have hm2 := hs.mem.upd hup hxx own_nodup (fun k hk => ?_) rfl fun hc => ⟨_, by rw [show (bs (r ++ m)).length = r.length + m.length by rw [List.length_map, List.length_append]]; exact h2, by rw [show bs (r ++ m) = ((r ++ m).map bc).map fun u => [Abs.v u] from byt_map _]; exact repss_ones⟩
  · refine ⟨v', w', _, _, ⟨v', rfl, rfl⟩, hxx, rfl, hm2.1, hm2.2, .inl ?_⟩
    simp [execOp, resolve, invoke, builtin, hs.plain hx, hs.plain hy, hrun, Result.andThen]
  · have hk' : v'.ownBlock = some k := by simpa [It.mids, ownPc] using hk
    rcases h4 with h4 | h4
    · exact .inl (by simp [It.mids, ownPc, ← h4, hk'])
    · exact .inr (h4 k hk')
end
end Go.Proofs.YthaahcdfnmfihaaDoor.A
/-
  Policies' texts: how the program prints.
-/
set_option maxRecDepth 100000
set_option linter.unusedSimpArgs false
set_option linter.unusedVariables false
namespace Go.Proofs.YthaahcdfnmfihaaDoor.A
open Go.RowKit

theorem SC.perm {P : Program} {n : Nat} {W : Wd} {σ τ : Blks} {l : Slots} {Q : Exit → Act → World → Prop} {c : Code} (h : τ.Perm σ) (k : SC P c (St n W τ l) Q) : SC P c (St n W σ l) Q := fun a w hs => k a w (hs.perm h)
theorem SL.perm {P : Program} {n : Nat} {W : Wd} {σ τ : Blks} {l : Slots} {Q : Exit → Act → World → Prop} {ops : Array Oper} {rest : List Oper} (h : τ.Perm σ) (k : SL P ops rest (St n W τ l) Q) : SL P ops rest (St n W σ l) Q := fun a w hs => k a w (hs.perm h)
theorem tx_cut (s : ByteArray) (q q' : Nat) : tx (s.extract q q') = ((tx s).take q').drop q := by
  unfold tx
  rw [ByteArray.data_extract, Array.toList_extract]
  rw [List.extract_eq_take_drop]
  rw [List.take_drop]
  rcases Nat.lt_or_ge q' q with h | h
  · rw [show q' - q = 0 by omega, Nat.add_zero, List.drop_of_length_le (by rw [List.length_take]; omega), List.drop_of_length_le (by rw [List.length_take]; omega)]
  · rw [show q + (q' - q) = q' by omega]
theorem small_one {s : ByteArray} {i : Nat} (h : (List.range 10).all (fun i => decide (((tx s).take (i + 1)).drop i = digT i)) = true) (hi : i < 10) : Abs.v (.string (s.extract i (i + 1))) = stA (digT i) :=
  congrArg (fun s => Abs.v (.string s)) (tx_inj (by rw [tx_cut, tx_mk]; exact of_decide_eq_true (List.all_eq_true.1 h i (List.mem_range.2 hi))))
theorem small_two {s : ByteArray} {i : Nat} (h : (List.range 100).all (fun i => decide (i < 10 ∨ ((tx s).take (i * 2 + 2)).drop (i * 2) = digT i)) = true) (hi : i < 100) (h10 : ¬ i < 10) : Abs.v (.string (s.extract (i * 2) (i * 2 + 2))) = stA (digT i) :=
  congrArg (fun s => Abs.v (.string s)) (tx_inj (by
    rw [tx_cut, tx_mk]
    rcases of_decide_eq_true (List.all_eq_true.1 h i (List.mem_range.2 hi)) with h1 | h1
    · exact absurd h1 h10
    · exact h1))
section
variable {l r wd : Txt} {i : Nat} {v : Value} {n o a : Int} {ks : List Frm} {f : Frm}
theorem small_s (h9 : i < 100) : Spec Tryd.prog 63 [int (i : Nat)] [] (fun _ : Unit => []) (fun _ => stA (digT i)) := by
  refine spec_of Tryd.func63 rfl Tryd.ntmps63 rfl fun G w => ?_
  refine SC.seq (SC.region ?_)
  refine SL.val (Val.assign rfl) rfl rfl ?_
  refine SL.nil (SE.seq ?_)
  refine SC.seq ?_
  refine SC.seq (SC.region ?_)
  refine SL.val (Val.move rfl) rfl rfl ?_
  refine SL.val (Val.ltI rfl rfl) rfl rfl ?_
  refine SL.nil (SE.seq ?_)
  refine SC.condP rfl ?_ ?_
  · intro hc4
    refine SC.seq (SC.region ?_)
    refine SL.val (Val.move rfl) rfl rfl ?_
    refine SL.val (Val.move rfl) rfl rfl ?_
    first
      | refine SL.val (Val.addI rfl rfl (by simp only [InR, lo, hi]; omega)) rfl rfl ?_
      | refine SL.val (Val.addW rfl rfl) rfl rfl ?_
    refine SL.val (Val.to (C := stA (digT i)) (Val.sliceStAt (q := i) (q' := i + 1) Tryd.underlying9 rfl rfl rfl rfl (by omega) (by omega) (by show _ ≤ 36; omega)) (small_one (by kernel_rfl) (by omega))) rfl rfl ?_
    refine SL.val (Val.assign rfl) rfl rfl ?_
    refine SL.nil (SE.seq ?_)
    refine SC.ret ?_
    refine SE.then_ (by intro h; cases h) ?_
    refine SE.fin (rs := [.tmp 2]) rfl (RV.tmp rfl RV.nil) (()) (by repeat first|exact s0 _|exact s1 _|apply s2|apply s3) (by simp [It.rids]) ?_
    exact rfl
  intro hc4
  refine SC.skip ?_
  refine SE.seq ?_
  refine SC.seq (SC.region ?_)
  refine SL.val (Val.move rfl) rfl rfl ?_
  first
    | refine SL.val (Val.mulI rfl rfl (by simp only [InR, lo, hi]; omega)) rfl rfl ?_
    | refine SL.val (Val.mulW rfl rfl) rfl rfl ?_
  refine SL.val (Val.move rfl) rfl rfl ?_
  first
    | refine SL.val (Val.mulI rfl rfl (by simp only [InR, lo, hi]; omega)) rfl rfl ?_
    | refine SL.val (Val.mulW rfl rfl) rfl rfl ?_
  first
    | refine SL.val (Val.addI rfl rfl (by simp only [InR, lo, hi]; omega)) rfl rfl ?_
    | refine SL.val (Val.addW rfl rfl) rfl rfl ?_
  refine SL.val (Val.to (C := stA (digT i)) (Val.sliceStAt (q := i * 2) (q' := i * 2 + 2) Tryd.underlying9 rfl rfl rfl (by omega) (by omega) (by omega) (by show _ ≤ 200; omega)) (small_two (by kernel_rfl) h9 (by omega))) rfl rfl ?_
  refine SL.val (Val.assign rfl) rfl rfl ?_
  refine SL.nil (SE.seq ?_)
  refine SC.ret ?_
  refine SE.fin (rs := [.tmp 2]) rfl (RV.tmp rfl RV.nil) (()) (by repeat first|exact s0 _|exact s1 _|apply s2|apply s3) (by simp [It.rids]) ?_
  exact rfl
theorem appu_s (h9 : i < 100) (hr : r.length ≤ 1000000) : Spec Tryd.prog 53 [.v v, .v (.int .u64 (i : Nat)), int 10] [own 5 1 v (bs (r))] (fun z : Value => [own 5 1 z (bs (r ++ digT i))]) (fun z => .v z) := by
  have hdl := digT_len i
  refine spec_of Tryd.func53 rfl Tryd.ntmps53 rfl fun G w => ?_
  refine SC.seq (SC.region ?_)
  refine SL.val (Val.assign rfl) rfl rfl ?_
  refine SL.nil (SE.seq ?_)
  refine SC.seq ?_
  refine SC.seq (SC.region ?_)
  refine SL.val (Val.move rfl) rfl rfl ?_
  refine SL.val (Val.eqI rfl rfl) rfl rfl ?_
  refine SL.nil (SE.seq ?_)
  refine SC.condP rfl ?_ (by intro hc10; exfalso; omega)
  intro hc10
  refine SC.seq ?_
  refine SC.seq (SC.region ?_)
  refine SL.val (Val.move rfl) rfl rfl ?_
  refine SL.val (Val.ltI rfl rfl) rfl rfl ?_
  refine SL.nil (SE.seq ?_)
  refine SC.condP rfl ?_ (by intro hc12; exfalso; omega)
  intro hc12
  refine SC.seq (SC.region ?_)
  refine SL.val (Val.move rfl) rfl rfl ?_
  refine SL.val (Val.move rfl) rfl rfl ?_
  first
    | refine SL.val (Val.convI rfl Tryd.underlying3 (by kernel_rfl) (by simp only [InR, lo, hi]; omega)) rfl rfl ?_
    | refine SL.val (Val.convW rfl Tryd.underlying3 (by kernel_rfl)) rfl rfl ?_
  refine SL.call (small_s (i := i) h9) Casts.refl (by kernel_rfl) rfl rfl rfl ?_
  refine After.pure (by repeat first|exact .nil|refine .blk (by repeat first|assumption|exact m0|apply m1) ?_|refine .rd (by repeat first|assumption|exact m0|apply m1) ?_|refine .pc (by repeat first|assumption|exact m0|apply m1) ?_|refine .rdpc (by repeat first|assumption|exact m0|apply m1) ?_) (fun _ => rfl) ?_
  intro _
  refine SL.eff (Eff.appendSt (m := digT i) (r := r) [] Tryd.underlying36 Tryd.underlying9 info_u8 rfl rfl rfl (by omega)) rfl rfl ?_
  rintro _ _ ⟨r17, rfl, rfl⟩
  refine SL.val (Val.assign rfl) rfl rfl ?_
  refine SL.nil (SE.seq ?_)
  refine SC.ret ?_
  refine SE.then_ (by intro h; cases h) ?_
  refine SE.then_ (by intro h; cases h) ?_
  refine SE.fin (rs := [.tmp 6]) rfl (RV.tmp rfl RV.nil) (r17) (by repeat first|exact s0 _|exact s1 _|apply s2|apply s3) (by simp [It.rids]) ?_
  exact rfl
theorem appi0_s (h9 : i < 100) (hr : r.length ≤ 1000000) : Spec Tryd.prog 44 [.v v, .v (.int .i64 (i : Nat)), int 10] [own 5 1 v (bs (r))] (fun z : Value => [own 5 1 z (bs (r ++ digT i))]) (fun z => .v z) := by
  refine spec_of Tryd.func44 rfl Tryd.ntmps44 rfl fun G w => ?_
  refine SC.seq (SC.region ?_)
  refine SL.val (Val.assign rfl) rfl rfl ?_
  refine SL.nil (SE.seq ?_)
  refine SC.seq (SC.region ?_)
  refine SL.val (Val.move rfl) rfl rfl ?_
  first
    | refine SL.val (Val.convI rfl Tryd.underlying82 (by kernel_rfl) (by simp only [InR, lo, hi]; omega)) rfl rfl ?_
    | refine SL.val (Val.convU rfl Tryd.underlying82 (by kernel_rfl)) rfl rfl ?_
  refine SL.val (Val.assign rfl) rfl rfl ?_
  refine SL.nil (SE.seq ?_)
  refine SC.seq ?_
  refine SC.seq (SC.region ?_)
  refine SL.val (Val.move rfl) rfl rfl ?_
  refine SL.val (Val.ltI rfl rfl) rfl rfl ?_
  refine SL.nil (SE.seq ?_)
  refine SC.condP rfl (by intro hc11; exfalso; omega) ?_
  intro hc11
  refine SC.skip ?_
  refine SE.seq ?_
  refine SC.seq (SC.region ?_)
  refine SL.val (Val.move rfl) rfl rfl ?_
  refine SL.val (Val.move rfl) rfl rfl ?_
  refine SL.val (Val.move rfl) rfl rfl ?_
  refine SL.call (appu_s (v := v) (r := r) (i := i) h9 hr) Casts.refl (by kernel_rfl) rfl rfl rfl ?_
  refine After.mid [] (β := []) rfl (by intro x hx; simp only [List.mem_cons, List.not_mem_nil, or_false] at hx; rcases hx with rfl; rfl) ?_
  intro r20
  refine SL.val (Val.assign rfl) rfl rfl ?_
  refine SL.nil (SE.seq ?_)
  refine SC.ret ?_
  refine SE.fin (rs := [.tmp 6]) rfl (RV.tmp rfl RV.nil) (r20) (by repeat first|exact s0 _|exact s1 _|apply s2|apply s3) (by simp [It.rids]) ?_
  exact rfl
theorem appi_s (h9 : i < 100) (hr : r.length ≤ 1000000) : Spec Tryd.prog 33 [.v v, .v (.int .i64 (i : Nat)), int 10] [own 5 1 v (bs (r))] (fun z : Value => [own 5 1 z (bs (r ++ digT i))]) (fun z => .v z) := by
  refine spec_of Tryd.func33 rfl Tryd.ntmps33 rfl fun G w => ?_
  refine SC.seq (SC.region ?_)
  refine SL.val (Val.assign rfl) rfl rfl ?_
  refine SL.nil (SE.seq ?_)
  refine SC.seq (SC.region ?_)
  refine SL.val (Val.move rfl) rfl rfl ?_
  refine SL.val (Val.move rfl) rfl rfl ?_
  refine SL.val (Val.move rfl) rfl rfl ?_
  refine SL.call (appi0_s (v := v) (r := r) (i := i) h9 hr) Casts.refl (by kernel_rfl) rfl rfl rfl ?_
  refine After.mid [] (β := []) rfl (by intro x hx; simp only [List.mem_cons, List.not_mem_nil, or_false] at hx; rcases hx with rfl; rfl) ?_
  intro r10
  refine SL.val (Val.assign rfl) rfl rfl ?_
  refine SL.nil (SE.seq ?_)
  refine SC.ret ?_
  refine SE.fin (rs := [.tmp 6]) rfl (RV.tmp rfl RV.nil) (r10) (by repeat first|exact s0 _|exact s1 _|apply s2|apply s3) (by simp [It.rids]) ?_
  exact rfl
set_option maxHeartbeats 4000000 in
theorem write_step (ih : ∀ k ∈ ks, ∀ (v : Value) (r : Txt), k.nodes ≤ 32 → k.ranges 7 = true → r.length + 8 * k.nodes ≤ 100000 → Spec Tryd.prog 19 [.v v, .agg k.abs] [own 5 1 v (bs (r))] (fun z : Value => [own 5 1 z (bs (r ++ k.text))]) (fun z => .v z)) (hn : (Frm.mk o a ks).nodes ≤ 32) (hrg : (Frm.mk o a ks).ranges 7 = true) (hr : r.length + 8 * (Frm.mk o a ks).nodes ≤ 100000) : Spec Tryd.prog 19 [.v v, .agg (Frm.mk o a ks).abs] [own 5 1 v (bs (r))] (fun z : Value => [own 5 1 z (bs (r ++ (Frm.mk o a ks).text))]) (fun z => .v z) := by
  rw [Frm.abs_mk]
  have hkr := Frm.kids_range hrg
  have hlen := Frm.length_le ks
  rw [Frm.nodes_mk] at hn hr
  have hhl := headT_len a ks.length
  refine spec_of Tryd.func19 rfl Tryd.ntmps19 rfl fun G w => ?_
  refine SC.seq (SC.region ?_)
  refine SL.eff (Eff.boxA (cs := [int o, int a, .sl 3 (ks.map Frm.abs)]) rfl) rfl rfl ?_
  rintro _ _ ⟨b3, rfl, rfl⟩
  refine SL.perm (List.Perm.swap _ _ _) ?_
  refine SL.val (Val.assign rfl) rfl rfl ?_
  refine SL.nil (SE.seq ?_)
  refine SC.cutS (ι := Value) (fun z => [own 5 1 z (bs (r ++ headT a ks.length)), .blk b3 25 [int o, int a, .sl 3 (ks.map Frm.abs)]]) (fun z => [(0, .v z), (3, ptr b3)]) (fun z => ks ≠ []) ?_ ?_
  · skip
    refine SC.seq (SC.region ?_)
    refine SL.val (Val.fieldAddr tabOk rfl rfl rfl rfl rfl) rfl rfl ?_
    refine SL.val (Val.load1 tabOk rfl rfl (by first|(apply Or.inl;(repeat first|assumption|exact m0|apply m1);done)|(apply Or.inr;(repeat first|assumption|exact m0|apply m1);done)) List.not_mem_nil (by rfl)) rfl rfl ?_
    first
      | refine SL.val (Val.lenSl rfl Tryd.underlying23 (List.length_map _)) rfl rfl ?_
      | refine SL.val (Val.lenOwn rfl (by repeat first|assumption|exact m0|apply m1) Tryd.underlying23 (List.length_map _)) rfl rfl ?_
      | refine SL.val (Val.lenNil rfl Tryd.underlying23) rfl rfl ?_
    refine SL.val (Val.assign rfl) rfl rfl ?_
    refine SL.nil (SE.seq ?_)
    refine SC.block ?_
    refine SC.seq (SC.region ?_)
    refine SL.val (Val.move rfl) rfl rfl ?_
    refine SL.val (Val.eqI rfl rfl) rfl rfl ?_
    refine SL.val (Val.assign rfl) rfl rfl ?_
    refine SL.nil (SE.seq ?_)
    refine SC.condP rfl ?_ ?_
    · intro hc17
      have hk0 : ks = [] := List.eq_nil_of_length_eq_zero (by omega)
      subst hk0
      have hro := hrg
      rw [Frm.ranges_leaf, decide_eq_true_iff] at hro
      obtain ⟨m, rfl⟩ : ∃ m : Nat, o = (m : Nat) := ⟨o.toNat, by omega⟩
      refine SC.seq (SC.region ?_)
      refine SL.val (Val.move rfl) rfl rfl ?_
      refine SL.val (Val.fieldAddr tabOk rfl rfl rfl rfl rfl) rfl rfl ?_
      refine SL.val (Val.load1 tabOk rfl rfl (by first|(apply Or.inl;(repeat first|assumption|exact m0|apply m1);done)|(apply Or.inr;(repeat first|assumption|exact m0|apply m1);done)) List.not_mem_nil (by rfl)) rfl rfl ?_
      refine SL.call (appi_s (v := v) (r := r) (i := m) (by omega) (by omega)) Casts.refl (by kernel_rfl) rfl rfl rfl ?_
      refine After.mid [] (β := [_]) rfl (by intro x hx; simp only [List.mem_cons, List.not_mem_nil, or_false] at hx; rcases hx with rfl; rfl) ?_
      intro r23
      refine SL.val (Val.assign rfl) rfl rfl ?_
      refine SL.nil (SE.seq ?_)
      refine SC.ret ?_
      refine SE.ret ?_
      refine SE.then_ (by intro h; cases h) ?_
      refine SE.fin (rs := [.tmp 4]) rfl (RV.tmp rfl RV.nil) (r23) (by rw [Frm.text_leaf]; exact List.Sublist.cons_cons _ (List.nil_sublist _)) (by simp [It.rids]) ?_
      exact rfl
    intro hc17
    have hk0 : ks ≠ [] := by rintro rfl; simp at hc17
    have hro := hrg
    rw [Frm.ranges_node 7 o a hk0, Bool.and_eq_true, decide_eq_true_iff] at hro
    obtain ⟨m, rfl⟩ : ∃ m : Nat, a = (m : Nat) := ⟨a.toNat, by omega⟩
    refine SC.seq (SC.region ?_)
    refine SL.val (Val.fieldAddr tabOk rfl rfl rfl rfl rfl) rfl rfl ?_
    refine SL.val (Val.load1 tabOk rfl rfl (by first|(apply Or.inl;(repeat first|assumption|exact m0|apply m1);done)|(apply Or.inr;(repeat first|assumption|exact m0|apply m1);done)) List.not_mem_nil (by rfl)) rfl rfl ?_
    refine SL.val (Val.move rfl) rfl rfl ?_
    refine SL.val (Val.eqI rfl rfl) rfl rfl ?_
    refine SL.val (Val.assign rfl) rfl rfl ?_
    refine SL.nil (SE.seq ?_)
    refine SC.condP rfl ?_ ?_
    · intro hc24
      refine SC.region ?_
      refine SL.val (Val.move rfl) rfl rfl ?_
      refine SL.eff (Eff.appendSt (m := [97, 108, 108]) (r := r) [] Tryd.underlying36 Tryd.underlying9 info_u8 rfl rfl rfl (by simp only [List.length_cons, List.length_nil]; omega)) rfl rfl ?_
      rintro _ _ ⟨r30, rfl, rfl⟩
      refine SL.val (Val.assign rfl) rfl rfl ?_
      refine SL.nil ?_
      refine SE.inBlock ?_
      refine SE.meet (r30) (hk0) (by exact ⟨rfl, rfl, trivial⟩) (by rw [show headT (m : Nat) ks.length = [97, 108, 108] from if_pos hc24]; exact List.Sublist.refl _)
    intro hc24
    refine SC.seq (SC.region ?_)
    refine SL.val (Val.fieldAddr tabOk rfl rfl rfl rfl rfl) rfl rfl ?_
    refine SL.val (Val.load1 tabOk rfl rfl (by first|(apply Or.inl;(repeat first|assumption|exact m0|apply m1);done)|(apply Or.inr;(repeat first|assumption|exact m0|apply m1);done)) List.not_mem_nil (by rfl)) rfl rfl ?_
    refine SL.val (Val.eqI rfl rfl) rfl rfl ?_
    refine SL.val (Val.assign rfl) rfl rfl ?_
    refine SL.nil (SE.seq ?_)
    refine SC.condP rfl ?_ ?_
    · intro hc31
      refine SC.region ?_
      refine SL.val (Val.move rfl) rfl rfl ?_
      refine SL.eff (Eff.appendSt (m := [97, 110, 121]) (r := r) [] Tryd.underlying36 Tryd.underlying9 info_u8 rfl rfl rfl (by simp only [List.length_cons, List.length_nil]; omega)) rfl rfl ?_
      rintro _ _ ⟨r36, rfl, rfl⟩
      refine SL.val (Val.assign rfl) rfl rfl ?_
      refine SL.nil ?_
      refine SE.inBlock ?_
      refine SE.meet (r36) (hk0) (by exact ⟨rfl, rfl, trivial⟩) (by rw [show headT (m : Nat) ks.length = [97, 110, 121] from (if_neg hc24).trans (if_pos hc31)]; exact List.Sublist.refl _)
    intro hc31
    refine SC.region ?_
    refine SL.val (Val.move rfl) rfl rfl ?_
    refine SL.val (Val.fieldAddr tabOk rfl rfl rfl rfl rfl) rfl rfl ?_
    refine SL.val (Val.load1 tabOk rfl rfl (by first|(apply Or.inl;(repeat first|assumption|exact m0|apply m1);done)|(apply Or.inr;(repeat first|assumption|exact m0|apply m1);done)) List.not_mem_nil (by rfl)) rfl rfl ?_
    refine SL.call (appi_s (v := v) (r := r) (i := m) (by omega) (by omega)) Casts.refl (by kernel_rfl) rfl rfl rfl ?_
    refine After.mid [] (β := [_]) rfl (by intro x hx; simp only [List.mem_cons, List.not_mem_nil, or_false] at hx; rcases hx with rfl; rfl) ?_
    intro r15
    refine SL.eff (Eff.appendSt (m := [111, 102]) (r := r ++ digT m) [] Tryd.underlying36 Tryd.underlying9 info_u8 rfl rfl rfl (by have := digT_len m; simp only [List.length_append, List.length_cons, List.length_nil]; omega)) rfl rfl ?_
    rintro _ _ ⟨r16, rfl, rfl⟩
    refine SL.val (Val.assign rfl) rfl rfl ?_
    refine SL.nil ?_
    refine SE.inBlock ?_
    refine SE.meet (r16) (hk0) (by exact ⟨rfl, rfl, trivial⟩) (by rw [show headT (m : Nat) ks.length = digT m ++ [111, 102] from (if_neg hc24).trans (if_neg hc31), ← List.append_assoc]; exact List.Sublist.refl _)
  · intro z hz
    have hk0 : ks ≠ [] := hz
    refine SC.seq (SC.region ?_)
    refine SL.val (Val.assign rfl) rfl rfl ?_
    refine SL.nil (SE.seq ?_)
    refine SC.seq ?_
    refine SC.seq (SC.region ?_)
    refine SL.val (Val.fieldAddr tabOk rfl rfl rfl rfl rfl) rfl rfl ?_
    refine SL.val (Val.load1 tabOk rfl rfl (by first|(apply Or.inl;(repeat first|assumption|exact m0|apply m1);done)|(apply Or.inr;(repeat first|assumption|exact m0|apply m1);done)) List.not_mem_nil (by rfl)) rfl rfl ?_
    first
      | refine SL.val (Val.lenSl rfl Tryd.underlying23 (List.length_map _)) rfl rfl ?_
      | refine SL.val (Val.lenOwn rfl (by repeat first|assumption|exact m0|apply m1) Tryd.underlying23 (List.length_map _)) rfl rfl ?_
      | refine SL.val (Val.lenNil rfl Tryd.underlying23) rfl rfl ?_
    refine SL.val (Val.move rfl) rfl rfl ?_
    refine SL.nil (SE.seq ?_)
    refine SC.block ?_
    refine SC.loop (ι := Nat × Value) (fun z => [own 5 1 z.2 (bs (r ++ headT a ks.length ++ rowZ ks z.1)), .blk b3 25 [int o, int a, .sl 3 (ks.map Frm.abs)]]) (fun z => [(0, .v z.2), (3, ptr b3), (6, .v (.int .u8 ((sepT z.1).toNat : Nat))), (38, .sl 3 (ks.map Frm.abs)), (39, int (ks.length : Nat)), (40, int (z.1 : Nat))]) (fun z => z.1 ≤ ks.length) (fun z => ks.length - z.1) (0, z) (Nat.zero_le _) (by exact ⟨rfl, rfl, rfl, rfl, rfl, rfl, trivial⟩) (by rw [show rowZ ks 0 = [] from rfl, List.append_nil]; exact List.Sublist.refl _) ?_
    intro z hz
    refine SC.seq (SC.region ?_)
    refine SL.val (Val.ltI rfl rfl) rfl rfl ?_
    refine SL.nil (SE.seq ?_)
    refine SC.seq ?_
    refine SC.condP rfl ?_ ?_
    rotate_left
    · intro hc41
      have hz2 : z.1 = ks.length := by omega
      have hrl := rowZ_len ks z.1
      have htl := Frm.take_nodes (ks := ks) z.1
      refine SC.exit ?_
      refine SE.then_ (by intro h; cases h) ?_
      refine SE.then_ (by intro h; cases h) ?_
      refine SE.exit ?_
      refine SE.seq ?_
      refine SC.seq (SC.region ?_)
      refine SL.val (Val.move rfl) rfl rfl ?_
      refine SL.eff (Eff.buildSl tabOk Tryd.underlying36 rfl rfl rfl rfl rfl rfl rfl) rfl rfl ?_
      rintro _ _ ⟨rfl, rfl⟩
      refine SL.eff (Eff.appendE (zs := bs (r ++ headT a ks.length ++ rowZ ks z.1 ++ [41])) tabOk [] (by rw [show bs (r ++ headT a ks.length ++ rowZ ks z.1 ++ [41]) = bs (r ++ headT a ks.length ++ rowZ ks z.1) ++ bs [41] from List.map_append]; rfl) Tryd.underlying36 rfl rfl rfl rfl rfl rfl (by intro c hc; rw [List.mem_singleton] at hc; subst hc; rfl) (by unfold maxLen; simp only [bs, List.length_map, List.length_append, List.length_cons, List.length_nil]; omega) (by rw [show Tryd.prog.bytesOf 5 = 1 by kernel_rfl]; simp only [bs, List.length_map, List.length_append, List.length_cons, List.length_nil]; omega)) rfl rfl ?_
      rintro _ _ ⟨r53, rfl, rfl⟩
      refine SL.val (Val.assign rfl) rfl rfl ?_
      refine SL.nil (SE.seq ?_)
      refine SC.ret ?_
      refine SE.fin (rs := [.tmp 4]) rfl (RV.tmp rfl RV.nil) (r53) (by rw [show r ++ (Frm.mk o a ks).text = r ++ headT a ks.length ++ rowZ ks z.1 ++ [41] by rw [Frm.text_node o _ hk0, hz2, rowZ_all hk0]; simp only [List.append_assoc]]; exact List.Sublist.cons_cons _ (List.nil_sublist _)) (by simp [It.rids]) ?_
      exact rfl
    intro hc41
    have hlt : z.1 < ks.length := by omega
    have hkz := Frm.nodes_mem (List.getElem_mem hlt)
    have htn := Frm.take_nodes1 hlt
    have htl := Frm.take_nodes (ks := ks) (z.1 + 1)
    have hrl := rowZ_len ks z.1
    refine SC.skip ?_
    refine SE.seq ?_
    refine SC.seq ?_
    refine SC.block ?_
    refine SC.seq (SC.region ?_)
    refine SL.val (Val.indexSl tabOk Tryd.underlying23 rfl rfl rfl rfl (at_map (by omega)) rfl rfl) rfl rfl ?_
    refine SL.val (Val.loadAR tabOk rfl rfl rfl (Frm.abs_len _)) rfl rfl ?_
    refine SL.eff (Eff.alloc tabOk rfl) rfl rfl ?_
    rintro _ _ ⟨b8, rfl, rfl⟩
    refine SL.eff (Eff.store (L' := (ks[z.1]'hlt).abs) tabOk rfl rfl rfl (by repeat first|assumption|exact Upd.here|apply Upd.there) (by exact Frm.abs_len _) (Nat.le_of_ble_eq_true (by rfl)) (by exact Frm.abs_ones _) (putL_whole (by exact Frm.abs_len _))) rfl rfl ?_
    rintro _ _ ⟨rfl, rfl⟩
    refine SL.nil (SE.seq ?_)
    refine SC.seq ?_
    refine SC.perm (List.Perm.swap _ _ _) ?_
    refine SC.known (p := b8 ∉ (mids [own 5 1 z.2 (bs (r ++ headT a ks.length ++ rowZ ks z.1))] ++ [])) (fun _ _ h => by
        have h1 := h.mem.nodup
        simp [mids, It.mids, ownPc] at h1 ⊢
        grind) fun hX => ?_
    refine SC.draw (mids [own 5 1 z.2 (bs (r ++ headT a ks.length ++ rowZ ks z.1))] ++ []) (.q 0 (.q 1 (.q 4 (.e 2 (.e 3 (.e 5 (.q 6 .nil))))))) (by kernel_rfl) (by kernel_rfl) ?_
    refine SX.hx (by first|(simp[mids,It.mids,ownPc];done)|(intro k hk;simp[mids,It.mids,ownPc] at hk ⊢;grind)) fun hx9 => ?_
    refine SX.val rfl (Val.move rfl) hx9 rfl rfl ?_
    refine SX.val rfl (Val.move rfl) hx9 rfl rfl ?_
    refine SX.val rfl (Val.loadA tabOk rfl rfl rfl (by first|(apply Or.inl;(repeat first|assumption|exact m0|apply m1);done)|(apply Or.inr;(repeat first|assumption|exact m0|apply m1);done)) hX (Frm.abs_len _)) hx9 rfl rfl ?_
    refine SX.eff rfl (Eff.buildSl tabOk Tryd.underlying36 rfl rfl rfl rfl rfl rfl rfl) (by simp) rfl rfl ?_
    rintro _ _ ⟨rfl, rfl⟩
    refine SX.effN [own 5 1 z.2 (bs (r ++ headT a ks.length ++ rowZ ks z.1))] [] rfl (Eff.appendE (zs := bs (r ++ headT a ks.length ++ rowZ ks z.1 ++ [sepT z.1])) tabOk [] (by rw [show bs (r ++ headT a ks.length ++ rowZ ks z.1 ++ [sepT z.1]) = bs (r ++ headT a ks.length ++ rowZ ks z.1) ++ bs [sepT z.1] from List.map_append]; rfl) Tryd.underlying36 rfl rfl rfl rfl rfl rfl (by intro c hc; rw [List.mem_singleton] at hc; subst hc; rfl) (by unfold maxLen; simp only [bs, List.length_map, List.length_append, List.length_cons, List.length_nil]; omega) (by rw [show Tryd.prog.bytesOf 5 = 1 by kernel_rfl]; simp only [bs, List.length_map, List.length_append, List.length_cons, List.length_nil]; omega)) rfl (by first | exact own_mid List.mem_cons_self | (simp; done) | (intro k hk; simp [mids, It.mids, ownPc] at hk ⊢; exact hk)) rfl rfl ?_
    rintro _ _ ⟨r47, rfl, rfl⟩
    refine ⟨[own 5 1 r47 (bs (r ++ headT a ks.length ++ rowZ ks z.1 ++ [sepT z.1]))], rfl, ?_⟩
    refine SX.callX ([]) rfl (ih (ks[z.1]'hlt) (List.getElem_mem hlt) r47 (r ++ headT a ks.length ++ rowZ ks z.1 ++ [sepT z.1]) (by omega) (hkr _ (List.getElem_mem hlt)) (by simp only [List.length_append, List.length_cons, List.length_nil]; omega)) (by simp [mids, It.mids, ownPc]) (by simp) Casts.refl (by kernel_rfl) rfl rfl rfl ?_
    refine After.mid [] (β := [_, _]) rfl (by intro x hx; simp only [List.mem_cons, List.not_mem_nil, or_false] at hx; rcases hx with rfl; rfl) ?_
    intro z49
    refine SX.val rfl (Val.assign rfl) (by simp) rfl rfl ?_
    refine SX.nil (SE.seq ?_)
    refine SC.region ?_
    refine SL.val (Val.assign rfl) rfl rfl ?_
    refine SL.nil ?_
    refine SE.inBlock ?_
    refine SE.seq ?_
    refine SC.region ?_
    first
      | refine SL.val (Val.addI rfl rfl (by simp only [InR, lo, hi]; omega)) rfl rfl ?_
      | refine SL.val (Val.addW rfl rfl) rfl rfl ?_
    refine SL.val (Val.move rfl) rfl rfl ?_
    refine SL.nil ?_
    refine SE.round (z.1 + 1, z49) (by first | omega | (dsimp only; omega)) (by first | omega | (dsimp only; omega)) (by exact ⟨rfl, rfl, congrArg (fun k : UInt8 => some (Abs.v (.int .u8 (k.toNat : Nat)))) (show (44 : UInt8) = sepT (z.1 + 1) from (if_neg (by omega)).symm), rfl, rfl, rfl, trivial⟩) (by rw [rowZ_next hlt]; simp only [List.append_assoc]; repeat (first | exact List.nil_sublist _ | exact List.Sublist.refl _ | apply List.Sublist.cons_cons | apply List.Sublist.cons))
theorem write_s (f : Frm) : ∀ (v : Value) (r : Txt), f.nodes ≤ 32 → f.ranges 7 = true → r.length + 8 * f.nodes ≤ 100000 → Spec Tryd.prog 19 [.v v, .agg f.abs] [own 5 1 v (bs (r))] (fun z : Value => [own 5 1 z (bs (r ++ f.text))]) (fun z => .v z) := Frm.ind (p := fun f => ∀ (v : Value) (r : Txt), f.nodes ≤ 32 → f.ranges 7 = true → r.length + 8 * f.nodes ≤ 100000 → Spec Tryd.prog 19 [.v v, .agg f.abs] [own 5 1 v (bs (r))] (fun z : Value => [own 5 1 z (bs (r ++ f.text))]) (fun z => .v z)) (fun o a ks ih v r hn hrg hr => write_step ih hn hrg hr) f
end
end Go.Proofs.YthaahcdfnmfihaaDoor.A
/-
  Policies' texts: Print, the document's, and whether policies are alike.
-/
set_option maxRecDepth 100000
set_option linter.unusedSimpArgs false
set_option linter.unusedVariables false
namespace Go.Proofs.YthaahcdfnmfihaaDoor.A
open Go.RowKit

section
variable {l r wd : Txt} {i : Nat} {n o a : Int} {ks : List Frm} {f : Frm} {es er : Value}
theorem print_s (hn : f.nodes ≤ 1099511627000) : Spec Tryd.prog 11 [.agg f.abs] [] (fun _ : Unit => []) (fun _ => stA (printF f)) := by
  refine spec_of Tryd.func11 rfl Tryd.ntmps11 rfl fun G w => ?_
  refine SC.seq (SC.region ?_)
  refine SL.eff (Eff.boxA (cs := f.abs) rfl) rfl rfl ?_
  rintro _ _ ⟨b1, rfl, rfl⟩
  refine SL.val (Val.assign rfl) rfl rfl ?_
  refine SL.nil (SE.seq ?_)
  refine SC.seq ?_
  refine SC.seq (SC.region ?_)
  refine SL.val (Val.loadA tabOk rfl rfl rfl (by first|(apply Or.inl;(repeat first|assumption|exact m0|apply m1);done)|(apply Or.inr;(repeat first|assumption|exact m0|apply m1);done)) List.not_mem_nil (Frm.abs_len _)) rfl rfl ?_
  refine SL.call (fcheck_s (f := f) (n := 7) hn) Casts.refl (by kernel_rfl) rfl rfl rfl ?_
  refine After.pure (by repeat first|exact .nil|refine .blk (by repeat first|assumption|exact m0|apply m1) ?_|refine .rd (by repeat first|assumption|exact m0|apply m1) ?_|refine .pc (by repeat first|assumption|exact m0|apply m1) ?_|refine .rdpc (by repeat first|assumption|exact m0|apply m1) ?_) (fun _ => rfl) ?_
  intro _
  refine SL.val (Val.neI rfl rfl) rfl rfl ?_
  refine SL.nil (SE.seq ?_)
  refine SC.condP rfl ?_ ?_
  · intro hc5
    refine SC.seq (SC.region ?_)
    refine SL.val (Val.assign rfl) rfl rfl ?_
    refine SL.nil (SE.seq ?_)
    refine SC.ret ?_
    refine SE.then_ (by intro h; cases h) ?_
    refine SE.fin (rs := [.tmp 2]) rfl (RV.tmp rfl RV.nil) (()) (by repeat first|exact s0 _|exact s1 _|apply s2|apply s3) (by simp [It.rids]) ?_
    rw [show printF f = [] from if_neg hc5]
    rfl
  intro hc5
  refine SC.skip ?_
  refine SE.seq ?_
  refine SC.seq (SC.region ?_)
  refine SL.val (Val.loadA tabOk rfl rfl rfl (by first|(apply Or.inl;(repeat first|assumption|exact m0|apply m1);done)|(apply Or.inr;(repeat first|assumption|exact m0|apply m1);done)) List.not_mem_nil (Frm.abs_len _)) rfl rfl ?_
  refine SL.own0 5 1 ?_
  have hck := Frm.check_ok.1 (Classical.byContradiction hc5)
  refine SL.call (write_s f (.slice none 0 0) [] (by omega) hck.2.2.2 (by simp only [List.length_nil]; omega)) Casts.refl (by kernel_rfl) rfl rfl rfl ?_
  refine After.mid [] (β := [_]) rfl (by intro x hx; simp only [List.mem_cons, List.not_mem_nil, or_false] at hx; rcases hx with rfl; rfl) ?_
  intro z7
  refine SL.freeze [] (t := 7) rfl rfl ?_
  refine SL.val (Val.strOf (m := [] ++ f.text) rfl) rfl rfl ?_
  refine SL.val (Val.assign rfl) rfl rfl ?_
  refine SL.nil (SE.seq ?_)
  refine SC.ret ?_
  refine SE.fin (rs := [.tmp 2]) rfl (RV.tmp rfl RV.nil) (()) (by repeat first|exact s0 _|exact s1 _|apply s2|apply s3) (by simp [It.rids]) ?_
  rw [show printF f = f.text from if_pos (Classical.byContradiction hc5)]
  rfl
set_option maxHeartbeats 1000000 in
theorem same_step (ih : ∀ k ∈ ks, k.nodes ≤ 1099511627776 → Spec Tryd.prog 9 [.agg k.abs, .agg k.abs] [] (fun _ : Unit => []) (fun _ => boo true)) (hn : (Frm.mk o a ks).nodes ≤ 1099511627776) : Spec Tryd.prog 9 [.agg (Frm.mk o a ks).abs, .agg (Frm.mk o a ks).abs] [] (fun _ : Unit => []) (fun _ => boo true) := by
  rw [Frm.abs_mk]
  have hlen := Frm.length_le ks
  rw [Frm.nodes_mk] at hn
  refine spec_of Tryd.func9 rfl Tryd.ntmps9 rfl fun G w => ?_
  refine SC.seq (SC.region ?_)
  refine SL.eff (Eff.boxA (cs := [int o, int a, .sl 3 (ks.map Frm.abs)]) rfl) rfl rfl ?_
  rintro _ _ ⟨b2, rfl, rfl⟩
  refine SL.eff (Eff.boxA (cs := [int o, int a, .sl 3 (ks.map Frm.abs)]) rfl) rfl rfl ?_
  rintro _ _ ⟨b3, rfl, rfl⟩
  refine SL.val (Val.assign rfl) rfl rfl ?_
  refine SL.nil (SE.seq ?_)
  refine SC.seq ?_
  refine SC.seq (SC.region ?_)
  refine SL.val (Val.fieldAddr tabOk rfl rfl rfl rfl rfl) rfl rfl ?_
  refine SL.val (Val.load1 tabOk rfl rfl (by first|(apply Or.inl;(repeat first|assumption|exact m0|apply m1);done)|(apply Or.inr;(repeat first|assumption|exact m0|apply m1);done)) List.not_mem_nil (by rfl)) rfl rfl ?_
  refine SL.val (Val.fieldAddr tabOk rfl rfl rfl rfl rfl) rfl rfl ?_
  refine SL.val (Val.load1 tabOk rfl rfl (by first|(apply Or.inl;(repeat first|assumption|exact m0|apply m1);done)|(apply Or.inr;(repeat first|assumption|exact m0|apply m1);done)) List.not_mem_nil (by rfl)) rfl rfl ?_
  refine SL.val (Val.neI rfl rfl) rfl rfl ?_
  refine SL.val (Val.move rfl) rfl rfl ?_
  refine SL.bothP (t := 11) rfl (by intro hc11; exfalso; omega) ?_
  intro hc11
  refine SL.val (Val.fieldAddr tabOk rfl rfl rfl rfl rfl) rfl rfl ?_
  refine SL.val (Val.load1 tabOk rfl rfl (by first|(apply Or.inl;(repeat first|assumption|exact m0|apply m1);done)|(apply Or.inr;(repeat first|assumption|exact m0|apply m1);done)) List.not_mem_nil (by rfl)) rfl rfl ?_
  refine SL.val (Val.fieldAddr tabOk rfl rfl rfl rfl rfl) rfl rfl ?_
  refine SL.val (Val.load1 tabOk rfl rfl (by first|(apply Or.inl;(repeat first|assumption|exact m0|apply m1);done)|(apply Or.inr;(repeat first|assumption|exact m0|apply m1);done)) List.not_mem_nil (by rfl)) rfl rfl ?_
  refine SL.val (Val.neI rfl rfl) rfl rfl ?_
  refine SL.val (Val.pickF rfl rfl) rfl rfl ?_
  refine SL.val (Val.move rfl) rfl rfl ?_
  refine SL.bothP (t := 18) rfl (by intro hc18; exfalso; omega) ?_
  intro hc18
  refine SL.val (Val.fieldAddr tabOk rfl rfl rfl rfl rfl) rfl rfl ?_
  refine SL.val (Val.load1 tabOk rfl rfl (by first|(apply Or.inl;(repeat first|assumption|exact m0|apply m1);done)|(apply Or.inr;(repeat first|assumption|exact m0|apply m1);done)) List.not_mem_nil (by rfl)) rfl rfl ?_
  first
    | refine SL.val (Val.lenSl rfl Tryd.underlying23 (List.length_map _)) rfl rfl ?_
    | refine SL.val (Val.lenOwn rfl (by repeat first|assumption|exact m0|apply m1) Tryd.underlying23 (List.length_map _)) rfl rfl ?_
    | refine SL.val (Val.lenNil rfl Tryd.underlying23) rfl rfl ?_
  refine SL.val (Val.fieldAddr tabOk rfl rfl rfl rfl rfl) rfl rfl ?_
  refine SL.val (Val.load1 tabOk rfl rfl (by first|(apply Or.inl;(repeat first|assumption|exact m0|apply m1);done)|(apply Or.inr;(repeat first|assumption|exact m0|apply m1);done)) List.not_mem_nil (by rfl)) rfl rfl ?_
  first
    | refine SL.val (Val.lenSl rfl Tryd.underlying23 (List.length_map _)) rfl rfl ?_
    | refine SL.val (Val.lenOwn rfl (by repeat first|assumption|exact m0|apply m1) Tryd.underlying23 (List.length_map _)) rfl rfl ?_
    | refine SL.val (Val.lenNil rfl Tryd.underlying23) rfl rfl ?_
  refine SL.val (Val.neI rfl rfl) rfl rfl ?_
  refine SL.val (Val.pickF rfl rfl) rfl rfl ?_
  refine SL.nil (SE.seq ?_)
  refine SC.condP rfl (by intro hc26; exfalso; omega) ?_
  intro hc26
  refine SC.skip ?_
  refine SE.seq ?_
  refine SC.seq ?_
  refine SC.seq (SC.region ?_)
  refine SL.val (Val.fieldAddr tabOk rfl rfl rfl rfl rfl) rfl rfl ?_
  refine SL.val (Val.load1 tabOk rfl rfl (by first|(apply Or.inl;(repeat first|assumption|exact m0|apply m1);done)|(apply Or.inr;(repeat first|assumption|exact m0|apply m1);done)) List.not_mem_nil (by rfl)) rfl rfl ?_
  first
    | refine SL.val (Val.lenSl rfl Tryd.underlying23 (List.length_map _)) rfl rfl ?_
    | refine SL.val (Val.lenOwn rfl (by repeat first|assumption|exact m0|apply m1) Tryd.underlying23 (List.length_map _)) rfl rfl ?_
    | refine SL.val (Val.lenNil rfl Tryd.underlying23) rfl rfl ?_
  refine SL.val (Val.move rfl) rfl rfl ?_
  refine SL.nil (SE.seq ?_)
  refine SC.block ?_
  refine SC.loop (ι := Nat) (fun z => [.blk b3 25 [int o, int a, .sl 3 (ks.map Frm.abs)], .blk b2 25 [int o, int a, .sl 3 (ks.map Frm.abs)]]) (fun z => [(2, ptr b2), (3, ptr b3), (29, int (ks.length : Nat)), (30, int (z : Nat))]) (fun z => z ≤ ks.length) (fun z => ks.length - z) (0) (Nat.zero_le _) (by exact ⟨rfl, rfl, rfl, rfl, trivial⟩) (by repeat first|exact s0 _|exact s1 _|apply s2|apply s3) ?_
  intro z hz
  refine SC.seq (SC.region ?_)
  refine SL.val (Val.ltI rfl rfl) rfl rfl ?_
  refine SL.nil (SE.seq ?_)
  refine SC.seq ?_
  refine SC.condP rfl ?_ ?_
  rotate_left
  · intro hc31
    refine SC.exit ?_
    refine SE.then_ (by intro h; cases h) ?_
    refine SE.then_ (by intro h; cases h) ?_
    refine SE.exit ?_
    refine SE.seq ?_
    refine SC.seq (SC.region ?_)
    refine SL.val (Val.assign rfl) rfl rfl ?_
    refine SL.nil (SE.seq ?_)
    refine SC.ret ?_
    refine SE.fin (rs := [.tmp 4]) rfl (RV.tmp rfl RV.nil) (()) (by repeat first|exact s0 _|exact s1 _|apply s2|apply s3) (by simp [It.rids]) ?_
    exact rfl
  intro hc31
  have hlt : z < ks.length := by omega
  have hkz := Frm.nodes_mem (List.getElem_mem hlt)
  refine SC.skip ?_
  refine SE.seq ?_
  refine SC.seq ?_
  refine SC.block ?_
  refine SC.seq (SC.region ?_)
  refine SL.val (Val.move rfl) rfl rfl ?_
  refine SL.val (Val.assign rfl) rfl rfl ?_
  refine SL.nil (SE.seq ?_)
  refine SC.seq ?_
  refine SC.draw [] (.q 0 (.q 1 (.q 2 (.q 3 (.q 4 (.q 5 (.q 6 (.q 7 (.q 8 (.q 9 (.e 10 (.q 11 .nil)))))))))))) (by kernel_rfl) (by kernel_rfl) ?_
  refine SX.val rfl (Val.fieldAddr tabOk rfl rfl rfl rfl rfl) (by simp) rfl rfl ?_
  refine SX.val rfl (Val.load1 tabOk rfl rfl (by first|(apply Or.inl;(repeat first|assumption|exact m0|apply m1);done)|(apply Or.inr;(repeat first|assumption|exact m0|apply m1);done)) List.not_mem_nil (by rfl)) (by simp) rfl rfl ?_
  refine SX.val rfl (Val.move rfl) (by simp) rfl rfl ?_
  refine SX.val rfl (Val.indexSl tabOk Tryd.underlying23 rfl rfl rfl rfl (at_map (by omega)) rfl rfl) (by simp) rfl rfl ?_
  refine SX.hx (by first|(simp[mids,It.mids,ownPc];done)|(intro k hk;simp[mids,It.mids,ownPc] at hk ⊢;grind)) fun hx9 => ?_
  refine SX.val rfl (Val.loadAR tabOk rfl rfl rfl (Frm.abs_len _)) hx9 rfl rfl ?_
  refine SX.val rfl (Val.fieldAddr tabOk rfl rfl rfl rfl rfl) (by simp) rfl rfl ?_
  refine SX.val rfl (Val.load1 tabOk rfl rfl (by first|(apply Or.inl;(repeat first|assumption|exact m0|apply m1);done)|(apply Or.inr;(repeat first|assumption|exact m0|apply m1);done)) List.not_mem_nil (by rfl)) (by simp) rfl rfl ?_
  refine SX.val rfl (Val.move rfl) (by simp) rfl rfl ?_
  refine SX.val rfl (Val.indexSl tabOk Tryd.underlying23 rfl rfl rfl rfl (at_map (by omega)) rfl rfl) (by simp) rfl rfl ?_
  refine SX.val rfl (Val.loadAR tabOk rfl rfl rfl (Frm.abs_len _)) hx9 rfl rfl ?_
  refine SX.call rfl (ih (ks[z]'hlt) (List.getElem_mem hlt) (by omega)) (by simp [mids, It.mids]) Casts.refl (by kernel_rfl) rfl rfl rfl ?_
  refine After.pure (by repeat first|exact .nil|refine .blk (by repeat first|assumption|exact m0|apply m1) ?_|refine .rd (by repeat first|assumption|exact m0|apply m1) ?_|refine .pc (by repeat first|assumption|exact m0|apply m1) ?_|refine .rdpc (by repeat first|assumption|exact m0|apply m1) ?_) (fun _ => rfl) ?_
  intro _
  refine SX.val rfl (Val.notB rfl) (by simp) rfl rfl ?_
  refine SX.nil (SE.seq ?_)
  refine SC.cond rfl (by intro hc44; exfalso; cases hc44) ?_
  intro hc44
  refine SC.skip ?_
  refine SE.inBlock ?_
  refine SE.seq ?_
  refine SC.region ?_
  first
    | refine SL.val (Val.addI rfl rfl (by simp only [InR, lo, hi]; omega)) rfl rfl ?_
    | refine SL.val (Val.addW rfl rfl) rfl rfl ?_
  refine SL.val (Val.move rfl) rfl rfl ?_
  refine SL.nil ?_
  refine SE.round (z + 1) (by first | omega | (dsimp only; omega)) (by first | omega | (dsimp only; omega)) (by exact ⟨rfl, rfl, rfl, rfl, trivial⟩) (by repeat first|exact s0 _|exact s1 _|apply s2|apply s3)
theorem same_s (f : Frm) : f.nodes ≤ 1099511627776 → Spec Tryd.prog 9 [.agg f.abs, .agg f.abs] [] (fun _ : Unit => []) (fun _ => boo true) := Frm.ind (p := fun f => f.nodes ≤ 1099511627776 → Spec Tryd.prog 9 [.agg f.abs, .agg f.abs] [] (fun _ : Unit => []) (fun _ => boo true)) (fun o a ks ih hn => same_step ih hn) f
end
end Go.Proofs.YthaahcdfnmfihaaDoor.A
/-
  Policies' texts: the law TermsReads, walked.
-/
set_option maxRecDepth 100000
set_option linter.unusedSimpArgs false
set_option linter.unusedVariables false
namespace Go.Proofs.YthaahcdfnmfihaaDoor.A
open Go.RowKit

section
variable {l r wd : Txt} {i : Nat} {n o a : Int} {ks : List Frm} {f : Frm} {es er : Value}
theorem casts_eq {xs ys : List Abs} (h : xs = ys) : Casts xs ys := h ▸ Casts.refl
theorem fixed1 : parseF [50, 32, 111, 102, 32, 40, 48, 44, 49, 44, 32, 50, 41] 3 = ((Frm.mk 0 2 [.mk 0 0 [], .mk 1 0 [], .mk 2 0 []]), 0) := by kernel_rfl
theorem fixed2 : parseF [97, 110, 121, 40, 41] 3 = (.mk 0 0 [], 2) := by kernel_rfl
theorem fixed3 : printF (Frm.mk 0 2 [.mk 0 0 [], .mk 1 0 [], .mk 2 0 []]) = [50, 111, 102, 40, 48, 44, 49, 44, 50, 41] := by kernel_rfl
theorem fixed1a : (parseF [50, 32, 111, 102, 32, 40, 48, 44, 49, 44, 32, 50, 41] 3).1.abs = [int 0, int 2, .sl 3 (List.map Frm.abs [.mk 0 0 [], .mk 1 0 [], .mk 2 0 []])] := by rw [fixed1, Frm.abs_mk]
theorem fixed1b : (parseF [50, 32, 111, 102, 32, 40, 48, 44, 49, 44, 32, 50, 41] 3).2 = 0 := by rw [fixed1]
theorem fixed2a : (parseF [97, 110, 121, 40, 41] 3).1.abs = [int 0, int 0, .sl 3 []] := by rw [fixed2, Frm.abs_mk]; rfl
theorem fixed2b : (parseF [97, 110, 121, 40, 41] 3).2 = 2 := by rw [fixed2]
theorem parseF_nodes (l : Txt) (n : Int) : (parseF l n).1.nodes ≤ l.length + 1 := by
  have h0 : (Frm.mk 0 0 []).nodes = 1 := by rw [Frm.nodes_mk]; rfl
  unfold parseF
  split
  · show (Frm.mk 0 0 []).nodes ≤ _; omega
  · cases hp : polT 10 l with
    | none => show (Frm.mk 0 0 []).nodes ≤ _; omega
    | some x =>
      obtain ⟨f, r⟩ := x
      have h1 := polT_nodes 10 _ _ _ hp
      dsimp only
      split
      · show (Frm.mk 0 0 []).nodes ≤ _; omega
      · split
        · show (Frm.mk 0 0 []).nodes ≤ _; omega
        · show f.nodes ≤ _; omega
theorem fixed_s (he : isIf es) (hr : isIf er) : Spec Tryd.prog 6 [] (globs es er) (fun _ : Unit => []) (fun _ => boo true) := by
  refine spec_of Tryd.func6 rfl Tryd.ntmps6 rfl fun G w => ?_
  refine SC.seq (SC.region ?_)
  refine SL.val (Val.assign rfl) rfl rfl ?_
  refine SL.nil (SE.seq ?_)
  refine SC.seq (SC.region ?_)
  refine SL.call (parse_s (l := [50, 32, 111, 102, 32, 40, 48, 44, 49, 44, 32, 50, 41]) (n := 3) he hr) Casts.refl (by kernel_rfl) rfl rfl rfl ?_
  refine After.pure (by repeat (first | exact Reads.nil | (refine Reads.blk ?_ ?_; focus ((repeat first|assumption|exact m0|apply m1); done)) | (refine Reads.rd ?_ ?_; focus ((repeat first|assumption|exact m0|apply m1); done)) | (refine Reads.pc ?_ ?_; focus ((repeat first|assumption|exact m0|apply m1); done)) | (refine Reads.rdpc ?_ ?_; focus ((repeat first|assumption|exact m0|apply m1); done)))) (fun _ => rfl) ?_
  intro _
  rw [fixed1a, fixed1b]
  refine SL.val (Val.move rfl) rfl rfl ?_
  refine SL.val (Val.extract rfl rfl) rfl rfl ?_
  refine SL.val (Val.extract rfl rfl) rfl rfl ?_
  refine SL.eff (Eff.alloc tabOk rfl) rfl rfl ?_
  rintro _ _ ⟨b1, rfl, rfl⟩
  refine SL.eff (Eff.store (L' := [int 0, int 2, .sl 3 (List.map Frm.abs [.mk 0 0 [], .mk 1 0 [], .mk 2 0 []])]) tabOk rfl rfl rfl (by repeat first|assumption|exact Upd.here|apply Upd.there) rfl (Nat.le_of_ble_eq_true (by rfl)) rfl (by rfl)) rfl rfl ?_
  rintro _ _ ⟨rfl, rfl⟩
  refine SL.val (Val.assign rfl) rfl rfl ?_
  refine SL.nil (SE.seq ?_)
  refine SC.seq (SC.region ?_)
  refine SL.call (parse_s (l := [97, 110, 121, 40, 41]) (n := 3) he hr) Casts.refl (by kernel_rfl) rfl rfl rfl ?_
  refine After.pure (by repeat (first | exact Reads.nil | (refine Reads.blk ?_ ?_; focus ((repeat first|assumption|exact m0|apply m1); done)) | (refine Reads.rd ?_ ?_; focus ((repeat first|assumption|exact m0|apply m1); done)) | (refine Reads.pc ?_ ?_; focus ((repeat first|assumption|exact m0|apply m1); done)) | (refine Reads.rdpc ?_ ?_; focus ((repeat first|assumption|exact m0|apply m1); done)))) (fun _ => rfl) ?_
  intro _
  rw [fixed2a, fixed2b]
  refine SL.val (Val.move rfl) rfl rfl ?_
  refine SL.val (Val.extract rfl rfl) rfl rfl ?_
  refine SL.val (Val.extract rfl rfl) rfl rfl ?_
  refine SL.eff (Eff.alloc tabOk rfl) rfl rfl ?_
  rintro _ _ ⟨b3, rfl, rfl⟩
  refine SL.eff (Eff.store (L' := [int 0, int 0, .sl 3 []]) tabOk rfl rfl rfl (by repeat first|assumption|exact Upd.here|apply Upd.there) rfl (Nat.le_of_ble_eq_true (by rfl)) rfl (by rfl)) rfl rfl ?_
  rintro _ _ ⟨rfl, rfl⟩
  refine SL.val (Val.assign rfl) rfl rfl ?_
  refine SL.nil (SE.seq ?_)
  refine SC.seq (SC.region ?_)
  refine SL.val (Val.move rfl) rfl rfl ?_
  refine SL.val (Val.eqI rfl rfl) rfl rfl ?_
  refine SL.val (Val.move rfl) rfl rfl ?_
  refine SL.bothP (t := 15) rfl ?_ (by intro hc15; exfalso; exact hc15 rfl)
  intro hc15
  refine SL.val (Val.move rfl) rfl rfl ?_
  refine SL.val (Val.eqI rfl rfl) rfl rfl ?_
  refine SL.val (Val.pickT rfl rfl) rfl rfl ?_
  refine SL.val (Val.move rfl) rfl rfl ?_
  refine SL.bothP (t := 19) rfl ?_ (by intro hc19; exfalso; exact hc19 rfl)
  intro hc19
  refine SL.val (Val.fieldAddr tabOk rfl rfl rfl rfl rfl) rfl rfl ?_
  refine SL.val (Val.load1 tabOk rfl rfl (by first|(apply Or.inl;(repeat first|assumption|exact m0|apply m1);done)|(apply Or.inr;(repeat first|assumption|exact m0|apply m1);done)) List.not_mem_nil (by rfl)) rfl rfl ?_
  refine SL.val (Val.eqI rfl rfl) rfl rfl ?_
  refine SL.val (Val.pickT rfl rfl) rfl rfl ?_
  refine SL.val (Val.move rfl) rfl rfl ?_
  refine SL.bothP (t := 24) rfl ?_ (by intro hc24; exfalso; exact hc24 rfl)
  intro hc24
  refine SL.val (Val.fieldAddr tabOk rfl rfl rfl rfl rfl) rfl rfl ?_
  refine SL.val (Val.load1 tabOk rfl rfl (by first|(apply Or.inl;(repeat first|assumption|exact m0|apply m1);done)|(apply Or.inr;(repeat first|assumption|exact m0|apply m1);done)) List.not_mem_nil (by rfl)) rfl rfl ?_
  first
    | refine SL.val (Val.lenSl rfl Tryd.underlying23 (List.length_map _)) rfl rfl ?_
    | refine SL.val (Val.lenOwn rfl (by repeat first|assumption|exact m0|apply m1) Tryd.underlying23 (List.length_map _)) rfl rfl ?_
    | refine SL.val (Val.lenNil rfl Tryd.underlying23) rfl rfl ?_
  refine SL.val (Val.eqI rfl rfl) rfl rfl ?_
  refine SL.val (Val.pickT rfl rfl) rfl rfl ?_
  refine SL.val (Val.move rfl) rfl rfl ?_
  refine SL.bothP (t := 30) rfl ?_ (by intro hc30; exfalso; exact hc30 rfl)
  intro hc30
  first
    | refine SL.val (Val.loadA tabOk rfl rfl rfl (by first|(apply Or.inl;(repeat first|assumption|exact m0|apply m1);done)|(apply Or.inr;(repeat first|assumption|exact m0|apply m1);done)) List.not_mem_nil (by rfl)) rfl rfl ?_
    | refine SL.val (Val.loadP tabOk rfl rfl rfl (by first|(apply Or.inl;(repeat first|assumption|exact m0|apply m1);done)|(apply Or.inr;(repeat first|assumption|exact m0|apply m1);done)) List.not_mem_nil (Nat.le_of_ble_eq_true (by rfl))) rfl rfl ?_
  refine SL.call (print_s (f := (Frm.mk 0 2 [.mk 0 0 [], .mk 1 0 [], .mk 2 0 []])) (by rw [show (Frm.mk 0 2 [.mk 0 0 [], .mk 1 0 [], .mk 2 0 []]).nodes = 4 by kernel_rfl]; decide)) (casts_eq (by rw [Frm.abs_mk])) (by kernel_rfl) rfl rfl rfl ?_
  refine After.pure Reads.nil (fun _ => rfl) ?_
  intro _
  refine SL.val (Val.to (C := boo true) (Val.eqS rfl rfl) (congrArg (fun b => Abs.v (Value.bool b)) (decide_eq_true (congrArg (fun l : Txt => ByteArray.mk l.toArray) fixed3)))) rfl rfl ?_
  refine SL.val (Val.pickT rfl rfl) rfl rfl ?_
  refine SL.val (Val.assign rfl) rfl rfl ?_
  refine SL.nil (SE.seq ?_)
  refine SC.ret ?_
  refine SE.fin (rs := [.tmp 0]) rfl (RV.tmp rfl RV.nil) (()) (by repeat first|exact s0 _|exact s1 _|apply s2|apply s3) (by simp [It.rids]) ?_
  exact rfl
theorem reads_s (he : isIf es) (hr : isIf er) : Spec Tryd.prog 3 [stA l, int n] (globs es er) (fun _ : Unit => []) (fun _ => boo true) := by
  have hpn := parseF_nodes l n
  refine spec_of Tryd.func3 rfl Tryd.ntmps3 rfl fun G w => ?_
  refine SC.seq (SC.region ?_)
  refine SL.val (Val.assign rfl) rfl rfl ?_
  refine SL.nil (SE.seq ?_)
  refine SC.seq ?_
  refine SC.seq (SC.region ?_)
  refine SL.call (fixed_s he hr) Casts.refl (by kernel_rfl) rfl rfl rfl ?_
  refine After.pure (by repeat (first | exact Reads.nil | (refine Reads.blk ?_ ?_; focus ((repeat first|assumption|exact m0|apply m1); done)) | (refine Reads.rd ?_ ?_; focus ((repeat first|assumption|exact m0|apply m1); done)) | (refine Reads.pc ?_ ?_; focus ((repeat first|assumption|exact m0|apply m1); done)) | (refine Reads.rdpc ?_ ?_; focus ((repeat first|assumption|exact m0|apply m1); done)))) (fun _ => rfl) ?_
  intro _
  refine SL.val (Val.notB rfl) rfl rfl ?_
  refine SL.nil (SE.seq ?_)
  refine SC.cond rfl (by intro hc10; exfalso; cases hc10) ?_
  intro hc10
  refine SC.skip ?_
  refine SE.seq ?_
  refine SC.seq ?_
  refine SC.seq (SC.region ?_)
  refine SL.val (Val.move rfl) rfl rfl ?_
  refine SL.val (Val.to (C := int ((l.length : Nat) : Int)) (Val.lenSt rfl Tryd.underlying9) rfl) rfl rfl ?_
  refine SL.val (Val.gtI rfl rfl) rfl rfl ?_
  refine SL.nil (SE.seq ?_)
  refine SC.condP rfl ?_ ?_
  · intro hc13
    refine SC.seq (SC.region ?_)
    refine SL.val (Val.assign rfl) rfl rfl ?_
    refine SL.nil (SE.seq ?_)
    refine SC.ret ?_
    refine SE.then_ (by intro h; cases h) ?_
    refine SE.fin (rs := [.tmp 4]) rfl (RV.tmp rfl RV.nil) (()) (by repeat first|exact s0 _|exact s1 _|apply s2|apply s3) (by simp [It.rids]) ?_
    exact rfl
  intro hc13
  refine SC.skip ?_
  refine SE.seq ?_
  refine SC.seq (SC.region ?_)
  refine SL.val (Val.move rfl) rfl rfl ?_
  refine SL.val (Val.move rfl) rfl rfl ?_
  refine SL.call (parse_s (l := l) (n := n) he hr) Casts.refl (by kernel_rfl) rfl rfl rfl ?_
  refine After.pure (by repeat (first | exact Reads.nil | (refine Reads.blk ?_ ?_; focus ((repeat first|assumption|exact m0|apply m1); done)) | (refine Reads.rd ?_ ?_; focus ((repeat first|assumption|exact m0|apply m1); done)) | (refine Reads.pc ?_ ?_; focus ((repeat first|assumption|exact m0|apply m1); done)) | (refine Reads.rdpc ?_ ?_; focus ((repeat first|assumption|exact m0|apply m1); done)))) (fun _ => rfl) ?_
  intro _
  refine SL.val (Val.move rfl) rfl rfl ?_
  refine SL.val (Val.extract rfl rfl) rfl rfl ?_
  refine SL.val (Val.extract rfl rfl) rfl rfl ?_
  refine SL.eff (Eff.alloc tabOk rfl) rfl rfl ?_
  rintro _ _ ⟨b5, rfl, rfl⟩
  refine SL.eff (Eff.store (L' := (parseF l n).1.abs) tabOk rfl rfl rfl (by repeat first|assumption|exact Upd.here|apply Upd.there) (by exact Frm.abs_len _) (Nat.le_of_ble_eq_true (by rfl)) (by exact Frm.abs_ones _) (putL_whole (by exact Frm.abs_len _))) rfl rfl ?_
  rintro _ _ ⟨rfl, rfl⟩
  refine SL.val (Val.assign rfl) rfl rfl ?_
  refine SL.nil (SE.seq ?_)
  refine SC.seq (SC.region ?_)
  refine SL.val (Val.move rfl) rfl rfl ?_
  refine SL.val (Val.move rfl) rfl rfl ?_
  refine SL.call (rparse_s (l := l) (n := n)) Casts.refl (by kernel_rfl) rfl rfl rfl ?_
  refine After.pure Reads.nil (fun _ => rfl) ?_
  intro _
  refine SL.val (Val.move rfl) rfl rfl ?_
  refine SL.val (Val.extract rfl rfl) rfl rfl ?_
  refine SL.val (Val.extract rfl rfl) rfl rfl ?_
  refine SL.eff (Eff.alloc tabOk rfl) rfl rfl ?_
  rintro _ _ ⟨b7, rfl, rfl⟩
  refine SL.eff (Eff.store (L' := (parseF l n).1.abs) tabOk rfl rfl rfl (by repeat first|assumption|exact Upd.here|apply Upd.there) (by exact Frm.abs_len _) (Nat.le_of_ble_eq_true (by rfl)) (by exact Frm.abs_ones _) (putL_whole (by exact Frm.abs_len _))) rfl rfl ?_
  rintro _ _ ⟨rfl, rfl⟩
  refine SL.val (Val.assign rfl) rfl rfl ?_
  refine SL.nil (SE.seq ?_)
  refine SC.seq (SC.region ?_)
  refine SL.val (Val.move rfl) rfl rfl ?_
  refine SL.val (Val.move rfl) rfl rfl ?_
  refine SL.val (Val.eqI rfl rfl) rfl rfl ?_
  refine SL.val (Val.move rfl) rfl rfl ?_
  refine SL.bothP (t := 29) rfl ?_ (by intro hc29; exfalso; exact hc29 rfl)
  intro hc29
  refine SL.val (Val.loadA tabOk rfl rfl rfl (by first|(apply Or.inl;(repeat first|assumption|exact m0|apply m1);done)|(apply Or.inr;(repeat first|assumption|exact m0|apply m1);done)) List.not_mem_nil (Frm.abs_len _)) rfl rfl ?_
  refine SL.val (Val.loadA tabOk rfl rfl rfl (by first|(apply Or.inl;(repeat first|assumption|exact m0|apply m1);done)|(apply Or.inr;(repeat first|assumption|exact m0|apply m1);done)) List.not_mem_nil (Frm.abs_len _)) rfl rfl ?_
  refine SL.call (same_s (parseF l n).1 (by omega)) Casts.refl (by kernel_rfl) rfl rfl rfl ?_
  refine After.pure Reads.nil (fun _ => rfl) ?_
  intro _
  refine SL.val (Val.pickT rfl rfl) rfl rfl ?_
  refine SL.val (Val.assign rfl) rfl rfl ?_
  refine SL.nil (SE.seq ?_)
  refine SC.ret ?_
  refine SE.fin (rs := [.tmp 4]) rfl (RV.tmp rfl RV.nil) (()) (by repeat first|exact s0 _|exact s1 _|apply s2|apply s3) (by simp [It.rids]) ?_
  exact rfl
end
end Go.Proofs.YthaahcdfnmfihaaDoor.A
