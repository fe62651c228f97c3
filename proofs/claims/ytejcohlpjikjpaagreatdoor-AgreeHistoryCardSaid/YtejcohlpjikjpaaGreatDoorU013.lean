/-
  Packed out of the texts: TM5, CT2.
-/
import Derived.Test.YtejcohlpjikjpaaGreatDoorU012
/-
  Policies' texts: the document's parser.
-/
set_option maxRecDepth 100000
set_option linter.unusedSimpArgs false
set_option linter.unusedVariables false
namespace Go.Proofs.YtejcohlpjikjpaaGreatDoor.A
open Go.RowKit

section
variable {l wd : Txt} {k : Nat} {d n : Int}
theorem cut_digs {z : Nat} (h : ∀ j (hj : j < l.length), j < z → isDig l[j] = true) (hz : z ≤ l.length) (hs : ∀ hq : z < l.length, ¬ isDig (l[z]'hq) = true) : z = (digs l).length := by
  rcases Nat.lt_or_ge z l.length with h1 | h1
  · exact (digs_stop h1 h (hs h1)).symm
  · exact ((digs_all fun j hj => h j hj (by omega)).trans (by omega)).symm
set_option maxHeartbeats 2000000 in
theorem rnumber_s (hl : l.length ≤ 100000) : Spec Tryz.prog 124 [stA l] [] (fun _ : Unit => []) (fun _ => .tup [int (numF l).1, stA (numF l).2.1, boo (numF l).2.2]) := by
 have hdl := digs_len l
 refine spec_of Tryz.func124 rfl Tryz.ntmps124 rfl fun G w => ?_
 refine SC.seq (SC.region ?_)
 iterate 3 refine SL.val (Val.assign rfl) rfl rfl ?_
 refine SL.nil (SE.seq ?_)
 refine SC.seq (SC.region ?_)
 iterate 2 refine SL.val (Val.assign rfl) rfl rfl ?_
 refine SL.nil (SE.seq ?_)
 refine SC.cutS (ι := Unit) (fun z => []) (fun z => [(0, stA l), (5, int ((digs l).length : Nat)), (6, int (decV (l.take (min (digs l).length 5)) : Nat))]) (fun z => True) ?_ ?_
 ·skip
  refine SC.block ?_
  refine SC.loop (ι := Nat) (fun z => []) (fun z => [(0, stA l), (5, int (z : Nat)), (6, int (decV (l.take (min z 5)) : Nat))]) (fun z => z ≤ l.length ∧ ∀ j (hj : j < l.length), j < z → isDig l[j] = true) (fun z => l.length - z) (0) (⟨Nat.zero_le _, fun j _ h => absurd h (by omega)⟩) (by exact ⟨rfl, rfl, rfl, trivial⟩) (by repeat first|exact s0 _|exact s1 _|apply s2|apply s3) ?_
  intro z hz
  refine SC.seq ?_
  refine SC.seq (SC.region ?_)
  iterate 2 refine SL.val (Val.move rfl) rfl rfl ?_
  refine SL.val (Val.to (C := int ((l.length : Nat) : Int)) (Val.lenSt rfl Tryz.underlying9) rfl) rfl rfl ?_
  refine SL.val (Val.ltI rfl rfl) rfl rfl ?_
  refine SL.val (Val.move rfl) rfl rfl ?_
  refine SL.bothP (t := 11) rfl ?_ ?_
  rotate_left
  ·intro hc11
   iterate 4 refine SL.skip rfl rfl ?_
   refine SL.val (Val.pickF rfl rfl) rfl rfl ?_
   refine SL.val (Val.move rfl) rfl rfl ?_
   iterate 4 refine SL.skip rfl rfl ?_
   refine SL.val (Val.pickF rfl rfl) rfl rfl ?_
   refine SL.nil (SE.seq ?_)
   refine SC.condF rfl ?_
   refine SC.exit ?_
   refine SE.then_ nofun ?_
   refine SE.then_ nofun ?_
   refine SE.exit ?_
   have hdz := cut_digs hz.2 hz.1 fun hq2 hdd => by
    have h3 := of_decide_eq_true (show decide (48 ≤ (l[z]'hq2).toNat ∧ (l[z]'hq2).toNat ≤ 57) = true from hdd)
    omega
   refine SE.meet (()) (trivial) (by exact ⟨rfl, congrArg (fun k : Nat => some (int (k : Nat))) hdz, congrArg (fun k : Nat => some (int (decV (l.take (min k 5)) : Nat))) hdz, trivial⟩) (by repeat first|exact s0 _|exact s1 _|apply s2|apply s3)
  intro hc11
  have hq : z < l.length := by omega
  iterate 2 refine SL.val (Val.move rfl) rfl rfl ?_
  refine SL.val (Val.to (C := .v (.int .u8 ((l[z]'hq).toNat : Nat))) (Val.indexSt (s := ⟨l.toArray⟩) (q := z) rfl rfl rfl hq Tryz.underlying9) rfl) rfl rfl ?_
  refine SL.val (Val.geI rfl rfl) rfl rfl ?_
  refine SL.val (Val.pickT rfl rfl) rfl rfl ?_
  refine SL.val (Val.move rfl) rfl rfl ?_
  refine SL.bothP (t := 17) rfl ?_ ?_
  rotate_left
  ·intro hc17
   iterate 4 refine SL.skip rfl rfl ?_
   refine SL.val (Val.pickF rfl rfl) rfl rfl ?_
   refine SL.nil (SE.seq ?_)
   refine SC.condF rfl ?_
   refine SC.exit ?_
   refine SE.then_ nofun ?_
   refine SE.then_ nofun ?_
   refine SE.exit ?_
   have hdz := cut_digs hz.2 hz.1 fun hq2 hdd => by
    have h3 := of_decide_eq_true (show decide (48 ≤ (l[z]'hq2).toNat ∧ (l[z]'hq2).toNat ≤ 57) = true from hdd)
    omega
   refine SE.meet (()) (trivial) (by exact ⟨rfl, congrArg (fun k : Nat => some (int (k : Nat))) hdz, congrArg (fun k : Nat => some (int (decV (l.take (min k 5)) : Nat))) hdz, trivial⟩) (by repeat first|exact s0 _|exact s1 _|apply s2|apply s3)
  intro hc17
  iterate 2 refine SL.val (Val.move rfl) rfl rfl ?_
  refine SL.val (Val.to (C := .v (.int .u8 ((l[z]'hq).toNat : Nat))) (Val.indexSt (s := ⟨l.toArray⟩) (q := z) rfl rfl rfl hq Tryz.underlying9) rfl) rfl rfl ?_
  refine SL.val (Val.leI rfl rfl) rfl rfl ?_
  refine SL.val (Val.pickT rfl rfl) rfl rfl ?_
  refine SL.nil (SE.seq ?_)
  refine SC.condP rfl ?_ ?_
  rotate_left
  ·intro hc22
   refine SC.exit ?_
   refine SE.then_ nofun ?_
   refine SE.then_ nofun ?_
   refine SE.exit ?_
   have hdz := cut_digs hz.2 hz.1 fun hq2 hdd => by
    have h3 := of_decide_eq_true (show decide (48 ≤ (l[z]'hq2).toNat ∧ (l[z]'hq2).toNat ≤ 57) = true from hdd)
    omega
   refine SE.meet (()) (trivial) (by exact ⟨rfl, congrArg (fun k : Nat => some (int (k : Nat))) hdz, congrArg (fun k : Nat => some (int (decV (l.take (min k 5)) : Nat))) hdz, trivial⟩) (by repeat first|exact s0 _|exact s1 _|apply s2|apply s3)
  intro hc22
  have hdv : decV (l.take (min z 5)) < 100000 := decV_few hz.2
  have h8 := (l[z]'hq).toNat_lt
  refine SC.skip ?_
  refine SE.seq ?_
  refine SC.block ?_
  refine SC.seq ?_
  refine SC.seq (SC.region ?_)
  refine SL.val (Val.move rfl) rfl rfl ?_
  refine SL.val (Val.ltI rfl rfl) rfl rfl ?_
  refine SL.nil (SE.seq ?_)
  refine SC.condP rfl ?_ ?_
  rotate_left
  ·intro hc24
   refine SC.skip ?_
   refine SE.seq ?_
   refine SC.region ?_
   refine SL.val (Val.move rfl) rfl rfl ?_
   first
    | refine SL.val (Val.addI rfl rfl (by simp only [InR, lo, hi]; omega)) rfl rfl ?_
    | refine SL.val (Val.addW rfl rfl) rfl rfl ?_
   refine SL.val (Val.assign rfl) rfl rfl ?_
   refine SL.nil ?_
   refine SE.inBlock ?_
   have hdd : isDig (l[z]'hq) = true := decide_eq_true (by omega)
   have hnx : min (z + 1) 5 = min z 5 := by omega
   refine SE.round (z + 1) (by first | omega | (dsimp only; omega)) (⟨hq, fun j hj h => by rcases Nat.lt_or_ge j z with h1 | h1; exact hz.2 j hj h1; obtain rfl : j = z := (by omega); exact hdd⟩) (by exact ⟨rfl, rfl, congrArg (fun x : Nat => some (int (x : Nat))) (by rw [hnx]), trivial⟩) (by repeat first|exact s0 _|exact s1 _|apply s2|apply s3)
  intro hc24
  refine SC.region ?_
  refine SL.val (Val.move rfl) rfl rfl ?_
  first
   | refine SL.val (Val.mulI rfl rfl (by simp only [InR, lo, hi]; omega)) rfl rfl ?_
   | refine SL.val (Val.mulW rfl rfl) rfl rfl ?_
  iterate 2 refine SL.val (Val.move rfl) rfl rfl ?_
  refine SL.val (Val.to (C := .v (.int .u8 ((l[z]'hq).toNat : Nat))) (Val.indexSt (s := ⟨l.toArray⟩) (q := z) rfl rfl rfl hq Tryz.underlying9) rfl) rfl rfl ?_
  first
   | refine SL.val (Val.subI rfl rfl (by simp only [InR, lo, hi]; omega)) rfl rfl ?_
   | refine SL.val (Val.subW rfl rfl) rfl rfl ?_
  first
   | refine SL.val (Val.convI rfl Tryz.underlying3 (by kernel_rfl) (by simp only [InR, lo, hi]; omega)) rfl rfl ?_
   | refine SL.val (Val.convW rfl Tryz.underlying3 (by kernel_rfl)) rfl rfl ?_
  first
   | refine SL.val (Val.addI rfl rfl (by simp only [InR, lo, hi]; omega)) rfl rfl ?_
   | refine SL.val (Val.addW rfl rfl) rfl rfl ?_
  refine SL.val (Val.assign rfl) rfl rfl ?_
  refine SL.nil (SE.seq ?_)
  refine SC.region ?_
  refine SL.val (Val.move rfl) rfl rfl ?_
  first
   | refine SL.val (Val.addI rfl rfl (by simp only [InR, lo, hi]; omega)) rfl rfl ?_
   | refine SL.val (Val.addW rfl rfl) rfl rfl ?_
  refine SL.val (Val.assign rfl) rfl rfl ?_
  refine SL.nil ?_
  refine SE.inBlock ?_
  have hdd : isDig (l[z]'hq) = true := decide_eq_true (by omega)
  have hnx := decV_next hq (by omega)
  refine SE.round (z + 1) (by first | omega | (dsimp only; omega)) (⟨hq, fun j hj h => by rcases Nat.lt_or_ge j z with h1 | h1; exact hz.2 j hj h1; obtain rfl : j = z := (by omega); exact hdd⟩) (by exact ⟨rfl, rfl, congrArg (fun x : Int => some (int x)) (by rw [hnx]; omega), trivial⟩) (by repeat first|exact s0 _|exact s1 _|apply s2|apply s3)
 ·intro z hz
  refine SC.seq ?_
  refine SC.seq (SC.region ?_)
  refine SL.val (Val.move rfl) rfl rfl ?_
  refine SL.val (Val.eqI rfl rfl) rfl rfl ?_
  refine SL.val (Val.move rfl) rfl rfl ?_
  refine SL.bothP (t := 37) rfl ?_ ?_
  ·intro hc37
   iterate 2 refine SL.skip rfl rfl ?_
   refine SL.val (Val.pickT rfl rfl) rfl rfl ?_
   refine SL.val (Val.move rfl) rfl rfl ?_
   iterate 7 refine SL.skip rfl rfl ?_
   refine SL.val (Val.pickT rfl rfl) rfl rfl ?_
   refine SL.nil (SE.seq ?_)
   refine SC.condT rfl ?_
   refine SC.seq (SC.region ?_)
   refine SL.val (Val.move rfl) rfl rfl ?_
   iterate 3 refine SL.val (Val.assign rfl) rfl rfl ?_
   refine SL.nil (SE.seq ?_)
   refine SC.ret ?_
   refine SE.then_ nofun ?_
   have hnn : numT l = none := by
    refine if_pos ?_
    first
     | exact .inl (by omega)
     | exact .inr (.inl (by omega))
     | exact .inr (.inr ⟨by omega, by rw [hdf]; exact congrArg some (UInt8.toNat_inj.1 (by show _ = 48; omega))⟩)
   refine SE.fin (rs := [.tmp 2, .tmp 3, .tmp 4]) rfl (RV.tmp rfl (RV.tmp rfl (RV.tmp rfl RV.nil))) (()) (by repeat first|exact s0 _|exact s1 _|apply s2|apply s3) (by simp [It.rids]) ?_
   rw [numF_none hnn]
   rfl
  intro hc37
  have hq0 : 0 < l.length := by omega
  have hdf := digs_first (l := l) (by omega) hq0
  refine SL.val (Val.move rfl) rfl rfl ?_
  refine SL.val (Val.gtI rfl rfl) rfl rfl ?_
  refine SL.val (Val.pickF rfl rfl) rfl rfl ?_
  refine SL.val (Val.move rfl) rfl rfl ?_
  refine SL.bothP (t := 41) rfl ?_ ?_
  ·intro hc41
   iterate 7 refine SL.skip rfl rfl ?_
   refine SL.val (Val.pickT rfl rfl) rfl rfl ?_
   refine SL.nil (SE.seq ?_)
   refine SC.condT rfl ?_
   refine SC.seq (SC.region ?_)
   refine SL.val (Val.move rfl) rfl rfl ?_
   iterate 3 refine SL.val (Val.assign rfl) rfl rfl ?_
   refine SL.nil (SE.seq ?_)
   refine SC.ret ?_
   refine SE.then_ nofun ?_
   have hnn : numT l = none := by
    refine if_pos ?_
    first
     | exact .inl (by omega)
     | exact .inr (.inl (by omega))
     | exact .inr (.inr ⟨by omega, by rw [hdf]; exact congrArg some (UInt8.toNat_inj.1 (by show _ = 48; omega))⟩)
   refine SE.fin (rs := [.tmp 2, .tmp 3, .tmp 4]) rfl (RV.tmp rfl (RV.tmp rfl (RV.tmp rfl RV.nil))) (()) (by repeat first|exact s0 _|exact s1 _|apply s2|apply s3) (by simp [It.rids]) ?_
   rw [numF_none hnn]
   rfl
  intro hc41
  refine SL.val (Val.move rfl) rfl rfl ?_
  refine SL.val (Val.gtI rfl rfl) rfl rfl ?_
  refine SL.val (Val.move rfl) rfl rfl ?_
  refine SL.bothP (t := 44) rfl ?_ ?_
  rotate_left
  ·intro hc44
   iterate 3 refine SL.skip rfl rfl ?_
   refine SL.val (Val.pickF rfl rfl) rfl rfl ?_
   refine SL.val (Val.pickF rfl rfl) rfl rfl ?_
   refine SL.nil (SE.seq ?_)
   refine SC.condF rfl ?_
   refine SC.skip ?_
   refine SE.seq ?_
   refine SC.seq ?_
   refine SC.draw [] (.q 0 (.q 1 (.q 2 (.q 3 (.q 4 (.q 5 (.q 6 .nil))))))) (by kernel_rfl) (by kernel_rfl) ?_
   refine SX.val rfl (Val.move rfl) (by simp) rfl rfl ?_
   refine SX.val rfl (Val.move rfl) (by simp) rfl rfl ?_
   refine SX.val rfl (Val.move rfl) (by simp) rfl rfl ?_
   refine SX.hx (by first|(simp[mids,It.mids,ownPc];done)|(intro k hk;simp[mids,It.mids,ownPc] at hk ⊢;grind)) fun hx9 => ?_
   refine SX.val rfl (Val.to (C := stA (l.drop (digs l).length)) (Val.sliceStLo (q := (digs l).length) Tryz.underlying9 rfl rfl rfl (by simp only [tx_size]; omega)) (st_lo _ _)) hx9 rfl rfl ?_
   refine SX.val rfl (Val.assign rfl) (by simp) rfl rfl ?_
   refine SX.val rfl (Val.assign rfl) (by simp) rfl rfl ?_
   refine SX.val rfl (Val.assign rfl) (by simp) rfl rfl ?_
   refine SX.nil (SE.seq ?_)
   refine SC.ret ?_
   have hnn : numT l = some (decV (digs l), l.drop (digs l).length) := if_neg (by
    rintro (h | h | ⟨h1, h2⟩)
    ·omega
    ·omega
    ·first
      | omega
      | (rw [hdf] at h2; have h3 := congrArg UInt8.toNat (Option.some.inj h2); have h4 : (48 : UInt8).toNat = 48 := rfl; omega))
   refine SE.fin (rs := [.tmp 2, .tmp 3, .tmp 4]) rfl (RV.tmp rfl (RV.tmp rfl (RV.tmp rfl RV.nil))) (()) (by repeat first|exact s0 _|exact s1 _|apply s2|apply s3) (by simp [It.rids]) ?_
   rw [numF_some hnn, Nat.min_eq_left (show (digs l).length ≤ 5 by omega), take_digs]
   rfl
  intro hc44
  refine SL.val (Val.move rfl) rfl rfl ?_
  refine SL.val (Val.to (C := .v (.int .u8 ((l[0]'hq0).toNat : Nat))) (Val.indexSt (s := ⟨l.toArray⟩) (q := 0) rfl rfl rfl hq0 Tryz.underlying9) rfl) rfl rfl ?_
  refine SL.val (Val.eqI rfl rfl) rfl rfl ?_
  refine SL.val (Val.pickT rfl rfl) rfl rfl ?_
  refine SL.val (Val.pickF rfl rfl) rfl rfl ?_
  refine SL.nil (SE.seq ?_)
  refine SC.condP rfl ?_ ?_
  ·intro hc49
   refine SC.seq (SC.region ?_)
   refine SL.val (Val.move rfl) rfl rfl ?_
   iterate 3 refine SL.val (Val.assign rfl) rfl rfl ?_
   refine SL.nil (SE.seq ?_)
   refine SC.ret ?_
   refine SE.then_ nofun ?_
   have hnn : numT l = none := by
    refine if_pos ?_
    first
     | exact .inl (by omega)
     | exact .inr (.inl (by omega))
     | exact .inr (.inr ⟨by omega, by rw [hdf]; exact congrArg some (UInt8.toNat_inj.1 (by show _ = 48; omega))⟩)
   refine SE.fin (rs := [.tmp 2, .tmp 3, .tmp 4]) rfl (RV.tmp rfl (RV.tmp rfl (RV.tmp rfl RV.nil))) (()) (by repeat first|exact s0 _|exact s1 _|apply s2|apply s3) (by simp [It.rids]) ?_
   rw [numF_none hnn]
   rfl
  intro hc49
  refine SC.skip ?_
  refine SE.seq ?_
  refine SC.seq ?_
  refine SC.draw [] (.q 0 (.q 1 (.q 2 (.q 3 (.q 4 (.q 5 (.q 6 .nil))))))) (by kernel_rfl) (by kernel_rfl) ?_
  refine SX.val rfl (Val.move rfl) (by simp) rfl rfl ?_
  refine SX.val rfl (Val.move rfl) (by simp) rfl rfl ?_
  refine SX.val rfl (Val.move rfl) (by simp) rfl rfl ?_
  refine SX.hx (by first|(simp[mids,It.mids,ownPc];done)|(intro k hk;simp[mids,It.mids,ownPc] at hk ⊢;grind)) fun hx9 => ?_
  refine SX.val rfl (Val.to (C := stA (l.drop (digs l).length)) (Val.sliceStLo (q := (digs l).length) Tryz.underlying9 rfl rfl rfl (by simp only [tx_size]; omega)) (st_lo _ _)) hx9 rfl rfl ?_
  refine SX.val rfl (Val.assign rfl) (by simp) rfl rfl ?_
  refine SX.val rfl (Val.assign rfl) (by simp) rfl rfl ?_
  refine SX.val rfl (Val.assign rfl) (by simp) rfl rfl ?_
  refine SX.nil (SE.seq ?_)
  refine SC.ret ?_
  have hnn : numT l = some (decV (digs l), l.drop (digs l).length) := if_neg (by
   rintro (h | h | ⟨h1, h2⟩)
   ·omega
   ·omega
   ·first
     | omega
     | (rw [hdf] at h2; have h3 := congrArg UInt8.toNat (Option.some.inj h2); have h4 : (48 : UInt8).toNat = 48 := rfl; omega))
  refine SE.fin (rs := [.tmp 2, .tmp 3, .tmp 4]) rfl (RV.tmp rfl (RV.tmp rfl (RV.tmp rfl RV.nil))) (()) (by repeat first|exact s0 _|exact s1 _|apply s2|apply s3) (by simp [It.rids]) ?_
  rw [numF_some hnn, Nat.min_eq_left (show (digs l).length ≤ 5 by omega), take_digs]
  rfl
set_option maxHeartbeats 2000000 in
theorem rrow_s (hd : 0 ≤ d ∧ d ≤ 100) (hp : ∀ l : Txt, l.length ≤ 1000 → Spec Tryz.prog 90 [stA l, int (d + 1)] [] (fun _ : {z : Frm × Txt × Bool // DocP k l z} => []) (fun z => .tup [.agg z.1.1.abs, stA z.1.2.1, boo z.1.2.2])) (hl : l.length ≤ 1000) : Spec Tryz.prog 123 [stA l, int d] [] (fun _ : {z : List Frm × Txt × Bool // DocR k l z} => []) (fun z => .tup [.sl 3 (z.1.1.map Frm.abs), stA z.1.2.1, boo z.1.2.2]) := by
 refine spec_of Tryz.func123 rfl Tryz.ntmps123 rfl fun G w => ?_
 refine SC.seq (SC.region ?_)
 iterate 3 refine SL.val (Val.assign rfl) rfl rfl ?_
 refine SL.nil (SE.seq ?_)
 refine SC.seq (SC.region ?_)
 refine SL.val (Val.move rfl) rfl rfl ?_
 refine SL.call (rbare_s (l := l)) Casts.refl (by kernel_rfl) rfl rfl rfl ?_
 refine ap_ ?_
 intro _
 refine SL.val (Val.assign rfl) rfl rfl ?_
 refine SL.nil (SE.seq ?_)
 refine SC.seq ?_
 refine SC.seq (SC.region ?_)
 refine SL.val (Val.move rfl) rfl rfl ?_
 refine SL.call (rbegins_s (l := (bare l)) (wd := [40])) Casts.refl (by kernel_rfl) rfl rfl rfl ?_
 refine ap_ ?_
 intro _
 refine SL.val (Val.notB rfl) rfl rfl ?_
 refine SL.nil (SE.seq ?_)
 refine SC.cond rfl ?_ ?_
 ·intro hc15
  have hb0 : ¬ begins (bare l) [40] = true := by simpa using hc15
  refine SC.seq (SC.region ?_)
  refine SL.val (Val.move rfl) rfl rfl ?_
  iterate 3 refine SL.val (Val.assign rfl) rfl rfl ?_
  refine SL.nil (SE.seq ?_)
  refine SC.ret ?_
  refine SE.then_ nofun ?_
  refine SE.finC (rs := [.tmp 4, .tmp 5, .tmp 6]) rfl (RV.tmp rfl (RV.tmp rfl (RV.tmp rfl RV.nil))) (Casts.nils (s := 3) Casts.refl) (⟨([], bare l, false), DocR.of_none (if_neg hb0) _⟩) (by repeat first|exact s0 _|exact s1 _|apply s2|apply s3) (by simp [It.rids]) ?_
  exact rfl
 intro hc15
 have hb0 : begins (bare l) [40] = true := by simpa using hc15
 refine SC.skip ?_
 refine SE.seq ?_
 refine SC.seq (SC.region ?_)
 refine SL.val (Val.assign rfl) rfl rfl ?_
 refine SL.nil (SE.seq ?_)
 refine SC.block ?_
 refine SC.own0 95 3 ?_
 refine SC.loop (ι := Txt × List Frm × Value) (fun z => [own 95 3 z.2.2 (z.2.1.map Frm.abs)]) (fun z => [(0, stA z.1), (1, int d), (7, .v z.2.2)]) (fun z => DocI k l (z.1, z.2.1)) (fun z => z.1.length) (bare l, [], .slice none 0 0) (DocI.start hb0) (by exact ⟨rfl, rfl, rfl, trivial⟩) (by repeat first|exact s0 _|exact s1 _|apply s2|apply s3) ?_
 intro z hz
 have hzp := hz.pos
 have hzl := hz.len
 have hzf := hz.few
 dsimp only at hzp hzl hzf
 refine SC.block ?_
 refine SC.seq (SC.region ?_)
 refine SL.val (Val.move rfl) rfl rfl ?_
 refine SL.val (Val.to (C := stA (z.1.drop 1)) (Val.sliceStLo (q := 1) Tryz.underlying9 rfl rfl rfl (by simp only [tx_size]; omega)) (st_lo _ _)) rfl rfl ?_
 refine SL.val (Val.move rfl) rfl rfl ?_
 first
  | refine SL.val (Val.addI rfl rfl (by simp only [InR, lo, hi]; omega)) rfl rfl ?_
  | refine SL.val (Val.addW rfl rfl) rfl rfl ?_
 refine SL.call (hp (z.1.drop 1) (by have := hz.len; rw [List.length_drop]; omega)) Casts.refl (by kernel_rfl) rfl rfl rfl ?_
 refine ap_ ?_
 intro y
 refine SL.val (Val.move rfl) rfl rfl ?_
 refine SL.val (Val.extract rfl rfl) rfl rfl ?_
 refine SL.val (Val.extract rfl rfl) rfl rfl ?_
 refine SL.val (Val.extract rfl rfl) rfl rfl ?_
 refine SL.eff (Eff.alloc tabOk rfl) rfl rfl ?_
 rintro _ _ ⟨b8, rfl, rfl⟩
 refine SL.eff (Eff.store (L' := y.1.1.abs) tabOk rfl rfl rfl (by repeat first|assumption|exact Upd.here|apply Upd.there) (by exact Frm.abs_len _) (lb_ (by rfl)) (by exact Frm.abs_ones _) (putL_whole (by exact Frm.abs_len _))) rfl rfl ?_
 rintro _ _ ⟨rfl, rfl⟩
 iterate 2 refine SL.val (Val.assign rfl) rfl rfl ?_
 refine SL.nil (SE.seq ?_)
 refine SC.seq ?_
 refine SC.seq (SC.region ?_)
 refine SL.val (Val.move rfl) rfl rfl ?_
 refine SL.val (Val.notB rfl) rfl rfl ?_
 refine SL.nil (SE.seq ?_)
 refine SC.cond rfl ?_ ?_
 ·intro hc27
  have ho : y.1.2.2 = false := by simpa using hc27
  refine SC.seq (SC.region ?_)
  refine SL.val (Val.move rfl) rfl rfl ?_
  iterate 3 refine SL.val (Val.assign rfl) rfl rfl ?_
  refine SL.nil (SE.seq ?_)
  refine SC.ret ?_
  refine SE.then_ nofun ?_
  refine SE.ret ?_
  refine SE.then_ nofun ?_
  refine SE.ret ?_
  refine SE.finC (rs := [.tmp 4, .tmp 5, .tmp 6]) rfl (RV.tmp rfl (RV.tmp rfl (RV.tmp rfl RV.nil))) (Casts.nils (s := 3) Casts.refl) (⟨([], z.1, false), DocR.of_none (hz.no y.2 ho) _⟩) (by repeat first|exact s0 _|exact s1 _|apply s2|apply s3) (by simp [It.rids]) ?_
  exact rfl
 intro hc27
 have ho : y.1.2.2 = true := by simpa using hc27
 refine SC.skip ?_
 refine SE.seq ?_
 refine SC.seq (SC.region ?_)
 refine SL.val (Val.move rfl) rfl rfl ?_
 refine SL.val (Val.loadA tabOk rfl rfl rfl (by repeat first|assumption|exact o0_|exact o1_|apply o2_) List.not_mem_nil (Frm.abs_len _)) rfl rfl ?_
 refine SL.eff (Eff.buildSl tabOk Tryz.underlying93 rfl rfl rfl (elems_one (Frm.abs_len _)) rfl rfl rfl) rfl rfl ?_
 rintro _ _ ⟨rfl, rfl⟩
 refine SL.eff (Eff.appendE (zs := (z.2.1 ++ [y.1.1]).map Frm.abs) tabOk [_] (by rw [List.map_append]; rfl) Tryz.underlying93 rfl rfl rfl rfl rfl rfl (by intro c hc; rw [List.mem_singleton] at hc; subst hc; exact Frm.abs_ones _) (by unfold maxLen; simp only [List.length_map, List.length_cons, List.length_nil]; omega) (by rw [show Tryz.prog.bytesOf 95 = 40 by kernel_rfl]; simp only [List.length_map, List.length_cons, List.length_nil]; omega)) rfl rfl ?_
 rintro _ _ ⟨r32, rfl, rfl⟩
 refine SL.val (Val.assign rfl) rfl rfl ?_
 refine SL.nil (SE.seq ?_)
 refine SC.seq (SC.region ?_)
 refine SL.val (Val.move rfl) rfl rfl ?_
 refine SL.call (rbare_s (l := y.1.2.1)) Casts.refl (by kernel_rfl) rfl rfl rfl ?_
 refine ap_ ?_
 intro _
 refine SL.val (Val.assign rfl) rfl rfl ?_
 refine SL.nil (SE.seq ?_)
 refine SC.seq ?_
 refine SC.seq (SC.region ?_)
 refine SL.val (Val.move rfl) rfl rfl ?_
 refine SL.call (rbegins_s (l := (bare y.1.2.1)) (wd := [41])) Casts.refl (by kernel_rfl) rfl rfl rfl ?_
 refine ap_ ?_
 intro _
 refine SL.nil (SE.seq ?_)
 refine SC.cond rfl ?_ ?_
 ·intro hc36
  have hbl := begins_len hc36
  simp only [List.length_singleton] at hbl
  refine SC.seq ?_
  refine SC.draw [] (.q 0 (.q 1 (.q 2 (.q 3 (.q 4 (.q 5 .nil)))))) (by kernel_rfl) (by kernel_rfl) ?_
  refine SX.val rfl (Val.move rfl) (by simp) rfl rfl ?_
  refine SX.val rfl (Val.move rfl) (by simp) rfl rfl ?_
  refine SX.hx (by first|(simp[mids,It.mids,ownPc];done)|(intro k hk;simp[mids,It.mids,ownPc] at hk ⊢;grind)) fun hx9 => ?_
  refine SX.val rfl (Val.to (C := stA ((bare y.1.2.1).drop 1)) (Val.sliceStLo (q := 1) Tryz.underlying9 rfl rfl rfl (by simp only [tx_size]; omega)) (st_lo _ _)) hx9 rfl rfl ?_
  refine SX.val rfl (Val.assign rfl) (by simp) rfl rfl ?_
  refine SX.val rfl (Val.assign rfl) (by simp) rfl rfl ?_
  refine SX.val rfl (Val.assign rfl) (by simp) rfl rfl ?_
  refine SX.nil (SE.seq ?_)
  refine SC.ret ?_
  refine SE.then_ nofun ?_
  refine SE.ret ?_
  refine SE.then_ nofun ?_
  refine SE.ret ?_
  refine SE.freeze [_] (t := 4) rfl rfl ?_
  refine SE.fin (rs := [.tmp 4, .tmp 5, .tmp 6]) rfl (RV.tmp rfl (RV.tmp rfl (RV.tmp rfl RV.nil))) (⟨(z.2.1 ++ [y.1.1], (bare y.1.2.1).drop 1, true), DocR.of_some (hz.done y.2 ho hc36)⟩) (by repeat first|exact s0 _|exact s1 _|apply s2|apply s3) (by simp [It.rids]) ?_
  exact rfl
 intro hc36
 have hb1 : ¬ begins (bare y.1.2.1) [41] = true := by rw [hc36]; decide
 refine SC.skip ?_
 refine SE.seq ?_
 refine SC.seq (SC.region ?_)
 refine SL.val (Val.move rfl) rfl rfl ?_
 refine SL.call (rbegins_s (l := (bare y.1.2.1)) (wd := [44])) Casts.refl (by kernel_rfl) rfl rfl rfl ?_
 refine ap_ ?_
 intro _
 refine SL.val (Val.notB rfl) rfl rfl ?_
 refine SL.nil (SE.seq ?_)
 refine SC.cond rfl ?_ ?_
 rotate_left
 ·intro hc42
  have hb2 : begins (bare y.1.2.1) [44] = true := by simpa using hc42
  refine SC.skip ?_
  refine SE.inBlock ?_
  have hst := hz.step y.2 ho hb1 hb2
  refine SE.round (bare y.1.2.1, z.2.1 ++ [y.1.1], r32) hst.2 (hst.1) (by exact ⟨rfl, rfl, rfl, trivial⟩) (by repeat first|exact s0 _|exact s1 _|apply s2|apply s3)
 intro hc42
 have hb2 : ¬ begins (bare y.1.2.1) [44] = true := by simpa using hc42
 refine SC.seq (SC.region ?_)
 refine SL.val (Val.move rfl) rfl rfl ?_
 iterate 3 refine SL.val (Val.assign rfl) rfl rfl ?_
 refine SL.nil (SE.seq ?_)
 refine SC.ret ?_
 refine SE.ret ?_
 refine SE.then_ nofun ?_
 refine SE.ret ?_
 refine SE.finC (rs := [.tmp 4, .tmp 5, .tmp 6]) rfl (RV.tmp rfl (RV.tmp rfl (RV.tmp rfl RV.nil))) (Casts.nils (s := 3) Casts.refl) (⟨([], bare y.1.2.1, false), DocR.of_none (hz.bad y.2 ho hb1 hb2) _⟩) (by repeat first|exact s0 _|exact s1 _|apply s2|apply s3) (by simp [It.rids]) ?_
 exact rfl
theorem rpol0_s (hl : l.length ≤ 1000) : Spec Tryz.prog 90 [stA l, int 11] [] (fun _ : {z : Frm × Txt × Bool // DocP 0 l z} => []) (fun z => .tup [.agg z.1.1.abs, stA z.1.2.1, boo z.1.2.2]) := by
 refine spec_of Tryz.func90 rfl Tryz.ntmps90 rfl fun G w => ?_
 refine SC.seq (SC.region ?_)
 refine SL.eff (Eff.alloc tabOk rfl) rfl rfl ?_
 rintro _ _ ⟨b4, rfl, rfl⟩
 iterate 2 refine SL.val (Val.assign rfl) rfl rfl ?_
 refine SL.nil (SE.seq ?_)
 refine SC.seq (SC.region ?_)
 refine SL.val (Val.move rfl) rfl rfl ?_
 refine SL.call (rbare_s (l := l)) Casts.refl (by kernel_rfl) rfl rfl rfl ?_
 refine ap_ ?_
 intro _
 refine SL.val (Val.assign rfl) rfl rfl ?_
 refine SL.nil (SE.seq ?_)
 refine SC.seq ?_
 refine SC.seq (SC.region ?_)
 refine SL.val (Val.move rfl) rfl rfl ?_
 refine SL.val (Val.gtI rfl rfl) rfl rfl ?_
 refine SL.nil (SE.seq ?_)
 refine SC.condP rfl ?_ (by intro hc19; exfalso; omega)
 intro hc19
 refine SC.seq (SC.region ?_)
 refine SL.val (Val.buildS tabOk rfl rfl rfl rfl) rfl rfl ?_
 refine SL.val (Val.move rfl) rfl rfl ?_
 refine SL.eff (Eff.store tabOk rfl rfl rfl (by repeat first|assumption|exact Upd.here|apply Upd.there) (by rfl) (lb_ (by rfl)) (by rfl) (by rfl)) rfl rfl ?_
 rintro _ _ ⟨rfl, rfl⟩
 iterate 2 refine SL.val (Val.assign rfl) rfl rfl ?_
 refine SL.nil (SE.seq ?_)
 refine SC.ret ?_
 refine SE.then_ nofun ?_
 refine SE.finC (rs := [.cell 4 95, .tmp 5, .tmp 6]) rfl (RV.cell rfl (RV.cellA tabOk rfl rfl (by repeat first|assumption|exact o0_|exact o1_|apply o2_) (by rfl)) (RV.tmp rfl (RV.tmp rfl RV.nil))) (Casts.cons (cast_agg (Casts.keep (Casts.keep (Casts.nils (s := 3) Casts.refl)))) Casts.refl) (⟨(.mk 0 0 [], bare l, false), DocP.deep rfl⟩) (by repeat first|exact s0 _|exact s1 _|apply s2|apply s3) (by simp [It.rids]) ?_
 first
  | (rw [Frm.abs_mk]; rfl)
  | rfl
set_option maxHeartbeats 2000000 in
theorem rpol_step (hd : 1 ≤ d ∧ d ≤ 10) (hp : ∀ l : Txt, l.length ≤ 1000 → Spec Tryz.prog 90 [stA l, int (d + 1)] [] (fun _ : {z : Frm × Txt × Bool // DocP k l z} => []) (fun z => .tup [.agg z.1.1.abs, stA z.1.2.1, boo z.1.2.2])) (hl : l.length ≤ 1000) : Spec Tryz.prog 90 [stA l, int d] [] (fun _ : {z : Frm × Txt × Bool // DocP (k + 1) l z} => []) (fun z => .tup [.agg z.1.1.abs, stA z.1.2.1, boo z.1.2.2]) := by
 have hbl := bare_len l
 refine spec_of Tryz.func90 rfl Tryz.ntmps90 rfl fun G w => ?_
 refine SC.seq (SC.region ?_)
 refine SL.eff (Eff.alloc tabOk rfl) rfl rfl ?_
 rintro _ _ ⟨b4, rfl, rfl⟩
 iterate 2 refine SL.val (Val.assign rfl) rfl rfl ?_
 refine SL.nil (SE.seq ?_)
 refine SC.seq (SC.region ?_)
 refine SL.val (Val.move rfl) rfl rfl ?_
 refine SL.call (rbare_s (l := l)) Casts.refl (by kernel_rfl) rfl rfl rfl ?_
 refine ap_ ?_
 intro _
 refine SL.val (Val.assign rfl) rfl rfl ?_
 refine SL.nil (SE.seq ?_)
 refine SC.seq ?_
 refine SC.seq (SC.region ?_)
 refine SL.val (Val.move rfl) rfl rfl ?_
 refine SL.val (Val.gtI rfl rfl) rfl rfl ?_
 refine SL.nil (SE.seq ?_)
 refine SC.condP rfl (by intro hc19; exfalso; omega) ?_
 intro hc19
 refine SC.skip ?_
 refine SE.seq ?_
 refine SC.seq ?_
 refine SC.seq (SC.region ?_)
 refine SL.val (Val.move rfl) rfl rfl ?_
 refine SL.call (rbegins_s (l := (bare l)) (wd := [97, 108, 108])) Casts.refl (by kernel_rfl) rfl rfl rfl ?_
 refine ap_ ?_
 intro _
 refine SL.val (Val.move rfl) rfl rfl ?_
 refine SL.both (t := 24) rfl ?_ ?_
 ·intro hc24
  have ha : begins (bare l) [97, 108, 108] = true := hc24
  have hal := begins_len ha
  simp only [List.length_cons, List.length_nil] at hal
  iterate 2 refine SL.skip rfl rfl ?_
  refine SL.val (Val.pickT rfl rfl) rfl rfl ?_
  refine SL.nil (SE.seq ?_)
  refine SC.condT rfl ?_
  refine SC.seq (SC.region ?_)
  refine SL.val (Val.move rfl) rfl rfl ?_
  refine SL.val (Val.to (C := stA ((bare l).drop 3)) (Val.sliceStLo (q := 3) Tryz.underlying9 rfl rfl rfl (by simp only [tx_size]; omega)) (st_lo _ _)) rfl rfl ?_
  refine SL.val (Val.move rfl) rfl rfl ?_
  refine SL.call (rrow_s (l := (bare l).drop 3) (by omega) hp (by rw [List.length_drop]; omega)) Casts.refl (by kernel_rfl) rfl rfl rfl ?_
  refine ap_ ?_
  intro y
  refine SL.val (Val.move rfl) rfl rfl ?_
  refine SL.val (Val.extract rfl rfl) rfl rfl ?_
  refine SL.val (Val.extract rfl rfl) rfl rfl ?_
  refine SL.val (Val.extract rfl rfl) rfl rfl ?_
  iterate 3 refine SL.val (Val.assign rfl) rfl rfl ?_
  refine SL.nil (SE.seq ?_)
  refine SC.seq (SC.region ?_)
  refine SL.val (Val.assign rfl) rfl rfl ?_
  refine SL.nil (SE.seq ?_)
  refine SC.seq ?_
  refine SC.seq (SC.region ?_)
  refine SL.val (Val.move rfl) rfl rfl ?_
  refine SL.call (rbegins_s (l := (bare l)) (wd := [97, 108, 108])) Casts.refl (by kernel_rfl) rfl rfl rfl ?_
  refine ap_ ?_
  intro _
  refine SL.nil (SE.seq ?_)
  refine SC.cond rfl ?_ (by intro hc37; exfalso; rw [hc24] at hc37; cases hc37)
  intro hc37
  refine SC.region ?_
  refine SL.val (Val.move rfl) rfl rfl ?_
  first
   | refine SL.val (Val.lenSl rfl Tryz.underlying93 (List.length_map _)) rfl rfl ?_
   | refine SL.val (Val.lenOwn rfl (by repeat first|assumption|exact m0|apply m1) Tryz.underlying93 (List.length_map _)) rfl rfl ?_
   | refine SL.val (Val.lenNil rfl Tryz.underlying93) rfl rfl ?_
  refine SL.val (Val.assign rfl) rfl rfl ?_
  refine SL.nil (SE.seq ?_)
  refine SC.seq (SC.region ?_)
  iterate 2 refine SL.val (Val.move rfl) rfl rfl ?_
  refine SL.val (Val.buildS tabOk rfl rfl rfl rfl) rfl rfl ?_
  iterate 2 refine SL.val (Val.move rfl) rfl rfl ?_
  refine SL.eff (Eff.store tabOk rfl rfl rfl (by repeat first|assumption|exact Upd.here|apply Upd.there) (by rfl) (lb_ (by rfl)) (by rfl) (by rfl)) rfl rfl ?_
  rintro _ _ ⟨rfl, rfl⟩
  iterate 2 refine SL.val (Val.assign rfl) rfl rfl ?_
  refine SL.nil (SE.seq ?_)
  refine SC.ret ?_
  refine SE.then_ nofun ?_
  refine SE.fin (rs := [.cell 4 95, .tmp 5, .tmp 6]) rfl (RV.cell rfl (RV.cellA tabOk rfl rfl (by repeat first|assumption|exact o0_|exact o1_|apply o2_) (by rfl)) (RV.tmp rfl (RV.tmp rfl RV.nil))) (⟨(.mk 0 y.1.1.length y.1.1, y.1.2.1, y.1.2.2), DocP.all ha y.2⟩) (by repeat first|exact s0 _|exact s1 _|apply s2|apply s3) (by simp [It.rids]) ?_
  first
   | (rw [Frm.abs_mk]; rfl)
   | rfl
 intro hc24
 have ha : ¬ begins (bare l) [97, 108, 108] = true := by rw [hc24]; decide
 refine SL.val (Val.move rfl) rfl rfl ?_
 refine SL.call (rbegins_s (l := (bare l)) (wd := [97, 110, 121])) Casts.refl (by kernel_rfl) rfl rfl rfl ?_
 refine ap_ ?_
 intro _
 refine SL.val (Val.pickF rfl rfl) rfl rfl ?_
 refine SL.nil (SE.seq ?_)
 refine SC.cond rfl ?_ ?_
 ·intro hc27
  have hb : begins (bare l) [97, 110, 121] = true := hc27
  have hal := begins_len hb
  simp only [List.length_cons, List.length_nil] at hal
  refine SC.seq (SC.region ?_)
  refine SL.val (Val.move rfl) rfl rfl ?_
  refine SL.val (Val.to (C := stA ((bare l).drop 3)) (Val.sliceStLo (q := 3) Tryz.underlying9 rfl rfl rfl (by simp only [tx_size]; omega)) (st_lo _ _)) rfl rfl ?_
  refine SL.val (Val.move rfl) rfl rfl ?_
  refine SL.call (rrow_s (l := (bare l).drop 3) (by omega) hp (by rw [List.length_drop]; omega)) Casts.refl (by kernel_rfl) rfl rfl rfl ?_
  refine ap_ ?_
  intro y
  refine SL.val (Val.move rfl) rfl rfl ?_
  refine SL.val (Val.extract rfl rfl) rfl rfl ?_
  refine SL.val (Val.extract rfl rfl) rfl rfl ?_
  refine SL.val (Val.extract rfl rfl) rfl rfl ?_
  iterate 3 refine SL.val (Val.assign rfl) rfl rfl ?_
  refine SL.nil (SE.seq ?_)
  refine SC.seq (SC.region ?_)
  refine SL.val (Val.assign rfl) rfl rfl ?_
  refine SL.nil (SE.seq ?_)
  refine SC.seq ?_
  refine SC.seq (SC.region ?_)
  refine SL.val (Val.move rfl) rfl rfl ?_
  refine SL.call (rbegins_s (l := (bare l)) (wd := [97, 108, 108])) Casts.refl (by kernel_rfl) rfl rfl rfl ?_
  refine ap_ ?_
  intro _
  refine SL.nil (SE.seq ?_)
  refine SC.cond rfl (by intro hc37; exfalso; rw [hc24] at hc37; cases hc37) ?_
  intro hc37
  refine SC.skip ?_
  refine SE.seq ?_
  refine SC.seq (SC.region ?_)
  iterate 2 refine SL.val (Val.move rfl) rfl rfl ?_
  refine SL.val (Val.buildS tabOk rfl rfl rfl rfl) rfl rfl ?_
  iterate 2 refine SL.val (Val.move rfl) rfl rfl ?_
  refine SL.eff (Eff.store tabOk rfl rfl rfl (by repeat first|assumption|exact Upd.here|apply Upd.there) (by rfl) (lb_ (by rfl)) (by rfl) (by rfl)) rfl rfl ?_
  rintro _ _ ⟨rfl, rfl⟩
  iterate 2 refine SL.val (Val.assign rfl) rfl rfl ?_
  refine SL.nil (SE.seq ?_)
  refine SC.ret ?_
  refine SE.then_ nofun ?_
  refine SE.fin (rs := [.cell 4 95, .tmp 5, .tmp 6]) rfl (RV.cell rfl (RV.cellA tabOk rfl rfl (by repeat first|assumption|exact o0_|exact o1_|apply o2_) (by rfl)) (RV.tmp rfl (RV.tmp rfl RV.nil))) (⟨(.mk 0 1 y.1.1, y.1.2.1, y.1.2.2), DocP.any ha hb y.2⟩) (by repeat first|exact s0 _|exact s1 _|apply s2|apply s3) (by simp [It.rids]) ?_
  first
   | (rw [Frm.abs_mk]; rfl)
   | rfl
 intro hc27
 have hb : ¬ begins (bare l) [97, 110, 121] = true := by rw [hc27]; decide
 refine SC.skip ?_
 refine SE.seq ?_
 refine SC.seq (SC.region ?_)
 refine SL.val (Val.move rfl) rfl rfl ?_
 refine SL.call (rnumber_s (l := bare l) (by omega)) Casts.refl (by kernel_rfl) rfl rfl rfl ?_
 refine ap_ ?_
 intro _
 refine SL.val (Val.move rfl) rfl rfl ?_
 refine SL.val (Val.extract rfl rfl) rfl rfl ?_
 refine SL.val (Val.extract rfl rfl) rfl rfl ?_
 refine SL.val (Val.extract rfl rfl) rfl rfl ?_
 iterate 3 refine SL.val (Val.assign rfl) rfl rfl ?_
 refine SL.nil (SE.seq ?_)
 refine SC.seq ?_
 refine SC.seq (SC.region ?_)
 refine SL.val (Val.move rfl) rfl rfl ?_
 refine SL.val (Val.notB rfl) rfl rfl ?_
 refine SL.nil (SE.seq ?_)
 refine SC.cond rfl ?_ ?_
 ·intro hc52
  have hn : (numF (bare l)).2.2 = false := by simpa using hc52
  refine SC.seq (SC.region ?_)
  refine SL.val (Val.buildS tabOk rfl rfl rfl rfl) rfl rfl ?_
  refine SL.val (Val.move rfl) rfl rfl ?_
  refine SL.eff (Eff.store tabOk rfl rfl rfl (by repeat first|assumption|exact Upd.here|apply Upd.there) (by rfl) (lb_ (by rfl)) (by rfl) (by rfl)) rfl rfl ?_
  rintro _ _ ⟨rfl, rfl⟩
  iterate 2 refine SL.val (Val.assign rfl) rfl rfl ?_
  refine SL.nil (SE.seq ?_)
  refine SC.ret ?_
  refine SE.then_ nofun ?_
  refine SE.finC (rs := [.cell 4 95, .tmp 5, .tmp 6]) rfl (RV.cell rfl (RV.cellA tabOk rfl rfl (by repeat first|assumption|exact o0_|exact o1_|apply o2_) (by rfl)) (RV.tmp rfl (RV.tmp rfl RV.nil))) (Casts.cons (cast_agg (Casts.keep (Casts.keep (Casts.nils (s := 3) Casts.refl)))) Casts.refl) (⟨(.mk 0 0 [], bare l, false), DocP.bad ha hb hn rfl⟩) (by repeat first|exact s0 _|exact s1 _|apply s2|apply s3) (by simp [It.rids]) ?_
  first
   | (rw [Frm.abs_mk]; rfl)
   | rfl
 intro hc52
 have hn : (numF (bare l)).2.2 = true := by simpa using hc52
 obtain ⟨v, hv1, hv2, hv3, hv4⟩ := numF_ok hn
 have hb9 := bare_len (numF (bare l)).2.1
 refine SC.skip ?_
 refine SE.seq ?_
 refine SC.seq ?_
 refine SC.seq (SC.region ?_)
 refine SL.val (Val.move rfl) rfl rfl ?_
 refine SL.call (rbare_s (l := (numF (bare l)).2.1)) Casts.refl (by kernel_rfl) rfl rfl rfl ?_
 refine ap_ ?_
 intro _
 refine SL.call (rbegins_s (l := (bare (numF (bare l)).2.1)) (wd := [111, 102])) Casts.refl (by kernel_rfl) rfl rfl rfl ?_
 refine ap_ ?_
 intro _
 refine SL.val (Val.notB rfl) rfl rfl ?_
 refine SL.nil (SE.seq ?_)
 refine SC.cond rfl ?_ ?_
 ·intro hc58
  have hof : ¬ begins (bare (numF (bare l)).2.1) [111, 102] = true := by simpa using hc58
  refine SC.seq (SC.region ?_)
  refine SL.val (Val.move rfl) rfl rfl ?_
  refine SL.val (Val.buildS tabOk rfl rfl rfl rfl) rfl rfl ?_
  refine SL.val (Val.move rfl) rfl rfl ?_
  refine SL.eff (Eff.store tabOk rfl rfl rfl (by repeat first|assumption|exact Upd.here|apply Upd.there) (by rfl) (lb_ (by rfl)) (by rfl) (by rfl)) rfl rfl ?_
  rintro _ _ ⟨rfl, rfl⟩
  iterate 2 refine SL.val (Val.assign rfl) rfl rfl ?_
  refine SL.nil (SE.seq ?_)
  refine SC.ret ?_
  refine SE.then_ nofun ?_
  refine SE.finC (rs := [.cell 4 95, .tmp 5, .tmp 6]) rfl (RV.cell rfl (RV.cellA tabOk rfl rfl (by repeat first|assumption|exact o0_|exact o1_|apply o2_) (by rfl)) (RV.tmp rfl (RV.tmp rfl RV.nil))) (Casts.cons (cast_agg (Casts.keep (Casts.keep (Casts.nils (s := 3) Casts.refl)))) Casts.refl) (⟨(.mk (numF (bare l)).1 0 [], (numF (bare l)).2.1, true), DocP.org ha hb hn hof⟩) (by repeat first|exact s0 _|exact s1 _|apply s2|apply s3) (by simp [It.rids]) ?_
  first
   | (rw [Frm.abs_mk]; rfl)
   | rfl
 intro hc58
 have hof : begins (bare (numF (bare l)).2.1) [111, 102] = true := by simpa using hc58
 have hol := begins_len hof
 simp only [List.length_cons, List.length_nil] at hol
 refine SC.skip ?_
 refine SE.seq ?_
 refine SC.seq (SC.region ?_)
 refine SL.val (Val.move rfl) rfl rfl ?_
 refine SL.call (rbare_s (l := (numF (bare l)).2.1)) Casts.refl (by kernel_rfl) rfl rfl rfl ?_
 refine ap_ ?_
 intro _
 refine SL.val (Val.to (C := stA ((bare (numF (bare l)).2.1).drop 2)) (Val.sliceStLo (q := 2) Tryz.underlying9 rfl rfl rfl (by simp only [tx_size]; omega)) (st_lo _ _)) rfl rfl ?_
 refine SL.val (Val.move rfl) rfl rfl ?_
 refine SL.call (rrow_s (l := (bare (numF (bare l)).2.1).drop 2) (by omega) hp (by rw [List.length_drop]; omega)) Casts.refl (by kernel_rfl) rfl rfl rfl ?_
 refine ap_ ?_
 intro y
 refine SL.val (Val.move rfl) rfl rfl ?_
 refine SL.val (Val.extract rfl rfl) rfl rfl ?_
 refine SL.val (Val.extract rfl rfl) rfl rfl ?_
 refine SL.val (Val.extract rfl rfl) rfl rfl ?_
 iterate 3 refine SL.val (Val.assign rfl) rfl rfl ?_
 refine SL.nil (SE.seq ?_)
 refine SC.seq (SC.region ?_)
 iterate 2 refine SL.val (Val.move rfl) rfl rfl ?_
 refine SL.val (Val.buildS tabOk rfl rfl rfl rfl) rfl rfl ?_
 iterate 3 refine SL.val (Val.move rfl) rfl rfl ?_
 refine SL.both (t := 76) rfl ?_ ?_
 rotate_left
 ·intro hc76
  iterate 2 refine SL.skip rfl rfl ?_
  refine SL.val (Val.pickF rfl rfl) rfl rfl ?_
  refine SL.val (Val.move rfl) rfl rfl ?_
  iterate 2 refine SL.skip rfl rfl ?_
  refine SL.val (Val.pickF rfl rfl) rfl rfl ?_
  refine SL.eff (Eff.store tabOk rfl rfl rfl (by repeat first|assumption|exact Upd.here|apply Upd.there) (by rfl) (lb_ (by rfl)) (by rfl) (by rfl)) rfl rfl ?_
  rintro _ _ ⟨rfl, rfl⟩
  iterate 2 refine SL.val (Val.assign rfl) rfl rfl ?_
  refine SL.nil (SE.seq ?_)
  refine SC.ret ?_
  refine SE.fin (rs := [.cell 4 95, .tmp 5, .tmp 6]) rfl (RV.cell rfl (RV.cellA tabOk rfl rfl (by repeat first|assumption|exact o0_|exact o1_|apply o2_) (by rfl)) (RV.tmp rfl (RV.tmp rfl RV.nil))) (⟨(.mk 0 (numF (bare l)).1 y.1.1, y.1.2.1, false), DocP.of ha hb hn hof y.2 ⟨fun h => (by cases h), fun h => (by rw [hc76] at h; cases h.1)⟩⟩) (by repeat first|exact s0 _|exact s1 _|apply s2|apply s3) (by simp [It.rids]) ?_
  first
   | (rw [Frm.abs_mk]; rfl)
   | rfl
 intro hc76
 refine SL.val (Val.move rfl) rfl rfl ?_
 refine SL.val (Val.geI rfl rfl) rfl rfl ?_
 refine SL.val (Val.pickT rfl rfl) rfl rfl ?_
 refine SL.val (Val.move rfl) rfl rfl ?_
 refine SL.bothP (t := 80) rfl ?_ ?_
 ·intro hc80
  refine SL.val (Val.move rfl) rfl rfl ?_
  refine SL.val (Val.leI rfl rfl) rfl rfl ?_
  refine SL.val (Val.pickT rfl rfl) rfl rfl ?_
  refine SL.eff (Eff.store tabOk rfl rfl rfl (by repeat first|assumption|exact Upd.here|apply Upd.there) (by rfl) (lb_ (by rfl)) (by rfl) (by rfl)) rfl rfl ?_
  rintro _ _ ⟨rfl, rfl⟩
  iterate 2 refine SL.val (Val.assign rfl) rfl rfl ?_
  refine SL.nil (SE.seq ?_)
  refine SC.ret ?_
  refine SE.fin (rs := [.cell 4 95, .tmp 5, .tmp 6]) rfl (RV.cell rfl (RV.cellA tabOk rfl rfl (by repeat first|assumption|exact o0_|exact o1_|apply o2_) (by rfl)) (RV.tmp rfl (RV.tmp rfl RV.nil))) (⟨(.mk 0 (numF (bare l)).1 y.1.1, y.1.2.1, decide ((numF (bare l)).1 ≤ 99)), DocP.of ha hb hn hof y.2 (by rw [decide_eq_true_iff]; exact ⟨fun h => ⟨hc76, by omega, h⟩, fun h => h.2.2⟩)⟩) (by repeat first|exact s0 _|exact s1 _|apply s2|apply s3) (by simp [It.rids]) ?_
  first
   | (rw [Frm.abs_mk]; rfl)
   | rfl
 intro hc80
 iterate 2 refine SL.skip rfl rfl ?_
 refine SL.val (Val.pickF rfl rfl) rfl rfl ?_
 refine SL.eff (Eff.store tabOk rfl rfl rfl (by repeat first|assumption|exact Upd.here|apply Upd.there) (by rfl) (lb_ (by rfl)) (by rfl) (by rfl)) rfl rfl ?_
 rintro _ _ ⟨rfl, rfl⟩
 iterate 2 refine SL.val (Val.assign rfl) rfl rfl ?_
 refine SL.nil (SE.seq ?_)
 refine SC.ret ?_
 refine SE.fin (rs := [.cell 4 95, .tmp 5, .tmp 6]) rfl (RV.cell rfl (RV.cellA tabOk rfl rfl (by repeat first|assumption|exact o0_|exact o1_|apply o2_) (by rfl)) (RV.tmp rfl (RV.tmp rfl RV.nil))) (⟨(.mk 0 (numF (bare l)).1 y.1.1, y.1.2.1, false), DocP.of ha hb hn hof y.2 ⟨fun h => (by cases h), fun h => absurd h.2.1 (by omega)⟩⟩) (by repeat first|exact s0 _|exact s1 _|apply s2|apply s3) (by simp [It.rids]) ?_
 first
  | (rw [Frm.abs_mk]; rfl)
  | rfl
theorem rpol_s : ∀ k : Nat, k ≤ 10 → ∀ l : Txt, l.length ≤ 1000 → Spec Tryz.prog 90 [stA l, int (11 - (k : Int))] [] (fun _ : {z : Frm × Txt × Bool // DocP k l z} => []) (fun z => .tup [.agg z.1.1.abs, stA z.1.2.1, boo z.1.2.2])
  | 0, _, l, hl => rpol0_s hl
  | k + 1, hk, l, hl => rpol_step (by omega) (by
      rw [show (11 - ((k + 1 : Nat) : Int)) + 1 = 11 - (k : Int) by omega]
      exact rpol_s k (by omega)) hl
theorem rpol1_s (hl : l.length ≤ 1000) : Spec Tryz.prog 90 [stA l, int 1] [] (fun _ : {z : Frm × Txt × Bool // DocP 10 l z} => []) (fun z => .tup [.agg z.1.1.abs, stA z.1.2.1, boo z.1.2.2]) := rpol_s 10 (Nat.le_refl _) l hl
set_option maxHeartbeats 2000000 in
theorem rparse_s  : Spec Tryz.prog 70 [stA l, int n] [] (fun _ : Unit => []) (fun _ => .tup [.agg (parseF l n).1.abs, int (parseF l n).2]) := by
 refine spec_of Tryz.func70 rfl Tryz.ntmps70 rfl fun G w => ?_
 refine SC.seq (SC.region ?_)
 refine SL.eff (Eff.alloc tabOk rfl) rfl rfl ?_
 rintro _ _ ⟨b4, rfl, rfl⟩
 refine SL.val (Val.assign rfl) rfl rfl ?_
 refine SL.nil (SE.seq ?_)
 refine SC.seq ?_
 refine SC.seq (SC.region ?_)
 refine SL.val (Val.move rfl) rfl rfl ?_
 refine SL.val (Val.to (C := int ((l.length : Nat) : Int)) (Val.lenSt rfl Tryz.underlying9) rfl) rfl rfl ?_
 refine SL.val (Val.gtI rfl rfl) rfl rfl ?_
 refine SL.nil (SE.seq ?_)
 refine SC.condP rfl ?_ ?_
 ·intro hc12
  have hl2 : 200 < l.length := by omega
  refine SC.seq (SC.region ?_)
  refine SL.val (Val.buildS tabOk rfl rfl rfl rfl) rfl rfl ?_
  refine SL.eff (Eff.store tabOk rfl rfl rfl (by repeat first|assumption|exact Upd.here|apply Upd.there) (by rfl) (lb_ (by rfl)) (by rfl) (by rfl)) rfl rfl ?_
  rintro _ _ ⟨rfl, rfl⟩
  refine SL.val (Val.assign rfl) rfl rfl ?_
  refine SL.nil (SE.seq ?_)
  refine SC.ret ?_
  refine SE.then_ nofun ?_
  refine SE.finC (rs := [.cell 4 95, .tmp 5]) rfl (RV.cell rfl (RV.cellA tabOk rfl rfl (by repeat first|assumption|exact o0_|exact o1_|apply o2_) (by rfl)) (RV.tmp rfl RV.nil)) (Casts.cons (cast_agg (Casts.keep (Casts.keep (Casts.nils (s := 3) Casts.refl)))) Casts.refl) (()) (by repeat first|exact s0 _|exact s1 _|apply s2|apply s3) (by simp [It.rids]) ?_
  rw [parse_long hl2]
  rw [Frm.abs_mk]
  rfl
 intro hc12
 have hl2 : ¬ 200 < l.length := by omega
 refine SC.skip ?_
 refine SE.seq ?_
 refine SC.seq (SC.region ?_)
 refine SL.val (Val.move rfl) rfl rfl ?_
 refine SL.call (rpol1_s (l := l) (by omega)) Casts.refl (by kernel_rfl) rfl rfl rfl ?_
 refine ap_ ?_
 intro y
 refine SL.val (Val.move rfl) rfl rfl ?_
 refine SL.val (Val.extract rfl rfl) rfl rfl ?_
 refine SL.val (Val.extract rfl rfl) rfl rfl ?_
 refine SL.val (Val.extract rfl rfl) rfl rfl ?_
 refine SL.eff (Eff.alloc tabOk rfl) rfl rfl ?_
 rintro _ _ ⟨b6, rfl, rfl⟩
 refine SL.eff (Eff.store (L' := y.1.1.abs) tabOk rfl rfl rfl (by repeat first|assumption|exact Upd.here|apply Upd.there) (by exact Frm.abs_len _) (lb_ (by rfl)) (by exact Frm.abs_ones _) (putL_whole (by exact Frm.abs_len _))) rfl rfl ?_
 rintro _ _ ⟨rfl, rfl⟩
 iterate 2 refine SL.val (Val.assign rfl) rfl rfl ?_
 refine SL.nil (SE.seq ?_)
 refine SC.seq ?_
 refine SC.seq (SC.region ?_)
 refine SL.val (Val.move rfl) rfl rfl ?_
 refine SL.val (Val.notB rfl) rfl rfl ?_
 refine SL.val (Val.move rfl) rfl rfl ?_
 refine SL.both (t := 22) rfl ?_ ?_
 ·intro hc22
  have ho : y.1.2.2 = false := by simpa using hc22
  iterate 3 refine SL.skip rfl rfl ?_
  refine SL.val (Val.pickT rfl rfl) rfl rfl ?_
  refine SL.nil (SE.seq ?_)
  refine SC.condT rfl ?_
  refine SC.seq (SC.region ?_)
  refine SL.val (Val.buildS tabOk rfl rfl rfl rfl) rfl rfl ?_
  refine SL.eff (Eff.store tabOk rfl rfl rfl (by repeat first|assumption|exact Upd.here|apply Upd.there) (by rfl) (lb_ (by rfl)) (by rfl) (by rfl)) rfl rfl ?_
  rintro _ _ ⟨rfl, rfl⟩
  refine SL.val (Val.assign rfl) rfl rfl ?_
  refine SL.nil (SE.seq ?_)
  refine SC.ret ?_
  refine SE.then_ nofun ?_
  refine SE.finC (rs := [.cell 4 95, .tmp 5]) rfl (RV.cell rfl (RV.cellA tabOk rfl rfl (by repeat first|assumption|exact o0_|exact o1_|apply o2_) (by rfl)) (RV.tmp rfl RV.nil)) (Casts.cons (cast_agg (Casts.keep (Casts.keep (Casts.nils (s := 3) Casts.refl)))) Casts.refl) (()) (by repeat first|exact s0 _|exact s1 _|apply s2|apply s3) (by simp [It.rids]) ?_
  rw [doc_odd hl2 y.2 (.inl ho)]
  rw [Frm.abs_mk]
  rfl
 intro hc22
 have ho : y.1.2.2 = true := by simpa using hc22
 refine SL.val (Val.move rfl) rfl rfl ?_
 refine SL.call (rbare_s (l := y.1.2.1)) Casts.refl (by kernel_rfl) rfl rfl rfl ?_
 refine ap_ ?_
 intro _
 refine SL.val (Val.to (C := boo (decide (¬ bare y.1.2.1 = []))) (Val.neS rfl rfl) (congrArg (fun b => Abs.v (Value.bool b)) (decide_eq_decide.2 (not_congr st_eq)))) rfl rfl ?_
 refine SL.val (Val.pickF rfl rfl) rfl rfl ?_
 refine SL.nil (SE.seq ?_)
 refine SC.condP rfl ?_ ?_
 ·intro hc26
  refine SC.seq (SC.region ?_)
  refine SL.val (Val.buildS tabOk rfl rfl rfl rfl) rfl rfl ?_
  refine SL.eff (Eff.store tabOk rfl rfl rfl (by repeat first|assumption|exact Upd.here|apply Upd.there) (by rfl) (lb_ (by rfl)) (by rfl) (by rfl)) rfl rfl ?_
  rintro _ _ ⟨rfl, rfl⟩
  refine SL.val (Val.assign rfl) rfl rfl ?_
  refine SL.nil (SE.seq ?_)
  refine SC.ret ?_
  refine SE.then_ nofun ?_
  refine SE.finC (rs := [.cell 4 95, .tmp 5]) rfl (RV.cell rfl (RV.cellA tabOk rfl rfl (by repeat first|assumption|exact o0_|exact o1_|apply o2_) (by rfl)) (RV.tmp rfl RV.nil)) (Casts.cons (cast_agg (Casts.keep (Casts.keep (Casts.nils (s := 3) Casts.refl)))) Casts.refl) (()) (by repeat first|exact s0 _|exact s1 _|apply s2|apply s3) (by simp [It.rids]) ?_
  rw [doc_odd hl2 y.2 (.inr hc26)]
  rw [Frm.abs_mk]
  rfl
 intro hc26
 have hpe := doc_end (n := n) hl2 y.2 ho (Classical.byContradiction hc26)
 refine SC.skip ?_
 refine SE.seq ?_
 refine SC.seq ?_
 refine SC.seq (SC.region ?_)
 refine SL.val (Val.loadA tabOk rfl rfl rfl (by repeat first|assumption|exact o0_|exact o1_|apply o2_) List.not_mem_nil (Frm.abs_len _)) rfl rfl ?_
 refine SL.val (Val.move rfl) rfl rfl ?_
 refine SL.call (rfcheck_s (f := y.1.1) (n := n) (by have := hpe.1; omega)) Casts.refl (by kernel_rfl) rfl rfl rfl ?_
 refine ap_ ?_
 intro _
 refine SL.val (Val.assign rfl) rfl rfl ?_
 refine SL.nil (SE.seq ?_)
 refine SC.seq (SC.region ?_)
 refine SL.val (Val.move rfl) rfl rfl ?_
 refine SL.val (Val.neI rfl rfl) rfl rfl ?_
 refine SL.nil (SE.seq ?_)
 refine SC.condP rfl ?_ ?_
 rotate_left
 ·intro hc32
  refine SC.skip ?_
  refine SE.seq ?_
  refine SC.seq (SC.region ?_)
  refine SL.val (Val.loadA tabOk rfl rfl rfl (by repeat first|assumption|exact o0_|exact o1_|apply o2_) List.not_mem_nil (Frm.abs_len _)) rfl rfl ?_
  refine SL.eff (Eff.store (L' := y.1.1.abs) tabOk rfl rfl rfl (by repeat first|assumption|exact Upd.here|apply Upd.there) (by exact Frm.abs_len _) (lb_ (by rfl)) (by exact Frm.abs_ones _) (putL_whole (by exact Frm.abs_len _))) rfl rfl ?_
  rintro _ _ ⟨rfl, rfl⟩
  refine SL.val (Val.assign rfl) rfl rfl ?_
  refine SL.nil (SE.seq ?_)
  refine SC.ret ?_
  refine SE.fin (rs := [.cell 4 95, .tmp 5]) rfl (RV.cell rfl (RV.cellA tabOk rfl rfl (by repeat first|assumption|exact o0_|exact o1_|apply o2_) (by exact Frm.abs_len _)) (RV.tmp rfl RV.nil)) (()) (by repeat first|exact s0 _|exact s1 _|apply s2|apply s3) (by simp [It.rids]) ?_
  rw [hpe.2, if_neg hc32]
  rfl
 intro hc32
 refine SC.seq (SC.region ?_)
 refine SL.val (Val.buildS tabOk rfl rfl rfl rfl) rfl rfl ?_
 refine SL.val (Val.move rfl) rfl rfl ?_
 refine SL.eff (Eff.store tabOk rfl rfl rfl (by repeat first|assumption|exact Upd.here|apply Upd.there) (by rfl) (lb_ (by rfl)) (by rfl) (by rfl)) rfl rfl ?_
 rintro _ _ ⟨rfl, rfl⟩
 refine SL.val (Val.assign rfl) rfl rfl ?_
 refine SL.nil (SE.seq ?_)
 refine SC.ret ?_
 refine SE.then_ nofun ?_
 refine SE.finC (rs := [.cell 4 95, .tmp 5]) rfl (RV.cell rfl (RV.cellA tabOk rfl rfl (by repeat first|assumption|exact o0_|exact o1_|apply o2_) (by rfl)) (RV.tmp rfl RV.nil)) (Casts.cons (cast_agg (Casts.keep (Casts.keep (Casts.nils (s := 3) Casts.refl)))) Casts.refl) (()) (by repeat first|exact s0 _|exact s1 _|apply s2|apply s3) (by simp [It.rids]) ?_
 rw [hpe.2, if_pos hc32]
 rw [Frm.abs_mk]
 rfl
end
end Go.Proofs.YtejcohlpjikjpaaGreatDoor.A
/-
  The document's contract: entries, batches, ledgers.
-/
namespace Go.Proofs.YtejcohlpjikjpaaGreatDoor.A
open Go.RowKit

section
variable {l : Lg} {x : Ltr} {k n : Int} {s : ByteArray} {c : Core} {e : Ent} {es : List Ent} {h : List (List Ent)} {e1 e2 : Value}
theorem rstale_s  : Spec Tryz.prog 52 [.agg l.abs, coreA c] [] (fun _ : Unit => []) (fun _ => boo (l.stale c)) := by
 refine spec_of Tryz.func52 rfl Tryz.ntmps52 rfl fun G w => ?_
 refine SC.seq (SC.region ?_)
 refine SL.eff (Eff.boxA (cs := l.abs) rfl) rfl rfl ?_
 rintro _ _ ⟨b2, rfl, rfl⟩
 refine SL.eff (Eff.boxA (cs := c.cells.map .v) rfl) rfl rfl ?_
 rintro _ _ ⟨b3, rfl, rfl⟩
 refine SL.val (Val.assign rfl) rfl rfl ?_
 refine SL.nil (SE.seq ?_)
 refine SC.seq (SC.region ?_)
 refine SL.val (Val.to (C := .agg l.abs) (Val.loadP tabOk rfl rfl rfl (by repeat first|assumption|exact o0_|exact o1_|apply o2_) List.not_mem_nil (lb_ (by rfl))) rfl) rfl rfl ?_
 refine SL.val (Val.fieldAddr tabOk rfl rfl rfl rfl rfl) rfl rfl ?_
 refine SL.val (Val.load1 tabOk rfl rfl (by repeat first|assumption|exact o0_|exact o1_|apply o2_) List.not_mem_nil (by rfl)) rfl rfl ?_
 refine SL.call (rlast_s (l := l) (k := c.client)) Casts.refl (by kernel_rfl) rfl rfl rfl ?_
 refine ap_ ?_
 intro _
 refine SL.val (Val.move rfl) rfl rfl ?_
 refine SL.val (Val.extract rfl rfl) rfl rfl ?_
 refine SL.val (Val.extract rfl rfl) rfl rfl ?_
 refine SL.eff (Eff.alloc tabOk rfl) rfl rfl ?_
 rintro _ _ ⟨b5, rfl, rfl⟩
 refine SL.eff (Eff.store (L' := ((l.last c.client).getD Oc.zero).abs) tabOk rfl rfl rfl (by repeat first|assumption|exact Upd.here|apply Upd.there) rfl (lb_ (by rfl)) rfl (by exact putL_whole rfl)) rfl rfl ?_
 rintro _ _ ⟨rfl, rfl⟩
 refine SL.val (Val.assign rfl) rfl rfl ?_
 refine SL.nil (SE.seq ?_)
 refine SC.seq (SC.region ?_)
 iterate 2 refine SL.val (Val.move rfl) rfl rfl ?_
 refine SL.both (t := 15) rfl ?_ ?_
 ·intro hc15
  refine SL.val (Val.fieldAddr tabOk rfl rfl rfl rfl rfl) rfl rfl ?_
  refine SL.val (Val.load1 tabOk rfl rfl (by repeat first|assumption|exact o0_|exact o1_|apply o2_) List.not_mem_nil (by rfl)) rfl rfl ?_
  refine SL.val (Val.fieldAddr tabOk rfl rfl rfl rfl rfl) rfl rfl ?_
  refine SL.val (Val.load1 tabOk rfl rfl (by repeat first|assumption|exact o0_|exact o1_|apply o2_) List.not_mem_nil (by rfl)) rfl rfl ?_
  refine SL.val (Val.geI rfl rfl) rfl rfl ?_
  refine SL.val (Val.pickT rfl rfl) rfl rfl ?_
  refine SL.val (Val.assign rfl) rfl rfl ?_
  refine SL.nil (SE.seq ?_)
  refine SC.ret ?_
  refine SE.fin (rs := [.tmp 4]) rfl (RV.tmp rfl RV.nil) (()) (by repeat first|exact s0 _|exact s1 _|apply s2|apply s3) (by simp [It.rids]) ?_
  unfold Lg.stale
  cases hl : l.last c.client with
  | none => rw [hl] at hc15; first | rfl | cases hc15
  | some o9 => rw [hl] at hc15; first | rfl | cases hc15
 intro hc15
 iterate 5 refine SL.skip rfl rfl ?_
 refine SL.val (Val.pickF rfl rfl) rfl rfl ?_
 refine SL.val (Val.assign rfl) rfl rfl ?_
 refine SL.nil (SE.seq ?_)
 refine SC.ret ?_
 refine SE.fin (rs := [.tmp 4]) rfl (RV.tmp rfl RV.nil) (()) (by repeat first|exact s0 _|exact s1 _|apply s2|apply s3) (by simp [It.rids]) ?_
 unfold Lg.stale
 cases hl : l.last c.client with
 | none => rw [hl] at hc15; first | rfl | cases hc15
 | some o9 => rw [hl] at hc15; first | rfl | cases hc15
set_option maxHeartbeats 4000000 in
theorem rresult_s (hf : l.Few) (hl : l.Wf) (ha : i64ok e.core.a) (ht : e.core.text.size ≤ 9223372036854775807) (hm : e.mask < 4294967296) (hs : e.core.letter.size ≤ lots) : Spec Tryz.prog 54 [.agg l.abs, .agg (entA e), int n] [] (fun _ : Unit => []) (fun _ => .tup [.agg (l.res e n).1.abs, int (l.res e n).2]) := by
 have hox := Lg.old_wf hl e.core.letter
 have hsw := step_wf (op := e.core.op) (a := e.core.a) (b := e.core.b) (t := e.core.text) hox
 refine spec_of Tryz.func54 rfl Tryz.ntmps54 rfl fun G w => ?_
 refine SC.seq (SC.region ?_)
 refine SL.eff (Eff.boxA (cs := l.abs) rfl) rfl rfl ?_
 rintro _ _ ⟨b3, rfl, rfl⟩
 refine SL.eff (Eff.boxA (cs := entA e) rfl) rfl rfl ?_
 rintro _ _ ⟨b4, rfl, rfl⟩
 refine SL.eff (Eff.alloc tabOk rfl) rfl rfl ?_
 rintro _ _ ⟨b6, rfl, rfl⟩
 refine SL.val (Val.assign rfl) rfl rfl ?_
 refine SL.nil (SE.seq ?_)
 refine SC.seq (SC.region ?_)
 refine SL.val (Val.fieldAddr tabOk rfl rfl rfl rfl rfl) rfl rfl ?_
 refine SL.val (Val.to (C := coreA e.core) (Val.loadP tabOk rfl rfl rfl (by repeat first|assumption|exact o0_|exact o1_|apply o2_) List.not_mem_nil (lb_ (by rfl))) rfl) rfl rfl ?_
 refine SL.eff (Eff.alloc tabOk rfl) rfl rfl ?_
 rintro _ _ ⟨b8, rfl, rfl⟩
 refine SL.eff (Eff.store (L' := e.core.cells.map .v) tabOk rfl rfl rfl (by repeat first|assumption|exact Upd.here|apply Upd.there) rfl (lb_ (by rfl)) rfl (by exact putL_whole rfl)) rfl rfl ?_
 rintro _ _ ⟨rfl, rfl⟩
 refine SL.nil (SE.seq ?_)
 refine SC.seq (SC.region ?_)
 refine SL.val (Val.to (C := .agg l.abs) (Val.loadP tabOk rfl rfl rfl (by repeat first|assumption|exact o0_|exact o1_|apply o2_) List.not_mem_nil (lb_ (by rfl))) rfl) rfl rfl ?_
 refine SL.val (Val.fieldAddr tabOk rfl rfl rfl rfl rfl) rfl rfl ?_
 refine SL.val (Val.to (C := st e.core.letter) (Val.load1 tabOk rfl rfl (by repeat first|assumption|exact o0_|exact o1_|apply o2_) List.not_mem_nil (by rfl)) rfl) rfl rfl ?_
 refine SL.call (rfind_s (l := l) (s := e.core.letter)) Casts.refl (by kernel_rfl) rfl rfl rfl ?_
 refine ap_ ?_
 intro _
 rw [show (l.find e.core.letter).getD Ltr.none = (l.old e.core.letter) from rfl]
 refine SL.val (Val.move rfl) rfl rfl ?_
 refine SL.val (Val.extract rfl rfl) rfl rfl ?_
 refine SL.val (Val.extract rfl rfl) rfl rfl ?_
 refine SL.eff (Eff.alloc tabOk rfl) rfl rfl ?_
 rintro _ _ ⟨b9, rfl, rfl⟩
 refine SL.eff (Eff.store (L' := ltrA (l.old e.core.letter)) tabOk rfl rfl rfl (by repeat first|assumption|exact Upd.here|apply Upd.there) rfl (lb_ (by rfl)) rfl (by exact putL_whole rfl)) rfl rfl ?_
 rintro _ _ ⟨rfl, rfl⟩
 refine SL.val (Val.assign rfl) rfl rfl ?_
 refine SL.nil (SE.seq ?_)
 refine SC.cutS (ι := Unit) (fun z => (.blk b9 74 (ltrA (l.old e.core.letter)) :: .blk b8 48 (e.core.cells.map .v) :: .blk b6 66 (zabs [.int .i64 0, .int .i64 0, .slice none 0 0, .slice none 0 0]) :: .blk b4 51 (entA e) :: .blk b3 66 l.abs :: [])) (fun z => [(2, int n), (3, ptr b3), (4, ptr b4), (6, ptr b6), (8, ptr b8), (9, ptr b9)]) (fun z => ¬ l.known e.core ≠ 0) ?_ ?_
 ·skip
  refine SC.seq (SC.region ?_)
  refine SL.val (Val.fieldAddr tabOk rfl rfl rfl rfl rfl) rfl rfl ?_
  refine SL.val (Val.to (C := int e.core.op) (Val.load1 tabOk rfl rfl (by repeat first|assumption|exact o0_|exact o1_|apply o2_) List.not_mem_nil (by rfl)) rfl) rfl rfl ?_
  refine SL.val (Val.neI rfl rfl) rfl rfl ?_
  refine SL.val (Val.move rfl) rfl rfl ?_
  refine SL.bothP (t := 30) rfl ?_ ?_
  rotate_left
  ·intro hc30
   iterate 2 refine SL.skip rfl rfl ?_
   refine SL.val (Val.pickF rfl rfl) rfl rfl ?_
   refine SL.nil (SE.seq ?_)
   refine SC.condF rfl ?_
   refine SC.skip ?_
   have hkn : ¬ l.known e.core ≠ 0 := by
    intro h9
    unfold Lg.known at h9
    split at h9
    ·next h8 =>
     have h7 := Option.isNone_iff_eq_none.1 h8.1
     first
      | exact hc30 h8.2
      | (rw [h7] at hc33; cases hc33)
    ·exact h9 rfl
   refine SE.meet (()) (hkn) (by exact ⟨rfl, rfl, rfl, rfl, rfl, rfl, trivial⟩) (by repeat first|exact s0 _|exact s1 _|apply s2|apply s3)
  intro hc30
  refine SL.val (Val.move rfl) rfl rfl ?_
  refine SL.val (Val.notB rfl) rfl rfl ?_
  refine SL.val (Val.pickT rfl rfl) rfl rfl ?_
  refine SL.nil (SE.seq ?_)
  refine SC.cond rfl ?_ ?_
  rotate_left
  ·intro hc33
   refine SC.skip ?_
   have hkn : ¬ l.known e.core ≠ 0 := by
    intro h9
    unfold Lg.known at h9
    split at h9
    ·next h8 =>
     have h7 := Option.isNone_iff_eq_none.1 h8.1
     first
      | exact hc30 h8.2
      | (rw [h7] at hc33; cases hc33)
    ·exact h9 rfl
   refine SE.meet (()) (hkn) (by exact ⟨rfl, rfl, rfl, rfl, rfl, rfl, trivial⟩) (by repeat first|exact s0 _|exact s1 _|apply s2|apply s3)
  intro hc33
  refine SC.seq (SC.region ?_)
  refine SL.val (Val.to (C := .agg l.abs) (Val.loadP tabOk rfl rfl rfl (by repeat first|assumption|exact o0_|exact o1_|apply o2_) List.not_mem_nil (lb_ (by rfl))) rfl) rfl rfl ?_
  refine SL.eff (Eff.store (L' := l.abs) tabOk rfl rfl rfl (by repeat first|assumption|exact Upd.here|apply Upd.there) rfl (lb_ (by rfl)) rfl (by exact putL_whole rfl)) rfl rfl ?_
  rintro _ _ ⟨rfl, rfl⟩
  refine SL.val (Val.assign rfl) rfl rfl ?_
  refine SL.nil (SE.seq ?_)
  refine SC.ret ?_
  refine SE.then_ nofun ?_
  have hk7 : l.known e.core = 7 := if_pos ⟨by simpa using hc33, hc30⟩
  have hst := res_a (l := l) (e := e) (n := n) (by rw [hk7]; decide)
  rw [hk7] at hst
  refine SE.fin (rs := [.cell 6 66, .tmp 7]) rfl (RV.cell rfl (RV.cellA tabOk rfl rfl (by repeat first|assumption|exact o0_|exact o1_|apply o2_) (by rfl)) (RV.tmp rfl RV.nil)) (()) (by repeat first|exact s0 _|exact s1 _|apply s2|apply s3) (by simp [It.rids]) ?_
  rw [hst]
  rfl
 ·intro z0 hkn
  refine SC.seq (SC.region ?_)
  refine SL.val (Val.fieldAddr tabOk rfl rfl rfl rfl rfl) rfl rfl ?_
  refine SL.val (Val.to (C := st (l.old e.core.letter).policy) (Val.load1 tabOk rfl rfl (by repeat first|assumption|exact o0_|exact o1_|apply o2_) List.not_mem_nil (by rfl)) rfl) rfl rfl ?_
  refine SL.val (Val.assign rfl) rfl rfl ?_
  refine SL.nil (SE.seq ?_)
  refine SC.cutS (ι := Unit) (fun z => (.blk b9 74 (ltrA (l.old e.core.letter)) :: .blk b8 48 (e.core.cells.map .v) :: .blk b6 66 (zabs [.int .i64 0, .int .i64 0, .slice none 0 0, .slice none 0 0]) :: .blk b4 51 (entA e) :: .blk b3 66 l.abs :: [])) (fun z => [(2, int n), (3, ptr b3), (4, ptr b4), (6, ptr b6), (8, ptr b8), (9, ptr b9), (11, st (polB (l.old e.core.letter) e.core))]) (fun z => True) ?_ ?_
  ·skip
   refine SC.seq (SC.region ?_)
   refine SL.val (Val.fieldAddr tabOk rfl rfl rfl rfl rfl) rfl rfl ?_
   refine SL.val (Val.to (C := int e.core.op) (Val.load1 tabOk rfl rfl (by repeat first|assumption|exact o0_|exact o1_|apply o2_) List.not_mem_nil (by rfl)) rfl) rfl rfl ?_
   refine SL.val (Val.eqI rfl rfl) rfl rfl ?_
   refine SL.nil (SE.seq ?_)
   refine SC.condP rfl ?_ ?_
   rotate_left
   ·intro hc39
    refine SC.skip ?_
    refine SE.meet (()) (trivial) (by first | exact ⟨rfl, rfl, rfl, rfl, rfl, rfl, congrArg (fun s => some (st s)) (show e.core.text = (polB (l.old e.core.letter) e.core) from (if_pos hc39).symm), trivial⟩ | exact ⟨rfl, rfl, rfl, rfl, rfl, rfl, congrArg (fun s => some (st s)) (show (l.old e.core.letter).policy = (polB (l.old e.core.letter) e.core) from (if_neg hc39).symm), trivial⟩) (by repeat first|exact s0 _|exact s1 _|apply s2|apply s3)
   intro hc39
   refine SC.region ?_
   refine SL.val (Val.fieldAddr tabOk rfl rfl rfl rfl rfl) rfl rfl ?_
   refine SL.val (Val.to (C := st e.core.text) (Val.load1 tabOk rfl rfl (by repeat first|assumption|exact o0_|exact o1_|apply o2_) List.not_mem_nil (by rfl)) rfl) rfl rfl ?_
   refine SL.val (Val.assign rfl) rfl rfl ?_
   refine SL.nil ?_
   refine SE.meet (()) (trivial) (by first | exact ⟨rfl, rfl, rfl, rfl, rfl, rfl, congrArg (fun s => some (st s)) (show e.core.text = (polB (l.old e.core.letter) e.core) from (if_pos hc39).symm), trivial⟩ | exact ⟨rfl, rfl, rfl, rfl, rfl, rfl, congrArg (fun s => some (st s)) (show (l.old e.core.letter).policy = (polB (l.old e.core.letter) e.core) from (if_neg hc39).symm), trivial⟩) (by repeat first|exact s0 _|exact s1 _|apply s2|apply s3)
  ·intro z1 hz1
   refine SC.seq (SC.region ?_)
   iterate 2 refine SL.val (Val.move rfl) rfl rfl ?_
   refine SL.call (rparse_s (l := tx (polB (l.old e.core.letter) e.core)) (n := n)) (Casts.of_eq (by rw [st_tx])) (by kernel_rfl) rfl rfl rfl ?_
   refine ap_ ?_
   intro _
   refine SL.val (Val.move rfl) rfl rfl ?_
   refine SL.val (Val.extract rfl rfl) rfl rfl ?_
   refine SL.val (Val.extract rfl rfl) rfl rfl ?_
   refine SL.eff (Eff.alloc tabOk rfl) rfl rfl ?_
   rintro _ _ ⟨b12, rfl, rfl⟩
   refine SL.eff (Eff.store (L' := (parseF (tx (polB (l.old e.core.letter) e.core)) n).1.abs) tabOk rfl rfl rfl (by repeat first|assumption|exact Upd.here|apply Upd.there) (by exact Frm.abs_len _) (lb_ (by rfl)) (by exact Frm.abs_ones _) (putL_whole (by exact Frm.abs_len _))) rfl rfl ?_
   rintro _ _ ⟨rfl, rfl⟩
   refine SL.val (Val.assign rfl) rfl rfl ?_
   refine SL.nil (SE.seq ?_)
   refine SC.seq ?_
   refine SC.seq (SC.region ?_)
   refine SL.val (Val.move rfl) rfl rfl ?_
   refine SL.val (Val.neI rfl rfl) rfl rfl ?_
   refine SL.nil (SE.seq ?_)
   refine SC.condP rfl ?_ ?_
   ·intro hc49
    refine SC.seq (SC.region ?_)
    refine SL.val (Val.to (C := .agg l.abs) (Val.loadP tabOk rfl rfl rfl (by repeat first|assumption|exact o0_|exact o1_|apply o2_) List.not_mem_nil (lb_ (by rfl))) rfl) rfl rfl ?_
    refine SL.eff (Eff.store (L' := l.abs) tabOk rfl rfl rfl (by repeat first|assumption|exact Upd.here|apply Upd.there) rfl (lb_ (by rfl)) rfl (by exact putL_whole rfl)) rfl rfl ?_
    rintro _ _ ⟨rfl, rfl⟩
    refine SL.val (Val.assign rfl) rfl rfl ?_
    refine SL.nil (SE.seq ?_)
    refine SC.ret ?_
    refine SE.then_ nofun ?_
    have he9 : endorsedF (l.old e.core.letter) e n = 2 := if_pos hc49
    have hst := res_b (n := n) hkn (by rw [he9]; decide)
    rw [he9] at hst
    refine SE.fin (rs := [.cell 6 66, .tmp 7]) rfl (RV.cell rfl (RV.cellA tabOk rfl rfl (by repeat first|assumption|exact o0_|exact o1_|apply o2_) (by rfl)) (RV.tmp rfl RV.nil)) (()) (by repeat first|exact s0 _|exact s1 _|apply s2|apply s3) (by simp [It.rids]) ?_
    rw [hst]
    rfl
   intro hc49
   have hpz : (parseF (tx (polB (l.old e.core.letter) e.core)) n).2 = 0 := Classical.byContradiction hc49
   have hck := parseF_ok hpz
   refine SC.skip ?_
   refine SE.seq ?_
   refine SC.seq ?_
   refine SC.seq (SC.region ?_)
   refine SL.val (Val.loadA tabOk rfl rfl rfl (by repeat first|assumption|exact o0_|exact o1_|apply o2_) List.not_mem_nil (Frm.abs_len _)) rfl rfl ?_
   refine SL.val (Val.fieldAddr tabOk rfl rfl rfl rfl rfl) rfl rfl ?_
   refine SL.val (Val.to (C := .v (.int .u32 (e.mask : Nat))) (Val.load1 tabOk rfl rfl (by repeat first|assumption|exact o0_|exact o1_|apply o2_) List.not_mem_nil (by rfl)) rfl) rfl rfl ?_
   refine SL.call (rholds_s (BitVec.ofNat 32 e.mask) (parseF (tx (polB (l.old e.core.letter) e.core)) n).1 (by have h9 := (Frm.check_ok.1 hck).2.1; omega) (Frm.ranges_mono (by have h9 := (Frm.check_ok.1 hck).1; omega) _ (Frm.check_ok.1 hck).2.2.2)) (Casts.of_eq (by rw [mask_u32 hm])) (by kernel_rfl) rfl rfl rfl ?_
   refine ap_ ?_
   intro _
   refine SL.val (Val.notB rfl) rfl rfl ?_
   refine SL.nil (SE.seq ?_)
   refine SC.cond rfl ?_ ?_
   ·intro hc55
    refine SC.seq (SC.region ?_)
    refine SL.val (Val.to (C := .agg l.abs) (Val.loadP tabOk rfl rfl rfl (by repeat first|assumption|exact o0_|exact o1_|apply o2_) List.not_mem_nil (lb_ (by rfl))) rfl) rfl rfl ?_
    refine SL.eff (Eff.store (L' := l.abs) tabOk rfl rfl rfl (by repeat first|assumption|exact Upd.here|apply Upd.there) rfl (lb_ (by rfl)) rfl (by exact putL_whole rfl)) rfl rfl ?_
    rintro _ _ ⟨rfl, rfl⟩
    refine SL.val (Val.assign rfl) rfl rfl ?_
    refine SL.nil (SE.seq ?_)
    refine SC.ret ?_
    refine SE.then_ nofun ?_
    have he9 : endorsedF (l.old e.core.letter) e n = 9 := (if_neg hc49).trans (if_pos (by simpa using hc55))
    have hst := res_b (n := n) hkn (by rw [he9]; decide)
    rw [he9] at hst
    refine SE.fin (rs := [.cell 6 66, .tmp 7]) rfl (RV.cell rfl (RV.cellA tabOk rfl rfl (by repeat first|assumption|exact o0_|exact o1_|apply o2_) (by rfl)) (RV.tmp rfl RV.nil)) (()) (by repeat first|exact s0 _|exact s1 _|apply s2|apply s3) (by simp [It.rids]) ?_
    rw [hst]
    rfl
   intro hc55
   refine SC.skip ?_
   refine SE.seq ?_
   refine SC.seq (SC.region ?_)
   refine SL.val (Val.to (C := .agg (ltrA (l.old e.core.letter))) (Val.loadP tabOk rfl rfl rfl (by repeat first|assumption|exact o0_|exact o1_|apply o2_) List.not_mem_nil (lb_ (by rfl))) rfl) rfl rfl ?_
   refine SL.val (Val.fieldAddr tabOk rfl rfl rfl rfl rfl) rfl rfl ?_
   refine SL.val (Val.to (C := int e.core.op) (Val.load1 tabOk rfl rfl (by repeat first|assumption|exact o0_|exact o1_|apply o2_) List.not_mem_nil (by rfl)) rfl) rfl rfl ?_
   refine SL.val (Val.fieldAddr tabOk rfl rfl rfl rfl rfl) rfl rfl ?_
   refine SL.val (Val.to (C := int e.core.a) (Val.load1 tabOk rfl rfl (by repeat first|assumption|exact o0_|exact o1_|apply o2_) List.not_mem_nil (by rfl)) rfl) rfl rfl ?_
   refine SL.val (Val.fieldAddr tabOk rfl rfl rfl rfl rfl) rfl rfl ?_
   refine SL.val (Val.to (C := int e.core.b) (Val.load1 tabOk rfl rfl (by repeat first|assumption|exact o0_|exact o1_|apply o2_) List.not_mem_nil (by rfl)) rfl) rfl rfl ?_
   refine SL.val (Val.fieldAddr tabOk rfl rfl rfl rfl rfl) rfl rfl ?_
   refine SL.val (Val.to (C := st e.core.text) (Val.load1 tabOk rfl rfl (by repeat first|assumption|exact o0_|exact o1_|apply o2_) List.not_mem_nil (by rfl)) rfl) rfl rfl ?_
   refine SL.call (rstep_s (x := (l.old e.core.letter)) (op := e.core.op) (a := e.core.a) (b := e.core.b) (t := e.core.text) hox ha ht) Casts.refl (by kernel_rfl) rfl rfl rfl ?_
   refine ap_ ?_
   intro _
   refine SL.val (Val.move rfl) rfl rfl ?_
   refine SL.val (Val.extract rfl rfl) rfl rfl ?_
   refine SL.val (Val.extract rfl rfl) rfl rfl ?_
   refine SL.eff (Eff.alloc tabOk rfl) rfl rfl ?_
   rintro _ _ ⟨b14, rfl, rfl⟩
   refine SL.eff (Eff.store (L' := ltrA ((l.old e.core.letter).step e.core.op e.core.a e.core.b e.core.text).1) tabOk rfl rfl rfl (by repeat first|assumption|exact Upd.here|apply Upd.there) rfl (lb_ (by rfl)) rfl (by exact putL_whole rfl)) rfl rfl ?_
   rintro _ _ ⟨rfl, rfl⟩
   refine SL.val (Val.assign rfl) rfl rfl ?_
   refine SL.nil (SE.seq ?_)
   refine SC.seq ?_
   refine SC.seq (SC.region ?_)
   refine SL.val (Val.move rfl) rfl rfl ?_
   refine SL.val (Val.neI rfl rfl) rfl rfl ?_
   refine SL.nil (SE.seq ?_)
   refine SC.condP rfl ?_ ?_
   ·intro hc71
    refine SC.seq (SC.region ?_)
    refine SL.val (Val.to (C := .agg l.abs) (Val.loadP tabOk rfl rfl rfl (by repeat first|assumption|exact o0_|exact o1_|apply o2_) List.not_mem_nil (lb_ (by rfl))) rfl) rfl rfl ?_
    refine SL.val (Val.move rfl) rfl rfl ?_
    refine SL.eff (Eff.store (L' := l.abs) tabOk rfl rfl rfl (by repeat first|assumption|exact Upd.here|apply Upd.there) rfl (lb_ (by rfl)) rfl (by exact putL_whole rfl)) rfl rfl ?_
    rintro _ _ ⟨rfl, rfl⟩
    refine SL.val (Val.assign rfl) rfl rfl ?_
    refine SL.nil (SE.seq ?_)
    refine SC.ret ?_
    refine SE.then_ nofun ?_
    have he9 : endorsedF (l.old e.core.letter) e n = 0 := (if_neg hc49).trans (if_neg (by simpa using hc55))
    have hst := (res_c (n := n) hkn (by rw [he9]; decide)).trans (stepped_a hc71)
    refine SE.fin (rs := [.cell 6 66, .tmp 7]) rfl (RV.cell rfl (RV.cellA tabOk rfl rfl (by repeat first|assumption|exact o0_|exact o1_|apply o2_) (by rfl)) (RV.tmp rfl RV.nil)) (()) (by repeat first|exact s0 _|exact s1 _|apply s2|apply s3) (by simp [It.rids]) ?_
    rw [hst]
    rfl
   intro hc71
   refine SC.skip ?_
   refine SE.seq ?_
   refine SC.seq (SC.region ?_)
   refine SL.val (Val.fieldAddr tabOk rfl rfl rfl rfl rfl) rfl rfl ?_
   refine SL.val (Val.to (C := st e.core.letter) (Val.load1 tabOk rfl rfl (by repeat first|assumption|exact o0_|exact o1_|apply o2_) List.not_mem_nil (by rfl)) rfl) rfl rfl ?_
   refine SL.val (Val.fieldAddr tabOk rfl rfl rfl rfl rfl) rfl rfl ?_
   refine SL.eff (Eff.store (L' := ltrA (nextL (l.old e.core.letter) e.core)) tabOk rfl rfl rfl (by repeat first|assumption|exact Upd.here|apply Upd.there) rfl (lb_ (by rfl)) rfl (by rfl)) rfl rfl ?_
   rintro _ _ ⟨rfl, rfl⟩
   refine SL.nil (SE.seq ?_)
   refine SC.seq (SC.region ?_)
   refine SL.val (Val.to (C := .agg l.abs) (Val.loadP tabOk rfl rfl rfl (by repeat first|assumption|exact o0_|exact o1_|apply o2_) List.not_mem_nil (lb_ (by rfl))) rfl) rfl rfl ?_
   refine SL.val (Val.to (C := .agg (ltrA (nextL (l.old e.core.letter) e.core))) (Val.loadP tabOk rfl rfl rfl (by repeat first|assumption|exact o0_|exact o1_|apply o2_) List.not_mem_nil (lb_ (by rfl))) rfl) rfl rfl ?_
   refine SL.call (rwith_s (x := (nextL (l.old e.core.letter) e.core)) hf hs) Casts.refl (by kernel_rfl) rfl rfl rfl ?_
   refine ap_ ?_
   intro _
   refine SL.val (Val.move rfl) rfl rfl ?_
   refine SL.val (Val.extract rfl rfl) rfl rfl ?_
   refine SL.val (Val.extract rfl rfl) rfl rfl ?_
   refine SL.eff (Eff.alloc tabOk rfl) rfl rfl ?_
   rintro _ _ ⟨b15, rfl, rfl⟩
   refine SL.eff (Eff.store (L' := (l.with_ (nextL (l.old e.core.letter) e.core)).1.abs) tabOk rfl rfl rfl (by repeat first|assumption|exact Upd.here|apply Upd.there) rfl (lb_ (by rfl)) rfl (by exact putL_whole rfl)) rfl rfl ?_
   rintro _ _ ⟨rfl, rfl⟩
   refine SL.val (Val.assign rfl) rfl rfl ?_
   refine SL.nil (SE.seq ?_)
   refine SC.seq ?_
   refine SC.seq (SC.region ?_)
   refine SL.val (Val.move rfl) rfl rfl ?_
   refine SL.val (Val.neI rfl rfl) rfl rfl ?_
   refine SL.nil (SE.seq ?_)
   refine SC.condP rfl ?_ ?_
   ·intro hc84
    refine SC.seq (SC.region ?_)
    refine SL.val (Val.to (C := .agg l.abs) (Val.loadP tabOk rfl rfl rfl (by repeat first|assumption|exact o0_|exact o1_|apply o2_) List.not_mem_nil (lb_ (by rfl))) rfl) rfl rfl ?_
    refine SL.val (Val.move rfl) rfl rfl ?_
    refine SL.eff (Eff.store (L' := l.abs) tabOk rfl rfl rfl (by repeat first|assumption|exact Upd.here|apply Upd.there) rfl (lb_ (by rfl)) rfl (by exact putL_whole rfl)) rfl rfl ?_
    rintro _ _ ⟨rfl, rfl⟩
    refine SL.val (Val.assign rfl) rfl rfl ?_
    refine SL.nil (SE.seq ?_)
    refine SC.ret ?_
    refine SE.then_ nofun ?_
    have he9 : endorsedF (l.old e.core.letter) e n = 0 := (if_neg hc49).trans (if_neg (by simpa using hc55))
    have hst := (res_c (n := n) hkn (by rw [he9]; decide)).trans (stepped_b hc71 hc84)
    refine SE.fin (rs := [.cell 6 66, .tmp 7]) rfl (RV.cell rfl (RV.cellA tabOk rfl rfl (by repeat first|assumption|exact o0_|exact o1_|apply o2_) (by rfl)) (RV.tmp rfl RV.nil)) (()) (by repeat first|exact s0 _|exact s1 _|apply s2|apply s3) (by simp [It.rids]) ?_
    rw [hst]
    rfl
   intro hc84
   refine SC.skip ?_
   refine SE.seq ?_
   refine SC.seq ?_
   refine SC.seq (SC.region ?_)
   refine SL.val (Val.fieldAddr tabOk rfl rfl rfl rfl rfl) rfl rfl ?_
   refine SL.val (Val.to (C := int e.core.op) (Val.load1 tabOk rfl rfl (by repeat first|assumption|exact o0_|exact o1_|apply o2_) List.not_mem_nil (by rfl)) rfl) rfl rfl ?_
   refine SL.val (Val.eqI rfl rfl) rfl rfl ?_
   refine SL.nil (SE.seq ?_)
   refine SC.condP rfl ?_ ?_
   rotate_left
   ·intro hc89
    refine SC.skip ?_
    refine SE.seq ?_
    refine SC.seq (SC.region ?_)
    refine SL.val (Val.to (C := .agg (Lg.abs (l.with_ (nextL (l.old e.core.letter) e.core)).1)) (Val.loadP tabOk rfl rfl rfl (by repeat first|assumption|exact o0_|exact o1_|apply o2_) List.not_mem_nil (lb_ (by rfl))) rfl) rfl rfl ?_
    refine SL.eff (Eff.store (L' := Lg.abs (l.with_ (nextL (l.old e.core.letter) e.core)).1) tabOk rfl rfl rfl (by repeat first|assumption|exact Upd.here|apply Upd.there) rfl (lb_ (by rfl)) rfl (by exact putL_whole rfl)) rfl rfl ?_
    rintro _ _ ⟨rfl, rfl⟩
    refine SL.val (Val.assign rfl) rfl rfl ?_
    refine SL.nil (SE.seq ?_)
    refine SC.ret ?_
    have he9 : endorsedF (l.old e.core.letter) e n = 0 := (if_neg hc49).trans (if_neg (by simpa using hc55))
    first
     | have hst := (res_c (n := n) hkn (by rw [he9]; decide)).trans (stepped_e hc71 hc84 hc89 hc99)
     | have hst := (res_c (n := n) hkn (by rw [he9]; decide)).trans (stepped_c hc71 hc84 hc89)
    refine SE.fin (rs := [.cell 6 66, .tmp 7]) rfl (RV.cell rfl (RV.cellA tabOk rfl rfl (by repeat first|assumption|exact o0_|exact o1_|apply o2_) (by rfl)) (RV.tmp rfl RV.nil)) (()) (by repeat first|exact s0 _|exact s1 _|apply s2|apply s3) (by simp [It.rids]) ?_
    rw [hst]
    rfl
   intro hc89
   refine SC.seq (SC.region ?_)
   refine SL.val (Val.fieldAddr tabOk rfl rfl rfl rfl rfl) rfl rfl ?_
   refine SL.val (Val.to (C := int l.total) (Val.load1 tabOk rfl rfl (by repeat first|assumption|exact o0_|exact o1_|apply o2_) List.not_mem_nil (by rfl)) rfl) rfl rfl ?_
   refine SL.val (Val.fieldAddr tabOk rfl rfl rfl rfl rfl) rfl rfl ?_
   refine SL.val (Val.to (C := int (nextL (l.old e.core.letter) e.core).amount) (Val.load1 tabOk rfl rfl (by repeat first|assumption|exact o0_|exact o1_|apply o2_) List.not_mem_nil (by rfl)) rfl) rfl rfl ?_
   refine SL.call (rmadd_s (a := l.total) (b := (nextL (l.old e.core.letter) e.core).amount) hl.total hsw.amount) Casts.refl (by kernel_rfl) rfl rfl rfl ?_
   refine ap_ ?_
   intro _
   refine SL.val (Val.move rfl) rfl rfl ?_
   refine SL.val (Val.extract rfl rfl) rfl rfl ?_
   refine SL.val (Val.extract rfl rfl) rfl rfl ?_
   iterate 2 refine SL.val (Val.assign rfl) rfl rfl ?_
   refine SL.nil (SE.seq ?_)
   refine SC.seq ?_
   refine SC.seq (SC.region ?_)
   refine SL.val (Val.move rfl) rfl rfl ?_
   refine SL.val (Val.neI rfl rfl) rfl rfl ?_
   refine SL.nil (SE.seq ?_)
   refine SC.condP rfl ?_ ?_
   ·intro hc99
    refine SC.seq (SC.region ?_)
    refine SL.val (Val.to (C := .agg l.abs) (Val.loadP tabOk rfl rfl rfl (by repeat first|assumption|exact o0_|exact o1_|apply o2_) List.not_mem_nil (lb_ (by rfl))) rfl) rfl rfl ?_
    refine SL.eff (Eff.store (L' := l.abs) tabOk rfl rfl rfl (by repeat first|assumption|exact Upd.here|apply Upd.there) rfl (lb_ (by rfl)) rfl (by exact putL_whole rfl)) rfl rfl ?_
    rintro _ _ ⟨rfl, rfl⟩
    refine SL.val (Val.assign rfl) rfl rfl ?_
    refine SL.nil (SE.seq ?_)
    refine SC.ret ?_
    refine SE.then_ nofun ?_
    refine SE.then_ nofun ?_
    have he9 : endorsedF (l.old e.core.letter) e n = 0 := (if_neg hc49).trans (if_neg (by simpa using hc55))
    have hst := (res_c (n := n) hkn (by rw [he9]; decide)).trans (stepped_d hc71 hc84 hc89 hc99)
    refine SE.fin (rs := [.cell 6 66, .tmp 7]) rfl (RV.cell rfl (RV.cellA tabOk rfl rfl (by repeat first|assumption|exact o0_|exact o1_|apply o2_) (by rfl)) (RV.tmp rfl RV.nil)) (()) (by repeat first|exact s0 _|exact s1 _|apply s2|apply s3) (by simp [It.rids]) ?_
    rw [hst]
    rfl
   intro hc99
   refine SC.skip ?_
   refine SE.seq ?_
   refine SC.region ?_
   refine SL.val (Val.move rfl) rfl rfl ?_
   refine SL.val (Val.fieldAddr tabOk rfl rfl rfl rfl rfl) rfl rfl ?_
   refine SL.eff (Eff.store (L' := Lg.abs { (l.with_ (nextL (l.old e.core.letter) e.core)).1 with total := (amtAdd l.total (nextL (l.old e.core.letter) e.core).amount).1 }) tabOk rfl rfl rfl (by repeat first|assumption|exact Upd.here|apply Upd.there) rfl (lb_ (by rfl)) rfl (by rfl)) rfl rfl ?_
   rintro _ _ ⟨rfl, rfl⟩
   refine SL.nil (SE.seq ?_)
   refine SC.seq (SC.region ?_)
   refine SL.val (Val.to (C := .agg (Lg.abs { (l.with_ (nextL (l.old e.core.letter) e.core)).1 with total := (amtAdd l.total (nextL (l.old e.core.letter) e.core).amount).1 })) (Val.loadP tabOk rfl rfl rfl (by repeat first|assumption|exact o0_|exact o1_|apply o2_) List.not_mem_nil (lb_ (by rfl))) rfl) rfl rfl ?_
   refine SL.eff (Eff.store (L' := Lg.abs { (l.with_ (nextL (l.old e.core.letter) e.core)).1 with total := (amtAdd l.total (nextL (l.old e.core.letter) e.core).amount).1 }) tabOk rfl rfl rfl (by repeat first|assumption|exact Upd.here|apply Upd.there) rfl (lb_ (by rfl)) rfl (by exact putL_whole rfl)) rfl rfl ?_
   rintro _ _ ⟨rfl, rfl⟩
   refine SL.val (Val.assign rfl) rfl rfl ?_
   refine SL.nil (SE.seq ?_)
   refine SC.ret ?_
   have he9 : endorsedF (l.old e.core.letter) e n = 0 := (if_neg hc49).trans (if_neg (by simpa using hc55))
   first
    | have hst := (res_c (n := n) hkn (by rw [he9]; decide)).trans (stepped_e hc71 hc84 hc89 hc99)
    | have hst := (res_c (n := n) hkn (by rw [he9]; decide)).trans (stepped_c hc71 hc84 hc89)
   refine SE.fin (rs := [.cell 6 66, .tmp 7]) rfl (RV.cell rfl (RV.cellA tabOk rfl rfl (by repeat first|assumption|exact o0_|exact o1_|apply o2_) (by rfl)) (RV.tmp rfl RV.nil)) (()) (by repeat first|exact s0 _|exact s1 _|apply s2|apply s3) (by simp [It.rids]) ?_
   rw [hst]
   rfl
set_option maxHeartbeats 2000000 in
theorem rdo_s (hq : l.ls.length ≤ 900 ∧ l.os.length ≤ 900) (hl : l.Wf) (he : EnIns e) (hs : e.core.letter.size ≤ lots) : Spec Tryz.prog 41 [.agg l.abs, .agg (entA e), int n] [] (fun _ : Unit => []) (fun _ => .tup [.agg (l.doF e n).1.abs, int (l.doF e n).2]) := by
 have hf : l.Few := ⟨by omega, by omega⟩
 have hrl := res_len (l := l) (e := e) (n := n)
 have hf2 : (l.res e n).1.Few := ⟨by omega, by rw [hrl.2]; omega⟩
 refine spec_of Tryz.func41 rfl Tryz.ntmps41 rfl fun G w => ?_
 refine SC.seq (SC.region ?_)
 refine SL.eff (Eff.boxA (cs := l.abs) rfl) rfl rfl ?_
 rintro _ _ ⟨b3, rfl, rfl⟩
 refine SL.eff (Eff.boxA (cs := entA e) rfl) rfl rfl ?_
 rintro _ _ ⟨b4, rfl, rfl⟩
 refine SL.eff (Eff.alloc tabOk rfl) rfl rfl ?_
 rintro _ _ ⟨b6, rfl, rfl⟩
 refine SL.val (Val.assign rfl) rfl rfl ?_
 refine SL.nil (SE.seq ?_)
 refine SC.seq ?_
 refine SC.seq (SC.region ?_)
 refine SL.val (Val.to (C := .agg l.abs) (Val.loadP tabOk rfl rfl rfl (by repeat first|assumption|exact o0_|exact o1_|apply o2_) List.not_mem_nil (lb_ (by rfl))) rfl) rfl rfl ?_
 refine SL.val (Val.fieldAddr tabOk rfl rfl rfl rfl rfl) rfl rfl ?_
 refine SL.val (Val.to (C := coreA e.core) (Val.loadP tabOk rfl rfl rfl (by repeat first|assumption|exact o0_|exact o1_|apply o2_) List.not_mem_nil (lb_ (by rfl))) rfl) rfl rfl ?_
 refine SL.call (rstale_s (l := l) (c := e.core)) Casts.refl (by kernel_rfl) rfl rfl rfl ?_
 refine ap_ ?_
 intro _
 refine SL.nil (SE.seq ?_)
 refine SC.cond rfl ?_ ?_
 ·intro hc13
  refine SC.seq (SC.region ?_)
  refine SL.val (Val.to (C := .agg l.abs) (Val.loadP tabOk rfl rfl rfl (by repeat first|assumption|exact o0_|exact o1_|apply o2_) List.not_mem_nil (lb_ (by rfl))) rfl) rfl rfl ?_
  refine SL.eff (Eff.store (L' := l.abs) tabOk rfl rfl rfl (by repeat first|assumption|exact Upd.here|apply Upd.there) rfl (lb_ (by rfl)) rfl (by exact putL_whole rfl)) rfl rfl ?_
  rintro _ _ ⟨rfl, rfl⟩
  refine SL.val (Val.assign rfl) rfl rfl ?_
  refine SL.nil (SE.seq ?_)
  refine SC.ret ?_
  refine SE.then_ nofun ?_
  refine SE.fin (rs := [.cell 6 66, .tmp 7]) rfl (RV.cell rfl (RV.cellA tabOk rfl rfl (by repeat first|assumption|exact o0_|exact o1_|apply o2_) (by rfl)) (RV.tmp rfl RV.nil)) (()) (by repeat first|exact s0 _|exact s1 _|apply s2|apply s3) (by simp [It.rids]) ?_
  unfold Lg.doF
  rw [if_pos hc13]
  rfl
 intro hc13
 refine SC.skip ?_
 refine SE.seq ?_
 refine SC.seq (SC.region ?_)
 refine SL.val (Val.fieldAddr tabOk rfl rfl rfl rfl rfl) rfl rfl ?_
 refine SL.val (Val.to (C := coreA e.core) (Val.loadP tabOk rfl rfl rfl (by repeat first|assumption|exact o0_|exact o1_|apply o2_) List.not_mem_nil (lb_ (by rfl))) rfl) rfl rfl ?_
 refine SL.val (Val.move rfl) rfl rfl ?_
 refine SL.call (rccheck_s (c := e.core) (n := n) hs) Casts.refl (by kernel_rfl) rfl rfl rfl ?_
 refine ap_ ?_
 intro _
 refine SL.val (Val.assign rfl) rfl rfl ?_
 refine SL.nil (SE.seq ?_)
 refine SC.seq ?_
 refine SC.seq (SC.region ?_)
 refine SL.val (Val.move rfl) rfl rfl ?_
 refine SL.val (Val.neI rfl rfl) rfl rfl ?_
 refine SL.nil (SE.seq ?_)
 refine SC.condP rfl ?_ ?_
 ·intro hc20
  refine SC.seq (SC.region ?_)
  refine SL.val (Val.to (C := .agg l.abs) (Val.loadP tabOk rfl rfl rfl (by repeat first|assumption|exact o0_|exact o1_|apply o2_) List.not_mem_nil (lb_ (by rfl))) rfl) rfl rfl ?_
  refine SL.val (Val.move rfl) rfl rfl ?_
  refine SL.eff (Eff.store (L' := l.abs) tabOk rfl rfl rfl (by repeat first|assumption|exact Upd.here|apply Upd.there) rfl (lb_ (by rfl)) rfl (by exact putL_whole rfl)) rfl rfl ?_
  rintro _ _ ⟨rfl, rfl⟩
  refine SL.val (Val.assign rfl) rfl rfl ?_
  refine SL.nil (SE.seq ?_)
  refine SC.ret ?_
  refine SE.then_ nofun ?_
  refine SE.fin (rs := [.cell 6 66, .tmp 7]) rfl (RV.cell rfl (RV.cellA tabOk rfl rfl (by repeat first|assumption|exact o0_|exact o1_|apply o2_) (by rfl)) (RV.tmp rfl RV.nil)) (()) (by repeat first|exact s0 _|exact s1 _|apply s2|apply s3) (by simp [It.rids]) ?_
  unfold Lg.doF
  rw [if_neg (by rw [hc13]; decide), if_pos hc20]
  rfl
 intro hc20
 refine SC.skip ?_
 refine SE.seq ?_
 refine SC.seq (SC.region ?_)
 refine SL.val (Val.to (C := .agg l.abs) (Val.loadP tabOk rfl rfl rfl (by repeat first|assumption|exact o0_|exact o1_|apply o2_) List.not_mem_nil (lb_ (by rfl))) rfl) rfl rfl ?_
 refine SL.val (Val.to (C := .agg (entA e)) (Val.loadP tabOk rfl rfl rfl (by repeat first|assumption|exact o0_|exact o1_|apply o2_) List.not_mem_nil (lb_ (by rfl))) rfl) rfl rfl ?_
 refine SL.val (Val.move rfl) rfl rfl ?_
 refine SL.call (rresult_s (n := n) hf hl he.a (by have := he.text; unfold maxLen at this; omega) he.mask hs) Casts.refl (by kernel_rfl) rfl rfl rfl ?_
 refine ap_ ?_
 intro _
 refine SL.val (Val.move rfl) rfl rfl ?_
 refine SL.val (Val.extract rfl rfl) rfl rfl ?_
 refine SL.val (Val.extract rfl rfl) rfl rfl ?_
 refine SL.eff (Eff.alloc tabOk rfl) rfl rfl ?_
 rintro _ _ ⟨b9, rfl, rfl⟩
 refine SL.eff (Eff.store (L' := (l.res e n).1.abs) tabOk rfl rfl rfl (by repeat first|assumption|exact Upd.here|apply Upd.there) rfl (lb_ (by rfl)) rfl (by exact putL_whole rfl)) rfl rfl ?_
 rintro _ _ ⟨rfl, rfl⟩
 refine SL.val (Val.assign rfl) rfl rfl ?_
 refine SL.nil (SE.seq ?_)
 refine SC.seq (SC.region ?_)
 refine SL.val (Val.to (C := .agg (l.res e n).1.abs) (Val.loadP tabOk rfl rfl rfl (by repeat first|assumption|exact o0_|exact o1_|apply o2_) List.not_mem_nil (lb_ (by rfl))) rfl) rfl rfl ?_
 refine SL.val (Val.fieldAddr tabOk rfl rfl rfl rfl rfl) rfl rfl ?_
 refine SL.val (Val.fieldAddr tabOk rfl rfl rfl rfl rfl) rfl rfl ?_
 refine SL.val (Val.to (C := int e.core.client) (Val.load1 tabOk rfl rfl (by repeat first|assumption|exact o0_|exact o1_|apply o2_) List.not_mem_nil (by rfl)) rfl) rfl rfl ?_
 refine SL.val (Val.fieldAddr tabOk rfl rfl rfl rfl rfl) rfl rfl ?_
 refine SL.val (Val.fieldAddr tabOk rfl rfl rfl rfl rfl) rfl rfl ?_
 refine SL.val (Val.to (C := int e.core.stamp) (Val.load1 tabOk rfl rfl (by repeat first|assumption|exact o0_|exact o1_|apply o2_) List.not_mem_nil (by rfl)) rfl) rfl rfl ?_
 refine SL.val (Val.move rfl) rfl rfl ?_
 refine SL.val (Val.buildS (L := Oc.abs ⟨e.core.client, e.core.stamp, (l.res e n).2⟩) tabOk rfl rfl rfl (by rfl)) rfl rfl ?_
 refine SL.call (rtold_s (l := (l.res e n).1) (x := ⟨e.core.client, e.core.stamp, (l.res e n).2⟩) hf2) Casts.refl (by kernel_rfl) rfl rfl rfl ?_
 refine ap_ ?_
 intro _
 refine SL.val (Val.move rfl) rfl rfl ?_
 refine SL.eff (Eff.store (L' := ((l.res e n).1.told ⟨e.core.client, e.core.stamp, (l.res e n).2⟩).abs) tabOk rfl rfl rfl (by repeat first|assumption|exact Upd.here|apply Upd.there) rfl (lb_ (by rfl)) rfl (by exact putL_whole rfl)) rfl rfl ?_
 rintro _ _ ⟨rfl, rfl⟩
 refine SL.val (Val.assign rfl) rfl rfl ?_
 refine SL.nil (SE.seq ?_)
 refine SC.ret ?_
 refine SE.fin (rs := [.cell 6 66, .tmp 7]) rfl (RV.cell rfl (RV.cellA tabOk rfl rfl (by repeat first|assumption|exact o0_|exact o1_|apply o2_) (by rfl)) (RV.tmp rfl RV.nil)) (()) (by repeat first|exact s0 _|exact s1 _|apply s2|apply s3) (by simp [It.rids]) ?_
 unfold Lg.doF
 rw [if_neg (by rw [hc13]; decide), if_neg hc20]
 rfl
set_option maxHeartbeats 2000000 in
theorem rfold_s (hes : ∀ e ∈ es, EnIns e) (hss : ∀ e ∈ es, e.core.letter.size ≤ lots) (hl : l.Wf) (h1 : l.ls.length ≤ 500) (h2 : l.os.length ≤ 500) (h3 : es.length ≤ 300) (hsq : l.seq ≤ 1000000000) : Spec Tryz.prog 36 [.agg l.abs, entsR es, int n] [] (fun _ : Unit => []) (fun _ => .tup [.agg (l.foldF es n).1.abs, errsR (l.foldF es n).2]) := by
 have hseq0 : -9223372036854775808 ≤ l.seq ∧ l.seq ≤ 9223372036854775807 := hl.seq
 have hseq1 := goes_seq n l es
 refine spec_of Tryz.func36 rfl Tryz.ntmps36 rfl fun G w => ?_
 refine SC.seq (SC.region ?_)
 refine SL.eff (Eff.boxA (cs := l.abs) rfl) rfl rfl ?_
 rintro _ _ ⟨b3, rfl, rfl⟩
 refine SL.eff (Eff.alloc tabOk rfl) rfl rfl ?_
 rintro _ _ ⟨b6, rfl, rfl⟩
 refine SL.val (Val.assign rfl) rfl rfl ?_
 refine SL.nil (SE.seq ?_)
 refine SC.seq (SC.region ?_)
 refine SL.val (Val.assign rfl) rfl rfl ?_
 refine SL.nil (SE.seq ?_)
 refine SC.seq ?_
 refine SC.seq (SC.region ?_)
 refine SL.val (Val.move rfl) rfl rfl ?_
 first
  | refine SL.val (Val.lenSl rfl Tryz.underlying33 (List.length_map _)) rfl rfl ?_
  | refine SL.val (Val.lenOwn rfl (by repeat first|assumption|exact m0|apply m1) Tryz.underlying33 (List.length_map _)) rfl rfl ?_
  | refine SL.val (Val.lenNil rfl Tryz.underlying33) rfl rfl ?_
 refine SL.val (Val.move rfl) rfl rfl ?_
 refine SL.nil (SE.seq ?_)
 refine SC.block ?_
 refine SC.own0 35 1 ?_
 refine SC.loop (ι := Nat × Value) (fun z => (own 35 1 z.2 ((Lg.goes n l (es.take (z.1))).2.map fun x => [int x]) :: .blk b6 66 (zabs [.int .i64 0, .int .i64 0, .slice none 0 0, .slice none 0 0]) :: .blk b3 66 (Lg.goes n l (es.take (z.1))).1.abs :: [])) (fun z => [(2, int n), (3, ptr b3), (6, ptr b6), (8, .v z.2), (12, entsR es), (13, int (es.length : Nat)), (14, int (z.1 : Nat))]) (fun z => z.1 ≤ es.length) (fun z => es.length - z.1) (0, .slice none 0 0) (Nat.zero_le _) (by exact ⟨rfl, rfl, rfl, rfl, rfl, rfl, rfl, trivial⟩) (by repeat first|exact s0 _|exact s1 _|apply s2|apply s3) ?_
 intro z hz
 refine SC.seq (SC.region ?_)
 refine SL.val (Val.ltI rfl rfl) rfl rfl ?_
 refine SL.nil (SE.seq ?_)
 refine SC.seq ?_
 refine SC.condP rfl ?_ ?_
 rotate_left
 ·intro hc15
  have htk : es.take z.1 = es := List.take_of_length_le (by omega)
  rw [htk]
  refine SC.exit ?_
  refine SE.then_ nofun ?_
  refine SE.then_ nofun ?_
  refine SE.exit ?_
  refine SE.seq ?_
  refine SC.seq (SC.region ?_)
  refine SL.val (Val.fieldAddr tabOk rfl rfl rfl rfl rfl) rfl rfl ?_
  refine SL.val (Val.to (C := int (Lg.goes n l es).1.seq) (Val.load1 tabOk rfl rfl (by repeat first|assumption|exact o0_|exact o1_|apply o2_) List.not_mem_nil (by rfl)) rfl) rfl rfl ?_
  refine SL.val (Val.addI rfl rfl (by simp only [InR, lo, hi]; omega)) rfl rfl ?_
  refine SL.val (Val.fieldAddr tabOk rfl rfl rfl rfl rfl) rfl rfl ?_
  refine SL.eff (Eff.store (L' := (l.foldF es n).1.abs) tabOk rfl rfl rfl (by repeat first|assumption|exact Upd.here|apply Upd.there) rfl (lb_ (by rfl)) rfl (by rfl)) rfl rfl ?_
  rintro _ _ ⟨rfl, rfl⟩
  refine SL.nil (SE.seq ?_)
  refine SC.seq (SC.region ?_)
  refine SL.val (Val.to (C := .agg (l.foldF es n).1.abs) (Val.loadP tabOk rfl rfl rfl (by repeat first|assumption|exact o0_|exact o1_|apply o2_) List.not_mem_nil (lb_ (by rfl))) rfl) rfl rfl ?_
  refine SL.val (Val.move rfl) rfl rfl ?_
  refine SL.eff (Eff.store (L' := (l.foldF es n).1.abs) tabOk rfl rfl rfl (by repeat first|assumption|exact Upd.here|apply Upd.there) rfl (lb_ (by rfl)) rfl (by exact putL_whole rfl)) rfl rfl ?_
  rintro _ _ ⟨rfl, rfl⟩
  refine SL.val (Val.assign rfl) rfl rfl ?_
  refine SL.nil (SE.seq ?_)
  refine SC.ret ?_
  refine SE.freeze [] (t := 7) rfl rfl ?_
  refine SE.fin (rs := [.cell 6 66, .tmp 7]) rfl (RV.cell rfl (RV.cellA tabOk rfl rfl (by repeat first|assumption|exact o0_|exact o1_|apply o2_) (by rfl)) (RV.tmp rfl RV.nil)) (()) (by repeat first|exact s0 _|exact s1 _|apply s2|apply s3) (by simp [It.rids]) ?_
  exact rfl
 intro hc15
 have hlt : z.1 < es.length := by omega
 have hen := hes _ (List.getElem_mem hlt)
 have hgf := goes_few n l (es.take z.1)
 rw [List.length_take] at hgf
 have hgl : (Lg.goes n l (es.take z.1)).2.length = z.1 := by rw [goes_len, List.length_take]; omega
 refine SC.skip ?_
 refine SE.seq ?_
 refine SC.seq ?_
 refine SC.block ?_
 refine SC.seq (SC.region ?_)
 refine SL.val (Val.indexSl tabOk Tryz.underlying33 rfl rfl rfl rfl (at_map (by omega)) rfl rfl) rfl rfl ?_
 refine SL.val (Val.loadAR tabOk rfl rfl rfl (by rfl)) rfl rfl ?_
 refine SL.eff (Eff.alloc tabOk rfl) rfl rfl ?_
 rintro _ _ ⟨b10, rfl, rfl⟩
 refine SL.eff (Eff.store (L' := entA (es[z.1]'hlt)) tabOk rfl rfl rfl (by repeat first|assumption|exact Upd.here|apply Upd.there) rfl (lb_ (by rfl)) rfl (by exact putL_whole rfl)) rfl rfl ?_
 rintro _ _ ⟨rfl, rfl⟩
 refine SL.nil (SE.seq ?_)
 refine SC.seq (SC.region ?_)
 refine SL.val (Val.assign rfl) rfl rfl ?_
 refine SL.nil (SE.seq ?_)
 refine SC.seq (SC.region ?_)
 refine SL.val (Val.to (C := .agg (Lg.goes n l (es.take (z.1))).1.abs) (Val.loadP tabOk rfl rfl rfl (by repeat first|assumption|exact o0_|exact o1_|apply o2_) List.not_mem_nil (lb_ (by rfl))) rfl) rfl rfl ?_
 refine SL.val (Val.to (C := .agg (entA (es[z.1]'hlt))) (Val.loadP tabOk rfl rfl rfl (by repeat first|assumption|exact o0_|exact o1_|apply o2_) List.not_mem_nil (lb_ (by rfl))) rfl) rfl rfl ?_
 refine SL.val (Val.move rfl) rfl rfl ?_
 refine SL.call (rdo_s (l := (Lg.goes n l (es.take (z.1))).1) (e := (es[z.1]'hlt)) (n := n) ⟨by omega, by omega⟩ (goes_wf n hl) hen (hss _ (List.getElem_mem hlt))) Casts.refl (by kernel_rfl) rfl rfl rfl ?_
 refine ap_ ?_
 intro _
 refine SL.val (Val.move rfl) rfl rfl ?_
 refine SL.val (Val.extract rfl rfl) rfl rfl ?_
 refine SL.val (Val.extract rfl rfl) rfl rfl ?_
 refine SL.eff (Eff.store (L' := ((Lg.goes n l (es.take (z.1))).1.doF (es[z.1]'hlt) n).1.abs) tabOk rfl rfl rfl (by repeat first|assumption|exact Upd.here|apply Upd.there) rfl (lb_ (by rfl)) rfl (by exact putL_whole rfl)) rfl rfl ?_
 rintro _ _ ⟨rfl, rfl⟩
 refine SL.val (Val.assign rfl) rfl rfl ?_
 refine SL.nil (SE.seq ?_)
 refine SC.region ?_
 iterate 2 refine SL.val (Val.move rfl) rfl rfl ?_
 refine SL.eff (Eff.buildSl tabOk Tryz.underlying59 rfl rfl rfl rfl rfl rfl rfl) rfl rfl ?_
 rintro _ _ ⟨rfl, rfl⟩
 refine SL.eff (Eff.appendE (zs := ((Lg.goes n l (es.take (z.1))).2 ++ [((Lg.goes n l (es.take (z.1))).1.doF (es[z.1]'hlt) n).2]).map fun x => [int x]) tabOk [_] (by simp only [List.map_append]; rfl) Tryz.underlying59 rfl rfl rfl rfl rfl rfl (by intro c hc; rw [List.mem_singleton] at hc; subst hc; rfl) (by unfold maxLen; simp only [List.length_map, List.length_append, List.length_cons, List.length_nil]; omega) (by rw [show Tryz.prog.bytesOf 35 = 8 by kernel_rfl]; simp only [List.length_map, List.length_append, List.length_cons, List.length_nil]; omega)) rfl rfl ?_
 rintro _ _ ⟨r28, rfl, rfl⟩
 refine SL.val (Val.assign rfl) rfl rfl ?_
 refine SL.nil ?_
 refine SE.inBlock ?_
 refine SE.seq ?_
 refine SC.region ?_
 first
  | refine SL.val (Val.addI rfl rfl (by simp only [InR, lo, hi]; omega)) rfl rfl ?_
  | refine SL.val (Val.addW rfl rfl) rfl rfl ?_
 refine SL.val (Val.move rfl) rfl rfl ?_
 refine SL.nil ?_
 refine SE.round (z.1 + 1, r28) (by first | omega | (dsimp only; omega)) (by dsimp only; omega) (by exact ⟨rfl, rfl, rfl, rfl, rfl, rfl, rfl, trivial⟩) (by rw [goes_take hlt]; repeat (first | exact List.nil_sublist _ | exact List.Sublist.refl _ | apply List.Sublist.cons_cons | apply List.Sublist.cons))
theorem ldgAt_few {l : Lg} (hr : ∀ b ∈ h, b.length ≤ 10) : ∀ z, z ≤ h.length → (ldgAt n l (h.take z)).ls.length ≤ l.ls.length + 10 * z ∧ (ldgAt n l (h.take z)).os.length ≤ l.os.length + 10 * z
  | 0, _ => ⟨Nat.le_refl _, Nat.le_refl _⟩
  | z + 1, hz => by
    have h1 := ldgAt_few (l := l) hr z (by omega)
    have h2 := goes_few n (ldgAt n l (h.take z)) (h[z]'(by omega))
    have h3 := hr _ (List.getElem_mem (show z < h.length by omega))
    rw [ldgAt_take (by omega)]
    show (Lg.goes n _ _).1.ls.length ≤ _ ∧ (Lg.goes n _ _).1.os.length ≤ _
    omega
theorem ldgAt_seq {l : Lg} : ∀ z, z ≤ h.length → (ldgAt n l (h.take z)).seq = l.seq + z
  | 0, _ => by show l.seq = l.seq + ((0 : Nat) : Int); omega
  | z + 1, hz => by
    rw [ldgAt_take (by omega)]
    show (Lg.goes n _ _).1.seq + 1 = _
    rw [goes_seq, ldgAt_seq z (by omega)]
    omega
theorem foldF_ins {l : Lg} (hl : l.Ins) (hs : i64ok (l.seq + 1)) (he : ∀ e ∈ es, EnIns e) : (l.foldF es n).1.Ins := by
  have h1 := goes_ins n hl he
  exact ⟨by show i64ok ((Lg.goes n l es).1.seq + 1); rw [goes_seq]; exact hs, h1.total, h1.ls, h1.os⟩
theorem ldgAt_ins {l : Lg} (hl : l.Ins) (h0 : l.seq = 0) (hh : HisIns h) (hb : h.length ≤ 1000000) : ∀ z, z ≤ h.length → (ldgAt n l (h.take z)).Ins
  | 0, _ => hl
  | z + 1, hz => by
    rw [ldgAt_take (by omega)]
    refine foldF_ins (ldgAt_ins hl h0 hh hb z (by omega)) ?_ (hh _ (List.getElem_mem (show z < h.length by omega)))
    rw [ldgAt_seq z (by omega), h0]
    unfold i64ok
    omega
set_option maxHeartbeats 2000000 in
theorem rledgers_s (hh : HisIns h) (hr : ∀ b ∈ h, b.length ≤ 10) (hss : ∀ b ∈ h, ∀ e ∈ b, e.core.letter.size ≤ lots) (hn : h.length ≤ 40) : Spec Tryz.prog 23 [histA h, int n] [] (fun _ : Unit => []) (fun _ => .sl 4 ((ldgs n Lg.zero h).map Lg.abs)) := by
 refine spec_of Tryz.func23 rfl Tryz.ntmps23 rfl fun G w => ?_
 refine SC.seq (SC.region ?_)
 refine SL.val (Val.assign rfl) rfl rfl ?_
 refine SL.nil (SE.seq ?_)
 refine SC.seq (SC.region ?_)
 refine SL.val (Val.buildS tabOk rfl rfl rfl rfl) rfl rfl ?_
 refine SL.eff (Eff.alloc tabOk rfl) rfl rfl ?_
 rintro _ _ ⟨b5, rfl, rfl⟩
 refine SL.eff (Eff.store (L' := (zabs [.int .i64 0, .int .i64 0, .slice none 0 0, .slice none 0 0])) tabOk rfl rfl rfl (by repeat first|assumption|exact Upd.here|apply Upd.there) rfl (lb_ (by rfl)) rfl (by exact putL_whole rfl)) rfl rfl ?_
 rintro _ _ ⟨rfl, rfl⟩
 refine SL.re [] (Re.cast (ds := Lg.zero.abs) (Casts.keep (Casts.keep (Casts.nils (s := 6) (Casts.nils (s := 3) Casts.refl))))) rfl ?_
 refine SL.nil (SE.seq ?_)
 refine SC.seq (SC.region ?_)
 refine SL.val (Val.to (C := .agg Lg.zero.abs) (Val.loadP tabOk rfl rfl rfl (by repeat first|assumption|exact o0_|exact o1_|apply o2_) List.not_mem_nil (lb_ (by rfl))) rfl) rfl rfl ?_
 refine SL.eff (Eff.buildOwn tabOk Tryz.underlying40 rfl rfl rfl rfl rfl rfl rfl) rfl rfl ?_
 rintro _ _ ⟨r11, rfl, rfl⟩
 refine SL.val (Val.assign rfl) rfl rfl ?_
 refine SL.nil (SE.seq ?_)
 refine SC.seq ?_
 refine SC.seq (SC.region ?_)
 refine SL.val (Val.move rfl) rfl rfl ?_
 first
  | refine SL.val (Val.lenSl rfl Tryz.underlying26 (List.length_map _)) rfl rfl ?_
  | refine SL.val (Val.lenOwn rfl (by repeat first|assumption|exact m0|apply m1) Tryz.underlying26 (List.length_map _)) rfl rfl ?_
  | refine SL.val (Val.lenNil rfl Tryz.underlying26) rfl rfl ?_
 refine SL.val (Val.move rfl) rfl rfl ?_
 refine SL.nil (SE.seq ?_)
 refine SC.block ?_
 refine SC.loop (ι := Nat × Value) (fun z => (own 66 4 z.2 ((ldgs n Lg.zero (h.take (z.1))).map Lg.abs) :: .blk b5 66 (ldgAt n Lg.zero (h.take (z.1))).abs :: [])) (fun z => [(1, int n), (5, ptr b5), (6, .v z.2), (12, histA h), (13, int (h.length : Nat)), (14, int (z.1 : Nat))]) (fun z => z.1 ≤ h.length) (fun z => h.length - z.1) (0, r11) (Nat.zero_le _) (by exact ⟨rfl, rfl, rfl, rfl, rfl, rfl, trivial⟩) (by repeat first|exact s0 _|exact s1 _|apply s2|apply s3) ?_
 intro z hz
 refine SC.seq (SC.region ?_)
 refine SL.val (Val.ltI rfl rfl) rfl rfl ?_
 refine SL.nil (SE.seq ?_)
 refine SC.seq ?_
 refine SC.condP rfl ?_ ?_
 rotate_left
 ·intro hc15
  have htk : h.take z.1 = h := List.take_of_length_le (by omega)
  rw [htk]
  refine SC.exit ?_
  refine SE.then_ nofun ?_
  refine SE.then_ nofun ?_
  refine SE.exit ?_
  refine SE.seq ?_
  refine SC.seq (SC.region ?_)
  refine SL.val (Val.move rfl) rfl rfl ?_
  refine SL.val (Val.assign rfl) rfl rfl ?_
  refine SL.nil (SE.seq ?_)
  refine SC.ret ?_
  refine SE.freeze [] (t := 4) rfl rfl ?_
  refine SE.fin (rs := [.tmp 4]) rfl (RV.tmp rfl RV.nil) (()) (by repeat first|exact s0 _|exact s1 _|apply s2|apply s3) (by simp [It.rids]) ?_
  exact rfl
 intro hc15
 have hlt : z.1 < h.length := by omega
 have hbz := hr _ (List.getElem_mem hlt)
 have hfz := ldgAt_few (n := n) (l := Lg.zero) hr z.1 (by omega)
 have hz0 : Lg.zero.ls.length = 0 := rfl
 have hz1 : Lg.zero.os.length = 0 := rfl
 refine SC.skip ?_
 refine SE.seq ?_
 refine SC.seq ?_
 refine SC.block ?_
 refine SC.seq (SC.region ?_)
 refine SL.val (Val.indexSl tabOk Tryz.underlying26 rfl rfl rfl rfl (at_map (by omega)) rfl rfl) rfl rfl ?_
 refine SL.val (Val.load1R tabOk rfl rfl rfl) rfl rfl ?_
 refine SL.val (Val.assign rfl) rfl rfl ?_
 refine SL.nil (SE.seq ?_)
 refine SC.seq (SC.region ?_)
 refine SL.val (Val.to (C := .agg (ldgAt n Lg.zero (h.take (z.1))).abs) (Val.loadP tabOk rfl rfl rfl (by repeat first|assumption|exact o0_|exact o1_|apply o2_) List.not_mem_nil (lb_ (by rfl))) rfl) rfl rfl ?_
 iterate 2 refine SL.val (Val.move rfl) rfl rfl ?_
 refine SL.call (rfold_s (l := (ldgAt n Lg.zero (h.take (z.1)))) (es := (h[z.1]'hlt)) (n := n) (hh _ (List.getElem_mem hlt)) (hss _ (List.getElem_mem hlt)) (ldgAt_ins Lg.zero_ins rfl hh (by omega) z.1 (by omega)).wf (by omega) (by omega) (by omega) (by rw [ldgAt_seq z.1 (by omega)]; show (0 : Int) + _ ≤ _; omega)) Casts.refl (by kernel_rfl) rfl rfl rfl ?_
 refine ap_ ?_
 intro _
 refine SL.val (Val.move rfl) rfl rfl ?_
 refine SL.val (Val.extract rfl rfl) rfl rfl ?_
 refine SL.val (Val.extract rfl rfl) rfl rfl ?_
 refine SL.eff (Eff.store (L' := ((ldgAt n Lg.zero (h.take (z.1))).foldF (h[z.1]'hlt) n).1.abs) tabOk rfl rfl rfl (by repeat first|assumption|exact Upd.here|apply Upd.there) rfl (lb_ (by rfl)) rfl (by exact putL_whole rfl)) rfl rfl ?_
 rintro _ _ ⟨rfl, rfl⟩
 refine SL.nil (SE.seq ?_)
 refine SC.region ?_
 refine SL.val (Val.move rfl) rfl rfl ?_
 refine SL.val (Val.to (C := .agg ((ldgAt n Lg.zero (h.take (z.1))).foldF (h[z.1]'hlt) n).1.abs) (Val.loadP tabOk rfl rfl rfl (by repeat first|assumption|exact o0_|exact o1_|apply o2_) List.not_mem_nil (lb_ (by rfl))) rfl) rfl rfl ?_
 refine SL.eff (Eff.buildSl tabOk Tryz.underlying40 rfl rfl rfl rfl rfl rfl rfl) rfl rfl ?_
 rintro _ _ ⟨rfl, rfl⟩
 refine SL.eff (Eff.appendE (zs := (ldgs n Lg.zero (h.take z.1) ++ [((ldgAt n Lg.zero (h.take (z.1))).foldF (h[z.1]'hlt) n).1]).map Lg.abs) tabOk [] (by simp only [List.map_append]; rfl) Tryz.underlying40 rfl rfl rfl rfl rfl rfl (by intro c hc; rw [List.mem_singleton] at hc; subst hc; rfl) (by unfold maxLen; simp only [List.length_map, List.length_append, List.length_cons, List.length_nil, ldgs_len, List.length_take]; omega) (by rw [show Tryz.prog.bytesOf 66 = 64 by kernel_rfl]; simp only [List.length_map, List.length_append, List.length_cons, List.length_nil, ldgs_len, List.length_take]; omega)) rfl rfl ?_
 rintro _ _ ⟨r28, rfl, rfl⟩
 refine SL.val (Val.assign rfl) rfl rfl ?_
 refine SL.nil ?_
 refine SE.inBlock ?_
 refine SE.seq ?_
 refine SC.region ?_
 first
  | refine SL.val (Val.addI rfl rfl (by simp only [InR, lo, hi]; omega)) rfl rfl ?_
  | refine SL.val (Val.addW rfl rfl) rfl rfl ?_
 refine SL.val (Val.move rfl) rfl rfl ?_
 refine SL.nil ?_
 refine SE.round (z.1 + 1, r28) (by first | omega | (dsimp only; omega)) (by dsimp only; omega) (by exact ⟨rfl, rfl, rfl, rfl, rfl, rfl, trivial⟩) (by rw [ldgs_take hlt, ldgAt_take hlt]; repeat (first | exact List.nil_sublist _ | exact List.Sublist.refl _ | apply List.Sublist.cons_cons | apply List.Sublist.cons))
end
end Go.Proofs.YtejcohlpjikjpaaGreatDoor.A
