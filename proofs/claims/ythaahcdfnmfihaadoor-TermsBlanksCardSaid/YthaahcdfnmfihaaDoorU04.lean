/-
  Packed out of the texts: TM1, LayS, TGlob, TLaw, TOpen, TKeep, TM2, TRow.
-/
import Derived.Test.YthaahcdfnmfihaaDoorU03
import Derived.Shelf.Strconv.ErrVarAll
import Derived.Shelf.Strconv.Itoa3
import Derived.Shelf.Strconv.AppendIntPublic10
import Derived.Test.YthaahcdfnmfihaaDoorProg
import Derived.Lib.AtoiTie
import Derived.Test.YthaahcdfnmfihaaDoorTie
import Derived.Lay
import Derived.LaidMore
import Derived.Stop.LaidErr
import Derived.Stop.Joined
import Derived.SevenTiedAt
import Derived.JoinedCond
import Derived.FnData
/-
  Policies' texts: blanks, and what a text begins with.
-/
set_option maxRecDepth 100000
set_option linter.unusedSimpArgs false
set_option linter.unusedVariables false
namespace Go.Proofs.YthaahcdfnmfihaaDoor.A
open Go.RowKit

abbrev stA (l : Txt) : Abs := .v (.string ⟨l.toArray⟩)
theorem tx_size (l : Txt) : (ByteArray.mk l.toArray).size = l.length := by simp [ByteArray.size]
theorem st_lo (l : Txt) (q : Nat) : Abs.v (.string ((ByteArray.mk l.toArray).extract q (ByteArray.mk l.toArray).size)) = stA (l.drop q) :=
  congrArg (fun s => Abs.v (.string s)) (tx_inj (by rw [tx_lo, tx_mk, tx_mk]))
theorem st_hi (l : Txt) (q : Nat) : Abs.v (.string ((ByteArray.mk l.toArray).extract 0 q)) = stA (l.take q) :=
  congrArg (fun s => Abs.v (.string s)) (tx_inj (by rw [tx_hi, tx_mk, tx_mk]))
theorem st_eq {l m : Txt} : (ByteArray.mk l.toArray = ByteArray.mk m.toArray) ↔ l = m := by
  constructor
  · intro h
    have := congrArg tx h
    rwa [tx_mk, tx_mk] at this
  · rintro rfl; rfl
theorem bare_nil {l : Txt} (h : l.length = 0) : bare l = l := by rw [List.length_eq_zero_iff.1 h]; rfl
theorem bare_no {l : Txt} (hq : 0 < l.length) (h : ¬ ((l[0]'hq).toNat : Int) = 32) : bare l = l := by
  cases l with
  | nil => rfl
  | cons c t => exact if_neg fun e => h (by rw [show (c :: t)[0] = c from rfl, e]; rfl)
theorem bare_yes {l : Txt} (hq : 0 < l.length) (h : ((l[0]'hq).toNat : Int) = 32) : bare (l.drop 1) = bare l := by
  cases l with
  | nil => simp at hq
  | cons c t =>
    have e : c = 32 := by
      have h1 : c.toNat = 32 := by have h2 : ((c.toNat : Nat) : Int) = 32 := h; omega
      exact UInt8.toNat_inj.1 h1
    exact (if_pos e).symm
/-- A parser: what is left, and whether something is odd. -/
def psA (l : Txt) (odd : Bool) : List Abs := [stA l, boo odd]
/-- What is left behind a text that is taken, if it stands there. -/
def takeT (l wd : Txt) : Txt := if begins (bare l) wd = true then (bare l).drop wd.length else bare l
section
variable {l wd : Txt} {odd : Bool} {p : Nat}
theorem trimByte_s  : Spec Tryd.prog 38 [stA l, .v (.int .u8 32)] [] (fun _ : Unit => []) (fun _ => stA (bare l)) := by
  refine spec_of Tryd.func38 rfl Tryd.ntmps38 rfl fun G w => ?_
  refine SC.seq (SC.region ?_)
  refine SL.val (Val.assign rfl) rfl rfl ?_
  refine SL.nil (SE.seq ?_)
  refine SC.seq ?_
  refine SC.block ?_
  refine SC.loop (ι := Txt) (fun z => []) (fun z => [(0, stA z), (1, .v (.int .u8 32))]) (fun z => bare z = bare l) (fun z => z.length) (l) (rfl) (by exact ⟨rfl, rfl, trivial⟩) (by repeat first|exact s0 _|exact s1 _|apply s2|apply s3) ?_
  intro z hz
  refine SC.seq ?_
  refine SC.seq (SC.region ?_)
  refine SL.val (Val.move rfl) rfl rfl ?_
  refine SL.val (Val.to (C := int ((z.length : Nat) : Int)) (Val.lenSt rfl Tryd.underlying9) rfl) rfl rfl ?_
  refine SL.val (Val.gtI rfl rfl) rfl rfl ?_
  refine SL.val (Val.move rfl) rfl rfl ?_
  refine SL.bothP (t := 8) rfl ?_ ?_
  rotate_left
  · intro hc8
    iterate 4 refine SL.skip rfl rfl ?_
    refine SL.val (Val.pickF rfl rfl) rfl rfl ?_
    refine SL.nil (SE.seq ?_)
    refine SC.condF rfl ?_
    refine SC.exit ?_
    refine SE.then_ (by intro h; cases h) ?_
    refine SE.then_ (by intro h; cases h) ?_
    refine SE.exit ?_
    refine SE.seq ?_
    refine SC.seq (SC.region ?_)
    refine SL.val (Val.move rfl) rfl rfl ?_
    refine SL.val (Val.assign rfl) rfl rfl ?_
    refine SL.nil (SE.seq ?_)
    refine SC.ret ?_
    refine SE.fin (rs := [.tmp 4]) rfl (RV.tmp rfl RV.nil) (()) (by repeat first|exact s0 _|exact s1 _|apply s2|apply s3) (by simp [It.rids]) ?_
    first
      | (rw [← hz, bare_nil (by omega)]; rfl)
      | (rw [← hz, bare_no hq hc13]; rfl)
  intro hc8
  have hq : 0 < z.length := by omega
  refine SL.val (Val.move rfl) rfl rfl ?_
  refine SL.val (Val.to (C := .v (.int .u8 ((z[0]'hq).toNat : Nat))) (Val.indexSt (s := ⟨z.toArray⟩) (q := 0) rfl rfl rfl hq Tryd.underlying9) rfl) rfl rfl ?_
  refine SL.val (Val.move rfl) rfl rfl ?_
  refine SL.val (Val.eqI rfl rfl) rfl rfl ?_
  refine SL.val (Val.pickT rfl rfl) rfl rfl ?_
  refine SL.nil (SE.seq ?_)
  refine SC.condP rfl ?_ ?_
  · intro hc13
    refine SC.skip ?_
    refine SE.seq ?_
    refine SC.block ?_
    refine SC.region ?_
    refine SL.val (Val.move rfl) rfl rfl ?_
    refine SL.val (Val.to (C := stA (z.drop 1)) (Val.sliceStLo (q := 1) Tryd.underlying9 rfl rfl rfl (by simp only [tx_size]; omega)) (st_lo _ _)) rfl rfl ?_
    refine SL.val (Val.assign rfl) rfl rfl ?_
    refine SL.nil ?_
    refine SE.inBlock ?_
    refine SE.round (z.drop 1) (by rw [List.length_drop]; omega) ((bare_yes hq hc13).trans hz) (by exact ⟨rfl, rfl, trivial⟩) (by repeat first|exact s0 _|exact s1 _|apply s2|apply s3)
  intro hc13
  refine SC.exit ?_
  refine SE.then_ (by intro h; cases h) ?_
  refine SE.then_ (by intro h; cases h) ?_
  refine SE.exit ?_
  refine SE.seq ?_
  refine SC.seq (SC.region ?_)
  refine SL.val (Val.move rfl) rfl rfl ?_
  refine SL.val (Val.assign rfl) rfl rfl ?_
  refine SL.nil (SE.seq ?_)
  refine SC.ret ?_
  refine SE.fin (rs := [.tmp 4]) rfl (RV.tmp rfl RV.nil) (()) (by repeat first|exact s0 _|exact s1 _|apply s2|apply s3) (by simp [It.rids]) ?_
  first
    | (rw [← hz, bare_nil (by omega)]; rfl)
    | (rw [← hz, bare_no hq hc13]; rfl)
theorem trimLeft_s  : Spec Tryd.prog 27 [stA l, stA [32]] [] (fun _ : Unit => []) (fun _ => stA (bare l)) := by
  refine spec_of Tryd.func27 rfl Tryd.ntmps27 rfl fun G w => ?_
  refine SC.seq (SC.region ?_)
  refine SL.val (Val.assign rfl) rfl rfl ?_
  refine SL.nil (SE.seq ?_)
  refine SC.seq ?_
  refine SC.seq (SC.region ?_)
  refine SL.val (Val.move rfl) rfl rfl ?_
  refine SL.val (Val.eqS rfl rfl) rfl rfl ?_
  refine SL.val (Val.move rfl) rfl rfl ?_
  refine SL.bothP (t := 9) rfl ?_ ?_
  · intro hc9
    iterate 2 refine SL.skip rfl rfl ?_
    refine SL.val (Val.pickT rfl rfl) rfl rfl ?_
    refine SL.nil (SE.seq ?_)
    refine SC.condT rfl ?_
    refine SC.seq (SC.region ?_)
    refine SL.val (Val.move rfl) rfl rfl ?_
    refine SL.val (Val.assign rfl) rfl rfl ?_
    refine SL.nil (SE.seq ?_)
    refine SC.ret ?_
    refine SE.then_ (by intro h; cases h) ?_
    refine SE.fin (rs := [.tmp 4]) rfl (RV.tmp rfl RV.nil) (()) (by repeat first|exact s0 _|exact s1 _|apply s2|apply s3) (by simp [It.rids]) ?_
    rw [show l = [] from st_eq.1 hc9]
    rfl
  intro hc9
  refine SL.val (Val.move rfl) rfl rfl ?_
  refine SL.val (Val.to (C := boo false) (Val.eqS rfl rfl) (congrArg (fun b => Abs.v (Value.bool b)) (decide_eq_false (by decide)))) rfl rfl ?_
  refine SL.val (Val.pickF rfl rfl) rfl rfl ?_
  refine SL.nil (SE.seq ?_)
  refine SC.condF rfl ?_
  refine SC.skip ?_
  refine SE.seq ?_
  refine SC.seq ?_
  refine SC.seq (SC.region ?_)
  refine SL.val (Val.move rfl) rfl rfl ?_
  refine SL.val (Val.to (C := int 1) (Val.lenSt rfl Tryd.underlying9) rfl) rfl rfl ?_
  refine SL.val (Val.to (C := boo true) (Val.eqI rfl rfl) (congrArg (fun b => Abs.v (Value.bool b)) (decide_eq_true (rfl)))) rfl rfl ?_
  refine SL.val (Val.move rfl) rfl rfl ?_
  refine SL.val (Val.move rfl) rfl rfl ?_
  refine SL.val (Val.to (C := .v (.int .u8 32)) (Val.indexSt (q := 0) rfl rfl rfl (by decide) Tryd.underlying9) rfl) rfl rfl ?_
  refine SL.val (Val.to (C := boo true) (Val.ltI rfl rfl) (congrArg (fun b => Abs.v (Value.bool b)) (decide_eq_true (by decide)))) rfl rfl ?_
  refine SL.val (Val.pickT rfl rfl) rfl rfl ?_
  refine SL.nil (SE.seq ?_)
  refine SC.condT rfl ?_
  refine SC.seq (SC.region ?_)
  refine SL.val (Val.move rfl) rfl rfl ?_
  refine SL.val (Val.move rfl) rfl rfl ?_
  refine SL.val (Val.to (C := .v (.int .u8 32)) (Val.indexSt (q := 0) rfl rfl rfl (by decide) Tryd.underlying9) rfl) rfl rfl ?_
  refine SL.call (trimByte_s (l := l)) Casts.refl (by kernel_rfl) rfl rfl rfl ?_
  refine After.pure (by repeat first|exact .nil|refine .blk (by repeat first|assumption|exact m0|apply m1) ?_|refine .rd (by repeat first|assumption|exact m0|apply m1) ?_|refine .pc (by repeat first|assumption|exact m0|apply m1) ?_|refine .rdpc (by repeat first|assumption|exact m0|apply m1) ?_) (fun _ => rfl) ?_
  intro _
  refine SL.val (Val.assign rfl) rfl rfl ?_
  refine SL.nil (SE.seq ?_)
  refine SC.ret ?_
  refine SE.then_ (by intro h; cases h) ?_
  refine SE.fin (rs := [.tmp 4]) rfl (RV.tmp rfl RV.nil) (()) (by repeat first|exact s0 _|exact s1 _|apply s2|apply s3) (by simp [It.rids]) ?_
  exact rfl
theorem hasPrefix_s  : Spec Tryd.prog 54 [stA l, stA wd] [] (fun _ : Unit => []) (fun _ => boo (begins l wd)) := by
  refine spec_of Tryd.func54 rfl Tryd.ntmps54 rfl fun G w => ?_
  refine SC.seq (SC.region ?_)
  refine SL.val (Val.assign rfl) rfl rfl ?_
  refine SL.nil (SE.seq ?_)
  refine SC.seq (SC.region ?_)
  refine SL.val (Val.move rfl) rfl rfl ?_
  refine SL.val (Val.to (C := int ((l.length : Nat) : Int)) (Val.lenSt rfl Tryd.underlying9) rfl) rfl rfl ?_
  refine SL.val (Val.move rfl) rfl rfl ?_
  refine SL.val (Val.to (C := int ((wd.length : Nat) : Int)) (Val.lenSt rfl Tryd.underlying9) rfl) rfl rfl ?_
  refine SL.val (Val.geI rfl rfl) rfl rfl ?_
  refine SL.val (Val.move rfl) rfl rfl ?_
  refine SL.bothP (t := 10) rfl ?_ ?_
  · intro hc10
    refine SL.val (Val.move rfl) rfl rfl ?_
    refine SL.val (Val.move rfl) rfl rfl ?_
    refine SL.val (Val.to (C := int ((wd.length : Nat) : Int)) (Val.lenSt rfl Tryd.underlying9) rfl) rfl rfl ?_
    refine SL.val (Val.to (C := stA (l.take wd.length)) (Val.sliceStHi (q := wd.length) Tryd.underlying9 rfl rfl rfl (by simp only [tx_size]; omega)) (st_hi _ _)) rfl rfl ?_
    refine SL.val (Val.move rfl) rfl rfl ?_
    refine SL.val (Val.to (C := boo (decide (l.take wd.length = wd))) (Val.eqS rfl rfl) (congrArg (fun b => Abs.v (Value.bool b)) (decide_eq_decide.2 (st_eq)))) rfl rfl ?_
    refine SL.val (Val.pickT rfl rfl) rfl rfl ?_
    refine SL.val (Val.assign rfl) rfl rfl ?_
    refine SL.nil (SE.seq ?_)
    refine SC.ret ?_
    refine SE.fin (rs := [.tmp 4]) rfl (RV.tmp rfl RV.nil) (()) (by repeat first|exact s0 _|exact s1 _|apply s2|apply s3) (by simp [It.rids]) ?_
    refine congrArg (fun b => Abs.v (Value.bool b)) ?_
    rw [Bool.eq_iff_iff, begins_iff]
    first
      | (rw [decide_eq_true_iff]; exact ⟨fun h => ⟨by omega, h⟩, fun h => h.2⟩)
      | exact ⟨fun h => (by cases h), fun h => absurd h.1 (by omega)⟩
  intro hc10
  iterate 6 refine SL.skip rfl rfl ?_
  refine SL.val (Val.pickF rfl rfl) rfl rfl ?_
  refine SL.val (Val.assign rfl) rfl rfl ?_
  refine SL.nil (SE.seq ?_)
  refine SC.ret ?_
  refine SE.fin (rs := [.tmp 4]) rfl (RV.tmp rfl RV.nil) (()) (by repeat first|exact s0 _|exact s1 _|apply s2|apply s3) (by simp [It.rids]) ?_
  refine congrArg (fun b => Abs.v (Value.bool b)) ?_
  rw [Bool.eq_iff_iff, begins_iff]
  first
    | (rw [decide_eq_true_iff]; exact ⟨fun h => ⟨by omega, h⟩, fun h => h.2⟩)
    | exact ⟨fun h => (by cases h), fun h => absurd h.1 (by omega)⟩
theorem cutPrefix0_s  : Spec Tryd.prog 45 [stA l, stA wd] [] (fun _ : Unit => []) (fun _ => .tup [stA (if begins l wd = true then l.drop wd.length else l), boo (begins l wd)]) := by
  refine spec_of Tryd.func45 rfl Tryd.ntmps45 rfl fun G w => ?_
  refine SC.seq (SC.region ?_)
  refine SL.val (Val.assign rfl) rfl rfl ?_
  refine SL.val (Val.assign rfl) rfl rfl ?_
  refine SL.nil (SE.seq ?_)
  refine SC.seq ?_
  refine SC.seq (SC.region ?_)
  refine SL.val (Val.move rfl) rfl rfl ?_
  refine SL.val (Val.move rfl) rfl rfl ?_
  refine SL.call (hasPrefix_s (l := l) (wd := wd)) Casts.refl (by kernel_rfl) rfl rfl rfl ?_
  refine After.pure (by repeat first|exact .nil|refine .blk (by repeat first|assumption|exact m0|apply m1) ?_|refine .rd (by repeat first|assumption|exact m0|apply m1) ?_|refine .pc (by repeat first|assumption|exact m0|apply m1) ?_|refine .rdpc (by repeat first|assumption|exact m0|apply m1) ?_) (fun _ => rfl) ?_
  intro _
  refine SL.val (Val.notB rfl) rfl rfl ?_
  refine SL.nil (SE.seq ?_)
  refine SC.cond rfl ?_ ?_
  · intro hc9
    have hbg : begins l wd = false := by simpa using hc9
    refine SC.seq (SC.region ?_)
    refine SL.val (Val.move rfl) rfl rfl ?_
    refine SL.val (Val.assign rfl) rfl rfl ?_
    refine SL.val (Val.assign rfl) rfl rfl ?_
    refine SL.nil (SE.seq ?_)
    refine SC.ret ?_
    refine SE.then_ (by intro h; cases h) ?_
    refine SE.fin (rs := [.tmp 4, .tmp 5]) rfl (RV.tmp rfl (RV.tmp rfl RV.nil)) (()) (by repeat first|exact s0 _|exact s1 _|apply s2|apply s3) (by simp [It.rids]) ?_
    rw [hbg]
    rfl
  intro hc9
  have hbg : begins l wd = true := by simpa using hc9
  have hlw := begins_len hbg
  refine SC.skip ?_
  refine SE.seq ?_
  refine SC.seq (SC.region ?_)
  refine SL.val (Val.move rfl) rfl rfl ?_
  refine SL.val (Val.move rfl) rfl rfl ?_
  refine SL.val (Val.to (C := int ((wd.length : Nat) : Int)) (Val.lenSt rfl Tryd.underlying9) rfl) rfl rfl ?_
  refine SL.val (Val.to (C := stA (l.drop wd.length)) (Val.sliceStLo (q := wd.length) Tryd.underlying9 rfl rfl rfl (by simp only [tx_size]; omega)) (st_lo _ _)) rfl rfl ?_
  refine SL.val (Val.assign rfl) rfl rfl ?_
  refine SL.val (Val.assign rfl) rfl rfl ?_
  refine SL.nil (SE.seq ?_)
  refine SC.ret ?_
  refine SE.fin (rs := [.tmp 4, .tmp 5]) rfl (RV.tmp rfl (RV.tmp rfl RV.nil)) (()) (by repeat first|exact s0 _|exact s1 _|apply s2|apply s3) (by simp [It.rids]) ?_
  rw [hbg]
  rfl
theorem cutPrefix_s  : Spec Tryd.prog 35 [stA l, stA wd] [] (fun _ : Unit => []) (fun _ => .tup [stA (if begins l wd = true then l.drop wd.length else l), boo (begins l wd)]) := by
  refine spec_of Tryd.func35 rfl Tryd.ntmps35 rfl fun G w => ?_
  refine SC.seq (SC.region ?_)
  refine SL.val (Val.assign rfl) rfl rfl ?_
  refine SL.val (Val.assign rfl) rfl rfl ?_
  refine SL.nil (SE.seq ?_)
  refine SC.seq (SC.region ?_)
  refine SL.val (Val.move rfl) rfl rfl ?_
  refine SL.val (Val.move rfl) rfl rfl ?_
  refine SL.call (cutPrefix0_s (l := l) (wd := wd)) Casts.refl (by kernel_rfl) rfl rfl rfl ?_
  refine After.pure (by repeat first|exact .nil|refine .blk (by repeat first|assumption|exact m0|apply m1) ?_|refine .rd (by repeat first|assumption|exact m0|apply m1) ?_|refine .pc (by repeat first|assumption|exact m0|apply m1) ?_|refine .rdpc (by repeat first|assumption|exact m0|apply m1) ?_) (fun _ => rfl) ?_
  intro _
  refine SL.val (Val.extract rfl rfl) rfl rfl ?_
  refine SL.val (Val.extract rfl rfl) rfl rfl ?_
  refine SL.val (Val.assign rfl) rfl rfl ?_
  refine SL.val (Val.assign rfl) rfl rfl ?_
  refine SL.nil (SE.seq ?_)
  refine SC.ret ?_
  refine SE.fin (rs := [.tmp 4, .tmp 5]) rfl (RV.tmp rfl (RV.tmp rfl RV.nil)) (()) (by repeat first|exact s0 _|exact s1 _|apply s2|apply s3) (by simp [It.rids]) ?_
  exact rfl
theorem blanks_s  : Spec Tryd.prog 15 [ptr p] [.blk p 40 (psA (l) odd)] (fun _ : Unit => [.blk p 40 (psA (bare l) odd)]) (fun _ => .tup []) := by
  refine spec_of Tryd.func15 rfl Tryd.ntmps15 rfl fun G w => ?_
  refine SC.region ?_
  refine SL.val (Val.move rfl) rfl rfl ?_
  refine SL.val (Val.move rfl) rfl rfl ?_
  refine SL.val (Val.nilCheck rfl) rfl rfl ?_
  refine SL.val (Val.fieldAddr tabOk rfl rfl rfl rfl rfl) rfl rfl ?_
  refine SL.val (Val.load1 tabOk rfl rfl (by first|(apply Or.inl;(repeat first|assumption|exact m0|apply m1);done)|(apply Or.inr;(repeat first|assumption|exact m0|apply m1);done)) List.not_mem_nil (by rfl)) rfl rfl ?_
  refine SL.call (trimLeft_s (l := l)) Casts.refl (by kernel_rfl) rfl rfl rfl ?_
  refine After.pure (by repeat first|exact .nil|refine .blk (by repeat first|assumption|exact m0|apply m1) ?_|refine .rd (by repeat first|assumption|exact m0|apply m1) ?_|refine .pc (by repeat first|assumption|exact m0|apply m1) ?_|refine .rdpc (by repeat first|assumption|exact m0|apply m1) ?_) (fun _ => rfl) ?_
  intro _
  refine SL.val (Val.nilCheck rfl) rfl rfl ?_
  refine SL.val (Val.fieldAddr tabOk rfl rfl rfl rfl rfl) rfl rfl ?_
  refine SL.eff (Eff.store (L' := psA (bare l) odd) tabOk rfl rfl rfl (by repeat first|assumption|exact Upd.here|apply Upd.there) rfl (Nat.le_of_ble_eq_true (by rfl)) rfl (by rfl)) rfl rfl ?_
  rintro _ _ ⟨rfl, rfl⟩
  refine SL.nil ?_
  refine SE.finN (rs := []) rfl RV.nil (()) (by repeat first|exact s0 _|exact s1 _|apply s2|apply s3) (by simp [It.rids]) ?_
  exact rfl
theorem take_s  : Spec Tryd.prog 24 [ptr p, stA wd] [.blk p 40 (psA (l) odd)] (fun _ : Unit => [.blk p 40 (psA (takeT l wd) odd)]) (fun _ => boo (begins (bare l) wd)) := by
  refine spec_of Tryd.func24 rfl Tryd.ntmps24 rfl fun G w => ?_
  refine SC.seq (SC.region ?_)
  refine SL.val (Val.assign rfl) rfl rfl ?_
  refine SL.nil (SE.seq ?_)
  refine SC.seq (SC.region ?_)
  refine SL.val (Val.move rfl) rfl rfl ?_
  refine SL.call (blanks_s (p := p) (l := l) (odd := odd)) Casts.refl (by kernel_rfl) rfl rfl rfl ?_
  refine After.one rfl (by repeat first|assumption|exact m0|apply m1) (fun _ => rfl) ?_
  intro _
  refine ⟨_, (by repeat first|assumption|exact Upd.here|apply Upd.there), ?_⟩
  refine SL.nil (SE.seq ?_)
  refine SC.seq (SC.region ?_)
  refine SL.val (Val.move rfl) rfl rfl ?_
  refine SL.val (Val.nilCheck rfl) rfl rfl ?_
  refine SL.val (Val.fieldAddr tabOk rfl rfl rfl rfl rfl) rfl rfl ?_
  refine SL.val (Val.load1 tabOk rfl rfl (by first|(apply Or.inl;(repeat first|assumption|exact m0|apply m1);done)|(apply Or.inr;(repeat first|assumption|exact m0|apply m1);done)) List.not_mem_nil (by rfl)) rfl rfl ?_
  refine SL.val (Val.move rfl) rfl rfl ?_
  refine SL.call (cutPrefix_s (l := bare l) (wd := wd)) Casts.refl (by kernel_rfl) rfl rfl rfl ?_
  refine After.pure (by repeat first|exact .nil|refine .blk (by repeat first|assumption|exact m0|apply m1) ?_|refine .rd (by repeat first|assumption|exact m0|apply m1) ?_|refine .pc (by repeat first|assumption|exact m0|apply m1) ?_|refine .rdpc (by repeat first|assumption|exact m0|apply m1) ?_) (fun _ => rfl) ?_
  intro _
  refine SL.val (Val.move rfl) rfl rfl ?_
  refine SL.val (Val.extract rfl rfl) rfl rfl ?_
  refine SL.val (Val.extract rfl rfl) rfl rfl ?_
  refine SL.val (Val.assign rfl) rfl rfl ?_
  refine SL.val (Val.assign rfl) rfl rfl ?_
  refine SL.nil (SE.seq ?_)
  refine SC.seq ?_
  refine SC.seq (SC.region ?_)
  refine SL.val (Val.move rfl) rfl rfl ?_
  refine SL.nil (SE.seq ?_)
  refine SC.cond rfl ?_ ?_
  rotate_left
  · intro hc18
    refine SC.skip ?_
    refine SE.seq ?_
    refine SC.seq (SC.region ?_)
    refine SL.val (Val.move rfl) rfl rfl ?_
    refine SL.val (Val.assign rfl) rfl rfl ?_
    refine SL.nil (SE.seq ?_)
    refine SC.ret ?_
    refine SE.fin (rs := [.tmp 4]) rfl (RV.tmp rfl RV.nil) (()) (by unfold takeT; first | exact List.Sublist.refl _ | (rw [if_neg (by assumption)]; exact List.Sublist.refl _) | (rw [if_neg (by simp only [*]; decide)]; exact List.Sublist.refl _)) (by simp [It.rids]) ?_
    exact rfl
  intro hc18
  refine SC.region ?_
  refine SL.val (Val.move rfl) rfl rfl ?_
  refine SL.val (Val.move rfl) rfl rfl ?_
  refine SL.val (Val.nilCheck rfl) rfl rfl ?_
  refine SL.val (Val.fieldAddr tabOk rfl rfl rfl rfl rfl) rfl rfl ?_
  refine SL.eff (Eff.store (L' := psA (if begins (bare l) wd = true then (bare l).drop wd.length else bare l) odd) tabOk rfl rfl rfl (by repeat first|assumption|exact Upd.here|apply Upd.there) rfl (Nat.le_of_ble_eq_true (by rfl)) rfl (by rfl)) rfl rfl ?_
  rintro _ _ ⟨rfl, rfl⟩
  refine SL.nil (SE.seq ?_)
  refine SC.seq (SC.region ?_)
  refine SL.val (Val.move rfl) rfl rfl ?_
  refine SL.val (Val.assign rfl) rfl rfl ?_
  refine SL.nil (SE.seq ?_)
  refine SC.ret ?_
  refine SE.fin (rs := [.tmp 4]) rfl (RV.tmp rfl RV.nil) (()) (by unfold takeT; first | exact List.Sublist.refl _ | (rw [if_neg (by assumption)]; exact List.Sublist.refl _) | (rw [if_neg (by simp only [*]; decide)]; exact List.Sublist.refl _)) (by simp [It.rids]) ?_
  exact rfl
end
end Go.Proofs.YthaahcdfnmfihaaDoor.A
/-
  The shelf's contracts of strconv, laid at this program.
-/
set_option maxRecDepth 100000
namespace Go.Proofs.YthaahcdfnmfihaaDoor
open Go.Shelf Go.RowKit
def atoiR : Ren := ⟨fun | 172 => 36 | 244 => 46 | 245 => 47 | 247 => 55 | 279 => 56 | 280 => 57 | 281 => 58 | 282 => 59 | 287 => 67 | 316 => 68 | 171 => 37 | 205 => 69 | 321 => 79 | 322 => 80 | 243 => 48 | 246 => 60 | 283 => 63 | 284 => 64 | 285 => 65 | 286 => 66 | 129 => 75 | 317 => 74 | 318 => 76 | 319 => 77 | 320 => 78 | 337 => 82 | 338 => 83 | n => n, fun | 9 => 9 | 3 => 3 | 75 => 64 | 76 => 65 | 4 => 4 | 5 => 5 | 167 => 84 | 37 => 36 | 0 => 0 | 85 => 85 | 2 => 2 | 168 => 87 | 53 => 82 | 175 => 97 | 46 => 99 | 210 => 101 | 127 => 118 | 145 => 121 | 143 => 119 | 21 => 21 | 171 => 92 | 173 => 95 | 212 => 112 | 51 => 113 | 20 => 20 | 213 => 114 | 232 => 123 | 233 => 124 | 80 => 125 | n => n, fun | 15 => 0 | 16 => 1 | 17 => 4 | 18 => 6 | 19 => 7 | n => n⟩
theorem atoiL : LaysC.n172 Tryd.prog atoiR := {
  mixed := by kernel_rfl,
  f129 := Tryd.func75.trans (congrArg some (by kernel_rfl)),
  f171 := Tryd.func37.trans (congrArg some (by kernel_rfl)),
  f172 := Tryd.func36.trans (congrArg some (by kernel_rfl)),
  f205 := Tryd.func69.trans (congrArg some (by kernel_rfl)),
  f243 := Tryd.func48.trans (congrArg some (by kernel_rfl)),
  f244 := Tryd.func46.trans (congrArg some (by kernel_rfl)),
  f245 := Tryd.func47.trans (congrArg some (by kernel_rfl)),
  f246 := Tryd.func60.trans (congrArg some (by kernel_rfl)),
  f247 := Tryd.func55.trans (congrArg some (by kernel_rfl)),
  f279 := Tryd.func56.trans (congrArg some (by kernel_rfl)),
  f280 := Tryd.func57.trans (congrArg some (by kernel_rfl)),
  f281 := Tryd.func58.trans (congrArg some (by kernel_rfl)),
  f282 := Tryd.func59.trans (congrArg some (by kernel_rfl)),
  f283 := Tryd.func63.trans (congrArg some (by kernel_rfl)),
  f284 := Tryd.func64.trans (congrArg some (by kernel_rfl)),
  f285 := Tryd.func65.trans (congrArg some (by kernel_rfl)),
  f286 := Tryd.func66.trans (congrArg some (by kernel_rfl)),
  f287 := Tryd.func67.trans (congrArg some (by kernel_rfl)),
  f316 := Tryd.func68.trans (congrArg some (by kernel_rfl)),
  f317 := Tryd.func74.trans (congrArg some (by kernel_rfl)),
  f318 := Tryd.func76.trans (congrArg some (by kernel_rfl)),
  f319 := Tryd.func77.trans (congrArg some (by kernel_rfl)),
  f320 := Tryd.func78.trans (congrArg some (by kernel_rfl)),
  f321 := Tryd.func79.trans (congrArg some (by kernel_rfl)),
  f322 := Tryd.func80.trans (congrArg some (by kernel_rfl)),
  f337 := Tryd.func82.trans (congrArg some (by kernel_rfl)),
  f338 := Tryd.func83.trans (congrArg some (by kernel_rfl)),
  t0 := Tryd.underlying0,
  a0 := Tryd.isAgg0,
  z0 := Tryd.sizeOf0,
  v0 := Tryd.zeroValue0,
  t2 := Tryd.underlying2,
  a2 := Tryd.isAgg2,
  z2 := Tryd.sizeOf2,
  v2 := Tryd.zeroValue2,
  t3 := Tryd.underlying3,
  a3 := Tryd.isAgg3,
  z3 := Tryd.sizeOf3,
  v3 := Tryd.zeroValue3,
  t4 := Tryd.underlying4,
  a4 := Tryd.isAgg4,
  z4 := Tryd.sizeOf4,
  v4 := Tryd.zeroValue4,
  t5 := Tryd.underlying5,
  a5 := Tryd.isAgg5,
  z5 := Tryd.sizeOf5,
  v5 := Tryd.zeroValue5,
  t9 := Tryd.underlying9,
  a9 := Tryd.isAgg9,
  z9 := Tryd.sizeOf9,
  v9 := Tryd.zeroValue9,
  t20 := Tryd.underlying20,
  a20 := Tryd.isAgg20,
  z20 := Tryd.sizeOf20,
  v20 := Tryd.zeroValue20,
  t21 := Tryd.underlying21,
  a21 := Tryd.isAgg21,
  z21 := Tryd.sizeOf21,
  v21 := Tryd.zeroValue21,
  t37 := Tryd.underlying36,
  a37 := Tryd.isAgg36,
  z37 := Tryd.sizeOf36,
  v37 := Tryd.zeroValue36,
  t46 := Tryd.underlying99,
  a46 := Tryd.isAgg99,
  z46 := Tryd.sizeOf99,
  v46 := Tryd.zeroValue99,
  t51 := Tryd.underlying113,
  a51 := Tryd.isAgg113,
  z51 := Tryd.sizeOf113,
  v51 := Tryd.zeroValue113,
  t53 := Tryd.underlying82,
  a53 := Tryd.isAgg82,
  z53 := Tryd.sizeOf82,
  v53 := Tryd.zeroValue82,
  t75 := Tryd.underlying64,
  a75 := Tryd.isAgg64,
  z75 := Tryd.sizeOf64,
  v75 := Tryd.zeroValue64,
  t76 := Tryd.underlying65,
  a76 := Tryd.isAgg65,
  z76 := Tryd.sizeOf65,
  v76 := Tryd.zeroValue65,
  t85 := Tryd.underlying85,
  a85 := Tryd.isAgg85,
  z85 := Tryd.sizeOf85,
  v85 := Tryd.zeroValue85,
  t127 := Tryd.underlying118,
  a127 := Tryd.isAgg118,
  z127 := Tryd.sizeOf118,
  v127 := Tryd.zeroValue118,
  t143 := Tryd.underlying119,
  a143 := Tryd.isAgg119,
  z143 := Tryd.sizeOf119,
  v143 := Tryd.zeroValue119,
  t145 := Tryd.underlying121,
  a145 := Tryd.isAgg121,
  z145 := Tryd.sizeOf121,
  v145 := Tryd.zeroValue121,
  t167 := Tryd.underlying84,
  a167 := Tryd.isAgg84,
  z167 := Tryd.sizeOf84,
  v167 := Tryd.zeroValue84,
  t168 := Tryd.underlying87,
  a168 := Tryd.isAgg87,
  z168 := Tryd.sizeOf87,
  v168 := Tryd.zeroValue87,
  t171 := Tryd.underlying92,
  a171 := Tryd.isAgg92,
  z171 := Tryd.sizeOf92,
  v171 := Tryd.zeroValue92,
  t173 := Tryd.underlying95,
  a173 := Tryd.isAgg95,
  z173 := Tryd.sizeOf95,
  v173 := Tryd.zeroValue95,
  t175 := Tryd.underlying97,
  a175 := Tryd.isAgg97,
  z175 := Tryd.sizeOf97,
  v175 := Tryd.zeroValue97,
  t210 := Tryd.underlying101,
  a210 := Tryd.isAgg101,
  z210 := Tryd.sizeOf101,
  v210 := Tryd.zeroValue101,
  t212 := Tryd.underlying112,
  a212 := Tryd.isAgg112,
  z212 := Tryd.sizeOf112,
  v212 := Tryd.zeroValue112,
  t213 := Tryd.underlying114,
  a213 := Tryd.isAgg114,
  z213 := Tryd.sizeOf114,
  t232 := Tryd.underlying123,
  a232 := Tryd.isAgg123,
  z232 := Tryd.sizeOf123,
  v232 := Tryd.zeroValue123,
  t233 := Tryd.underlying124,
  a233 := Tryd.isAgg124,
  z233 := Tryd.sizeOf124,
  v233 := Tryd.zeroValue124,
  g15 := by kernel_rfl,
  g16 := by kernel_rfl,
  g17 := by kernel_rfl,
  g18 := by kernel_rfl,
  g19 := by kernel_rfl,
  t80 := Tryd.underlying125,
  a80 := Tryd.isAgg125,
  z80 := Tryd.sizeOf125,
  v80 := Tryd.zeroValue125,
  i0 := by kernel_rfl,
  i2 := by kernel_rfl,
  i3 := by kernel_rfl,
  i4 := by kernel_rfl,
  i5 := by kernel_rfl,
  i9 := by kernel_rfl,
  i20 := by kernel_rfl,
  i21 := by kernel_rfl,
  i37 := by kernel_rfl,
  i46 := by kernel_rfl,
  i51 := by kernel_rfl,
  i53 := by kernel_rfl,
  i75 := by kernel_rfl,
  i76 := by kernel_rfl,
  i80 := by kernel_rfl,
  i85 := by kernel_rfl,
  i127 := by kernel_rfl,
  i143 := by kernel_rfl,
  i145 := by kernel_rfl,
  i167 := by kernel_rfl,
  i168 := by kernel_rfl,
  i171 := by kernel_rfl,
  i173 := by kernel_rfl,
  i175 := by kernel_rfl,
  i210 := by kernel_rfl,
  i212 := by kernel_rfl,
  i232 := by kernel_rfl,
  i233 := by kernel_rfl,
  m15 := by kernel_rfl,
  m16 := by kernel_rfl,
  m17 := by kernel_rfl,
  m18 := by kernel_rfl,
  m19 := by kernel_rfl,
  c0 := by kernel_rfl,
  c2 := by kernel_rfl,
  c3 := by kernel_rfl,
  c4 := by kernel_rfl,
  c5 := by kernel_rfl,
  c9 := by kernel_rfl,
  c20 := by kernel_rfl,
  c21 := by kernel_rfl,
  c37 := by kernel_rfl,
  c46 := by kernel_rfl,
  c51 := by kernel_rfl,
  c53 := by kernel_rfl,
  c75 := by kernel_rfl,
  c76 := by kernel_rfl,
  c80 := by kernel_rfl,
  c85 := by kernel_rfl,
  c127 := by kernel_rfl,
  c143 := by kernel_rfl,
  c145 := by kernel_rfl,
  c167 := by kernel_rfl,
  c168 := by kernel_rfl,
  c171 := by kernel_rfl,
  c173 := by kernel_rfl,
  c175 := by kernel_rfl,
  c210 := by kernel_rfl,
  c212 := by kernel_rfl,
  c213 := by kernel_rfl,
  c232 := by kernel_rfl,
  c233 := by kernel_rfl }
def itoaR : Ren := ⟨fun | 171 => 37 | 243 => 48 | 246 => 60 | 283 => 63 | 284 => 64 | 285 => 65 | 286 => 66 | 129 => 75 | 317 => 74 | 318 => 76 | 319 => 77 | 320 => 78 | 337 => 82 | 338 => 83 | n => n, fun | 3 => 3 | 9 => 9 | 2 => 2 | 4 => 4 | 171 => 92 | 0 => 0 | 53 => 82 | 37 => 36 | 5 => 5 | 173 => 95 | 212 => 112 | 51 => 113 | 20 => 20 | 213 => 114 | 46 => 99 | 232 => 123 | 233 => 124 | n => n, fun | 17 => 4 | 18 => 6 | 19 => 7 | n => n⟩
theorem itoaL : LaysM.n171 Tryd.prog itoaR := {
  mixed := by kernel_rfl,
  f129 := Tryd.func75.trans (congrArg some (by kernel_rfl)),
  f171 := Tryd.func37.trans (congrArg some (by kernel_rfl)),
  f243 := Tryd.func48.trans (congrArg some (by kernel_rfl)),
  f246 := Tryd.func60.trans (congrArg some (by kernel_rfl)),
  f283 := Tryd.func63.trans (congrArg some (by kernel_rfl)),
  f284 := Tryd.func64.trans (congrArg some (by kernel_rfl)),
  f285 := Tryd.func65.trans (congrArg some (by kernel_rfl)),
  f286 := Tryd.func66.trans (congrArg some (by kernel_rfl)),
  f317 := Tryd.func74.trans (congrArg some (by kernel_rfl)),
  f318 := Tryd.func76.trans (congrArg some (by kernel_rfl)),
  f319 := Tryd.func77.trans (congrArg some (by kernel_rfl)),
  f320 := Tryd.func78.trans (congrArg some (by kernel_rfl)),
  f337 := Tryd.func82.trans (congrArg some (by kernel_rfl)),
  f338 := Tryd.func83.trans (congrArg some (by kernel_rfl)),
  t0 := Tryd.underlying0,
  a0 := Tryd.isAgg0,
  z0 := Tryd.sizeOf0,
  v0 := Tryd.zeroValue0,
  t2 := Tryd.underlying2,
  a2 := Tryd.isAgg2,
  z2 := Tryd.sizeOf2,
  v2 := Tryd.zeroValue2,
  t3 := Tryd.underlying3,
  a3 := Tryd.isAgg3,
  z3 := Tryd.sizeOf3,
  v3 := Tryd.zeroValue3,
  t4 := Tryd.underlying4,
  a4 := Tryd.isAgg4,
  z4 := Tryd.sizeOf4,
  v4 := Tryd.zeroValue4,
  t5 := Tryd.underlying5,
  a5 := Tryd.isAgg5,
  z5 := Tryd.sizeOf5,
  v5 := Tryd.zeroValue5,
  t9 := Tryd.underlying9,
  a9 := Tryd.isAgg9,
  z9 := Tryd.sizeOf9,
  v9 := Tryd.zeroValue9,
  t20 := Tryd.underlying20,
  a20 := Tryd.isAgg20,
  z20 := Tryd.sizeOf20,
  v20 := Tryd.zeroValue20,
  t37 := Tryd.underlying36,
  a37 := Tryd.isAgg36,
  z37 := Tryd.sizeOf36,
  v37 := Tryd.zeroValue36,
  t46 := Tryd.underlying99,
  a46 := Tryd.isAgg99,
  z46 := Tryd.sizeOf99,
  v46 := Tryd.zeroValue99,
  t51 := Tryd.underlying113,
  a51 := Tryd.isAgg113,
  z51 := Tryd.sizeOf113,
  v51 := Tryd.zeroValue113,
  t53 := Tryd.underlying82,
  a53 := Tryd.isAgg82,
  z53 := Tryd.sizeOf82,
  v53 := Tryd.zeroValue82,
  t171 := Tryd.underlying92,
  a171 := Tryd.isAgg92,
  z171 := Tryd.sizeOf92,
  v171 := Tryd.zeroValue92,
  t173 := Tryd.underlying95,
  a173 := Tryd.isAgg95,
  z173 := Tryd.sizeOf95,
  v173 := Tryd.zeroValue95,
  t212 := Tryd.underlying112,
  a212 := Tryd.isAgg112,
  z212 := Tryd.sizeOf112,
  v212 := Tryd.zeroValue112,
  t213 := Tryd.underlying114,
  a213 := Tryd.isAgg114,
  z213 := Tryd.sizeOf114,
  t232 := Tryd.underlying123,
  a232 := Tryd.isAgg123,
  z232 := Tryd.sizeOf123,
  v232 := Tryd.zeroValue123,
  t233 := Tryd.underlying124,
  a233 := Tryd.isAgg124,
  z233 := Tryd.sizeOf124,
  v233 := Tryd.zeroValue124,
  g17 := by kernel_rfl,
  g18 := by kernel_rfl,
  g19 := by kernel_rfl,
  i0 := by kernel_rfl,
  i2 := by kernel_rfl,
  i3 := by kernel_rfl,
  i4 := by kernel_rfl,
  i5 := by kernel_rfl,
  i9 := by kernel_rfl,
  i20 := by kernel_rfl,
  i37 := by kernel_rfl,
  i46 := by kernel_rfl,
  i51 := by kernel_rfl,
  i53 := by kernel_rfl,
  i171 := by kernel_rfl,
  i173 := by kernel_rfl,
  i212 := by kernel_rfl,
  i232 := by kernel_rfl,
  i233 := by kernel_rfl,
  m17 := by kernel_rfl,
  m18 := by kernel_rfl,
  m19 := by kernel_rfl }
end Go.Proofs.YthaahcdfnmfihaaDoor
/-
  Package variables as pieces that are read; strconv.Atoi and Itoa by the shelf's contracts; which digits are a number's own.
-/
set_option maxRecDepth 100000
set_option linter.unusedSimpArgs false
set_option linter.unusedVariables false
namespace Go.Proofs.YthaahcdfnmfihaaDoor.A
open Go.RowKit

/-- A package variable's cells. -/
noncomputable def gvPc (name : String) (cs : Array Value) : Pc where
  ids := [(Tryd.prog.globalNamed name).getD 0]
  p := fun _ w => w.var? Tryd.prog name = some cs
  carry := fun K w K' w' hc hs h => by
    have h1 := hs _ List.mem_cons_self
    unfold World.var? at h ⊢
    cases hg : Tryd.prog.globalNamed name with
    | none => rw [hg] at h; cases h
    | some g =>
      rw [hg] at h h1
      simp only [Option.bind_some, Option.getD_some] at h h1 ⊢
      rw [h1]
      exact h
  lt := fun K w h k hk => by
    rw [List.mem_singleton] at hk
    subst hk
    unfold World.var? at h
    cases hg : Tryd.prog.globalNamed name with
    | none => rw [hg] at h; cases h
    | some g =>
      rw [hg] at h
      simp only [Option.bind_some, Option.getD_some] at h ⊢
      cases hb : w.heap[g]? with
      | none => rw [hb] at h; cases h
      | some o => exact heap_lt hb
noncomputable def pow10C : Array Value := (Lib.pow10Tab.map fun z => Value.int .u64 z).toArray
/-- The three that strconv reads. -/
noncomputable abbrev globs (es er : Value) : Blks := [.rdpc (gvPc "strconv.ErrSyntax" #[es]), .rdpc (gvPc "strconv.ErrRange" #[er]), .rdpc (gvPc "internal/strconv.uint64pow10" pow10C)]
def isIf (v : Value) : Prop := ∃ t u, v = .iface t u
section
variable {es er : Value} {l : Txt}
theorem mem_rds {w w' : World} {G : List Nat} (hm : Mem w (mids (globs es er)) G (globs es er) w) (hx : Ext [] w w') : Mem w (mids (globs es er)) G [] w' := ((hm.same hx).1.sub (List.nil_sublist _)).1
/-- How strconv.Atoi ends: a number and no error, or an error. -/
def AtoiR (l : Txt) (z : Int × Value) : Prop := match Lib.atoiAll l with
  | .ok v => z = (v, .nilIface)
  | _ => isIf z.2
theorem atoi_s (he : isIf es) (hr : isIf er) (hl : l.length ≤ 100000) : Spec Tryd.prog 36 [stA l] (globs es er) (fun _ : {z : Int × Value // AtoiR l z} => []) (fun z => .tup [int z.1.1, .v z.1.2]) := fun G w vals hm hv => by
  obtain ⟨_, _, rfl, h1, h2⟩ := hv
  have h1 : _ = Value.string ⟨l.toArray⟩ := h1
  have h2 : _ = [] := h2
  subst h1 h2
  have hsz : (ByteArray.mk l.toArray).size = l.length := tx_size l
  have hg1 : w.var? Tryd.prog "strconv.ErrSyntax" = some #[es] := hm.hold (.rdpc (gvPc "strconv.ErrSyntax" #[es])) (by simp)
  have hg2 : w.var? Tryd.prog "strconv.ErrRange" = some #[er] := hm.hold (.rdpc (gvPc "strconv.ErrRange" #[er])) (by simp)
  have htx : (ByteArray.mk l.toArray).data.toList = l := tx_mk l
  obtain ⟨t1, u1, rfl⟩ := he
  obtain ⟨t2, u2, rfl⟩ := hr
  cases h : Lib.atoiAll l with
  | ok v =>
    refine (Any.strconv_Atoi_ok atoiL ⟨l.toArray⟩ (by rw [hsz]; omega) v (by rw [htx]; exact h) w).mono ?_
    rintro e w' ⟨rfl, hw⟩
    have hx : Ext [] w w' := by
      rcases hw with rfl | ⟨t, rfl⟩
      · exact Ext.refl _
      · exact Ext.of_below (Lib.bytesWorld_below _ _ _)
    exact ⟨⟨(v, .nilIface), by unfold AtoiR; rw [h]⟩, _, rfl, by simp, mem_rds hm hx, ⟨[_, _], rfl, _, _, rfl, rfl, _, _, rfl, rfl, rfl⟩⟩
  | range =>
    refine (Any.strconv_Atoi_range_var atoiL ⟨l.toArray⟩ (by rw [hsz]; omega) (by rw [htx]; exact h) t2 u2 w hg2).mono ?_
    rintro e w' ⟨N, rfl, _, _, hb⟩
    exact ⟨⟨(_, _), by unfold AtoiR; rw [h]; exact ⟨_, _, rfl⟩⟩, _, rfl, by simp, mem_rds hm (Ext.of_below hb), ⟨[_, _], rfl, _, _, rfl, rfl, _, _, rfl, rfl, rfl⟩⟩
  | _ =>
    refine (Any.strconv_Atoi_syntax_var atoiL ⟨l.toArray⟩ (by rw [hsz]; omega) (by rw [htx]; exact h) t1 u1 w hg1).mono ?_
    rintro e w' ⟨N, rfl, _, _, hb⟩
    exact ⟨⟨(0, _), by unfold AtoiR; rw [h]; exact ⟨_, _, rfl⟩⟩, _, rfl, by simp, mem_rds hm (Ext.of_below hb), ⟨[_, _], rfl, _, _, rfl, rfl, _, _, rfl, rfl, rfl⟩⟩
theorem itoa_s {v : Int} (hv0 : InR .i64 v) : Spec Tryd.prog 37 [int v] (globs es er) (fun _ : Unit => []) (fun _ => stA (Lib.itoa v)) := fun G w vals hm hv => by
  obtain ⟨_, _, rfl, h1, h2⟩ := hv
  have h1 : _ = Value.int .i64 v := h1
  have h2 : _ = [] := h2
  subst h1 h2
  have hg3 : w.var? Tryd.prog "internal/strconv.uint64pow10" = some pow10C := hm.hold (.rdpc (gvPc "internal/strconv.uint64pow10" pow10C)) (by simp)
  obtain ⟨b1, b2⟩ := hv0
  simp only [lo, hi] at b1 b2
  refine (Any.strconv_Itoa itoaL v b1 b2 w hg3).mono ?_
  rintro e w' ⟨rfl, k, os, rfl⟩
  have hx : Ext [] w (Sort.grow (w.drewN k) os) := by
    refine ⟨rfl, rfl, rfl, ?_, fun j hj _ => ?_⟩
    · simp [Sort.grow, World.drewN]
    · simp only [Sort.grow, World.drewN]
      rw [Array.getElem?_append_left hj]
  exact ⟨(), _, rfl, by simp, mem_rds hm hx, rfl⟩
end
/-! ### Digits -/
theorem decD_step {u : Nat} (h : ¬ u < 10) : Lib.decDigits u = Lib.decDigits (u / 10) ++ [UInt8.ofNat (48 + u % 10)] := by
  rw [Lib.decDigits, dif_neg h]
theorem decD_one {u : Nat} (h : u < 10) : Lib.decDigits u = [UInt8.ofNat (48 + u)] := by
  rw [Lib.decDigits, dif_pos h]
theorem decD_len : ∀ (m u : Nat), 1 ≤ m → u < 10 ^ m → (Lib.decDigits u).length ≤ m
  | 0, _, h, _ => by omega
  | m + 1, u, _, h => by
    by_cases hu : u < 10
    · rw [decD_one hu]; simp
    · rw [decD_step hu, List.length_append]
      rw [Nat.pow_succ] at h
      have hm : 1 ≤ m := by
        rcases m with _ | m
        · simp at h; omega
        · omega
      have := decD_len m (u / 10) hm (by omega)
      simp only [List.length_singleton]
      omega
theorem dig_back {c : UInt8} (h : isDig c = true) : UInt8.ofNat (48 + (c.toNat - 48)) = c := by
  have h1 := of_decide_eq_true h
  rw [show 48 + (c.toNat - 48) = c.toNat by omega]
  simp
/-- A number's own digits. -/
theorem decD_own : ∀ (l : Txt), l ≠ [] → (∀ c ∈ l, isDig c = true) → ¬ (1 < l.length ∧ l.head? = some 48) → Lib.decDigits (decV l) = l := fun l => by
  induction hn : l.length generalizing l with
  | zero => intro h; exact absurd (List.length_eq_zero_iff.1 hn) h
  | succ n ih =>
    intro _ hd hz
    rcases List.eq_nil_or_concat l with rfl | ⟨l', c, rfl⟩
    · simp at hn
    · rw [List.concat_eq_append] at hn hd hz ⊢
      have hc : isDig c = true := hd c (by simp)
      have hc1 := of_decide_eq_true hc
      rw [decV_snoc]
      by_cases hl : l' = []
      · subst hl
        rw [show decV [] = 0 from rfl, Nat.zero_mul, Nat.zero_add, decD_one (by omega), dig_back hc]
        rfl
      · have hlen : l'.length = n := by rw [List.length_append] at hn; simpa using hn
        have hpos : 0 < l'.length := List.length_pos_iff.2 hl
        have hh : (l' ++ [c]).head? = l'.head? := by
          cases l' with
          | nil => exact absurd rfl hl
          | cons a r => rfl
        have hz2 : ¬ l'.head? = some 48 := fun e => hz ⟨by omega, by rw [hh]; exact e⟩
        have h1 := ih l' hlen hl (fun d hd' => hd d (by simp [hd'])) (fun e => hz2 e.2)
        have hge : 1 ≤ decV l' := by
          rcases Nat.eq_zero_or_pos (decV l') with h0 | h0
          · rw [h0, decD_one (by omega)] at h1
            rw [← h1] at hz2
            exact absurd rfl hz2
          · exact h0
        rw [decD_step (by omega), show (decV l' * 10 + (c.toNat - 48)) / 10 = decV l' by omega, show (decV l' * 10 + (c.toNat - 48)) % 10 = c.toNat - 48 by omega, h1, dig_back hc]
theorem decV_zero {l : Txt} (hd : ∀ c ∈ l, isDig c = true) (h : l.head? = some 48) : decV l < 10 ^ (l.length - 1) := by
  cases l with
  | nil => cases h
  | cons a r =>
    have ha : a = 48 := by simpa using h
    subst ha
    have h1 := decV_lt r (fun c hc => hd c (List.mem_cons_of_mem _ hc))
    have e : decV (48 :: r) = decV r := rfl
    rw [e, List.length_cons, Nat.add_sub_cancel]
    exact h1
theorem itoa_iff {l : Txt} (hd : ∀ c ∈ l, isDig c = true) (hn : l ≠ []) : Lib.itoa (decV l : Nat) = l ↔ ¬ (1 < l.length ∧ l.head? = some 48) := by
  have e : Lib.itoa (decV l : Nat) = Lib.decDigits (decV l) := by
    unfold Lib.itoa
    rw [if_neg (by omega)]
    rfl
  rw [e]
  constructor
  · rintro h ⟨h1, h2⟩
    have h3 := decD_len (l.length - 1) _ (by omega) (decV_zero hd h2)
    rw [h] at h3
    omega
  · exact decD_own l hn hd
theorem parse_digs : ∀ (l : Txt) (a : Nat), (∀ c ∈ l, isDig c = true) → (a + 1) * 10 ^ l.length ≤ 1000000 → Lib.parseUint10 a l = .ok (l.foldl (fun a c => a * 10 + (c.toNat - 48)) a)
  | [], a, _, _ => rfl
  | c :: l, a, h, hb => by
    have hc := of_decide_eq_true (h c List.mem_cons_self : isDig c = true)
    rw [List.length_cons, Nat.pow_succ] at hb
    have hpos : 0 < 10 ^ l.length := Nat.pow_pos (by omega)
    have hb2 : (a * 10 + (c.toNat - 48) + 1) * 10 ^ l.length ≤ 1000000 := by
      refine Nat.le_trans (Nat.mul_le_mul_right _ (show a * 10 + (c.toNat - 48) + 1 ≤ (a + 1) * 10 by omega)) ?_
      rw [Nat.mul_assoc, Nat.mul_comm 10]
      exact hb
    have hb3 : a * 10 + (c.toNat - 48) + 1 ≤ 1000000 := Nat.le_trans (Nat.le_mul_of_pos_right _ hpos) hb2
    rw [List.foldl_cons]
    show (if 48 ≤ c.toNat ∧ c.toNat ≤ 57 then _ else _) = _
    rw [if_pos hc, if_neg (by omega), if_neg (by omega)]
    exact parse_digs l _ (fun d hd => h d (List.mem_cons_of_mem _ hd)) hb2
theorem atoi_digs {l : Txt} (hd : ∀ c ∈ l, isDig c = true) (hn : l ≠ []) (h4 : l.length ≤ 4) : Lib.atoiAll l = .ok (decV l : Nat) := by
  cases l with
  | nil => exact absurd rfl hn
  | cons c r =>
    have hc := of_decide_eq_true (hd c List.mem_cons_self : isDig c = true)
    have hp : Lib.parseMag (c :: r) = .ok (decV (c :: r)) := by
      unfold Lib.parseMag
      rw [if_neg (by simp)]
      refine parse_digs (c :: r) 0 hd ?_
      have h10 : 10 ^ (c :: r).length ≤ 10 ^ 4 := Nat.pow_le_pow_right (by omega) h4
      omega
    have hlt := decV_lt (c :: r) hd
    have h10 : 10 ^ (c :: r).length ≤ 10 ^ 4 := Nat.pow_le_pow_right (by omega) h4
    unfold Lib.atoiAll
    simp only [show ¬ (c.toNat = 43 ∨ c.toNat = 45) by omega, if_false, hp]
    rw [if_neg (by omega), if_neg (by omega), if_neg (by omega)]
def atoiBad (l : Txt) : Bool := match Lib.atoiAll l with
  | .ok _ => false
  | _ => true
theorem atoi_bad {l : Txt} {z : Int × Value} (h : AtoiR l z) : (atoiBad l = false ∧ z.2 = .nilIface) ∨ (atoiBad l = true ∧ ∃ t u, z.2 = .iface t u) := by
  unfold AtoiR at h
  unfold atoiBad
  cases ha : Lib.atoiAll l with
  | ok v => rw [ha] at h; exact .inl ⟨rfl, by rw [h]⟩
  | range => rw [ha] at h; exact .inr ⟨rfl, h⟩
  | _ => rw [ha] at h; exact .inr ⟨rfl, h⟩
theorem digs_ne {t : Txt} (h : (digs t).length ≠ 0) : digs t ≠ [] := fun e => h (by rw [e]; rfl)
theorem bad_nil : atoiBad [] = true := by decide
theorem good_val {t : Txt} {z : Int × Value} (h : AtoiR (digs t) z) (hb : atoiBad (digs t) = false) (h4 : (digs t).length ≤ 4) : (digs t).length ≠ 0 ∧ z.1 = (decV (digs t) : Nat) := by
  have hn : (digs t).length ≠ 0 := fun h0 => by
    rw [List.length_eq_zero_iff.1 h0, bad_nil] at hb
    cases hb
  refine ⟨hn, ?_⟩
  have h1 := atoi_digs (digs_dig t) (digs_ne hn) h4
  unfold AtoiR at h
  rw [h1] at h
  rw [h]
theorem numT_bad {t : Txt} (hb : atoiBad (digs t) = true) : numT t = none := by
  unfold numT
  refine if_pos ?_
  by_cases h : (digs t).length = 0 ∨ 4 < (digs t).length
  · rcases h with h | h
    · exact .inl h
    · exact .inr (.inl h)
  · have h1 := atoi_digs (digs_dig t) (digs_ne (by omega)) (by omega)
    unfold atoiBad at hb
    rw [h1] at hb
    cases hb
theorem numT_long {t : Txt} (h : 4 < (digs t).length) : numT t = none := if_pos (.inr (.inl h))
theorem numT_own {t : Txt} (h0 : (digs t).length ≠ 0) (h4 : (digs t).length ≤ 4) (h : Lib.itoa (decV (digs t) : Nat) = digs t) : numT t = some (decV (digs t), t.drop (digs t).length) := by
  have h1 := (itoa_iff (digs_dig t) (digs_ne h0)).1 h
  refine if_neg ?_
  rintro (h2 | h2 | h2)
  · exact h0 h2
  · omega
  · exact h1 h2
theorem numT_other {t : Txt} (h0 : (digs t).length ≠ 0) (h : ¬ Lib.itoa (decV (digs t) : Nat) = digs t) : numT t = none := by
  refine if_pos (.inr (.inr ?_))
  exact Classical.byContradiction fun h2 => h ((itoa_iff (digs_dig t) (digs_ne h0)).2 h2)
/-- How many digits: up to the first that is none. -/
theorem digs_stop : ∀ {t : Txt} {k : Nat} (hk : k < t.length), (∀ j (hj : j < t.length), j < k → isDig t[j] = true) → ¬ isDig t[k] = true → (digs t).length = k
  | [], k, hk, _, _ => by simp at hk
  | c :: t, 0, _, _, h => by
    unfold digs
    rw [List.takeWhile_cons, if_neg (show ¬ isDig c = true from h)]
    rfl
  | c :: t, k + 1, hk, h, hn => by
    have hc : isDig c = true := h 0 (by simp) (by omega)
    unfold digs
    rw [List.takeWhile_cons, if_pos hc, List.length_cons]
    have := digs_stop (t := t) (k := k) (by simpa using hk) (fun j hj hjk => h (j + 1) (by simpa using hj) (by omega)) hn
    unfold digs at this
    omega
theorem digs_all : ∀ {t : Txt}, (∀ j (hj : j < t.length), isDig t[j] = true) → (digs t).length = t.length
  | [], _ => rfl
  | c :: t, h => by
    have hc : isDig c = true := h 0 (by simp)
    unfold digs
    rw [List.takeWhile_cons, if_pos hc, List.length_cons, List.length_cons]
    have := digs_all (t := t) (fun j hj => h (j + 1) (by simpa using hj))
    unfold digs at this
    omega
theorem take_digs (t : Txt) : t.take (digs t).length = digs t := by
  unfold digs
  induction t with
  | nil => rfl
  | cons c t ih =>
    rw [List.takeWhile_cons]
    split
    · rw [List.length_cons, List.take_succ_cons, ih]
    · rfl
/-- What a number's reading leaves, whether it is odd then, and its value. -/
def numL (l : Txt) : Txt := match numT (bare l) with
  | none => bare l
  | some x => x.2
def numO (l : Txt) (odd : Bool) : Bool := match numT (bare l) with
  | none => true
  | some _ => odd
def numV (l : Txt) : Int := match numT (bare l) with
  | none => 0
  | some x => (x.1 : Nat)
theorem num_none {l : Txt} (h : numT (bare l) = none) (odd : Bool) : numL l = bare l ∧ numO l odd = true ∧ numV l = 0 := by
  unfold numL numO numV
  rw [h]
  exact ⟨rfl, rfl, rfl⟩
theorem num_some {l : Txt} {v : Nat} {r : Txt} (h : numT (bare l) = some (v, r)) (odd : Bool) : numL l = r ∧ numO l odd = odd ∧ numV l = (v : Nat) := by
  unfold numL numO numV
  rw [h]
  exact ⟨rfl, rfl, rfl⟩
end Go.Proofs.YthaahcdfnmfihaaDoor.A
/-
  From a walk that reads the program's own tables to the given statement: what the row's list of package variables gives a walk; a world in which it holds; the lift.
-/
set_option maxRecDepth 100000
set_option linter.unusedSimpArgs false
set_option linter.unusedVariables false
namespace Go.Proofs.YthaahcdfnmfihaaDoor
open Go.ChangeShapes Go.WideShapes Go.ChangeAt Go.RowKit

abbrev laidL : List (String × DataW Unit) := Rows.termsReadsRow.laid
/-! ### What the list gives a walk -/
theorem arr_ints {H : Type} {enc : TypeId × Value → H} {w : World} {base : Nat} {sp : Nat → Bool} {held : Bool} {k : IntKind} {t e : TypeId} {n fuel : Nat} {cs : List Value} {zs : List Int} {p : List MemPlace}
    (ht : Tryd.prog.underlying t = some (.array n e)) (he : Tryd.prog.underlying e = some (.int k)) (hc : Tryd.prog.cellsOf e = 1) (hct : Tryd.prog.cellsOf t = n)
    (h : DataW.trod enc Tryd.prog w base sp held fuel t cs = some (.agg (zs.map fun z => .lit (.int k z)), p)) : cs = zs.map (Value.int k) := by
  obtain ⟨xs, m, rfl, hx, hlen, hn, hel⟩ := DataW.trod_array ht h
  rw [hct] at hlen
  rw [hc] at hel
  simp only [Prod.mk.injEq, DataW.agg.injEq] at hx
  have hz : zs.length = n := by have := congrArg List.length hx.1; simpa [hn] using this
  refine List.ext_getElem (by rw [hlen, List.length_map, hz]) fun i h1 h2 => ?_
  have hi : i < n := by rw [← hlen]; exact h1
  have hxi : i < xs.length := by rw [hn]; exact hi
  have h3 := hel i hi
  rw [List.getElem?_eq_getElem hxi, Nat.mul_one, List.drop_eq_getElem_cons h1, List.take_succ_cons, List.take_zero] at h3
  obtain ⟨z, e1, e2, _⟩ := DataW.trod_int he h3
  have h4 : (zs.map fun z => (DataW.lit (.int k z) : DataW H))[i]? = (xs.map (·.1))[i]? := by rw [hx.1]
  rw [List.getElem?_map, List.getElem?_map, List.getElem?_eq_getElem hxi, List.getElem?_eq_getElem (by rw [hz]; exact hi)] at h4
  simp only [Option.map_some, Option.some.injEq] at h4
  rw [e2] at h4
  have h5 : zs[i]'(by rw [hz]; exact hi) = z := by injection h4 with h4; injection h4
  rw [List.getElem_map, h5]
  exact (List.cons.inj e1).1
theorem es_star : "*" ++ "errors.errorString" = "*errors.errorString" := by decide
theorem es_row (u : TypeId) (h : Tryd.prog.typeName? 3 u = some "*errors.errorString") : u = 119 :=
  typeName_ptr_named (P := Tryd.prog) (nm := "errors.errorString") (by rw [es_star]; kernel_rfl) (by kernel_rfl) (by decide) u (by rw [es_star]; exact h)
theorem pow_sum : ∀ (x : DataW Unit), x = Rows.laid_internal_strconv_uint64pow10 → x = .agg (Lib.pow10Tab.map fun z => .lit (.int .u64 z)) := by
  rintro _ rfl
  kernel_rfl
theorem of_laid {W : World} (h : laidMetH Tryd.prog laidL W) : ∃ es er : Value, A.isIf es ∧ A.isIf er ∧ W.var? Tryd.prog "strconv.ErrSyntax" = some #[es] ∧ W.var? Tryd.prog "strconv.ErrRange" = some #[er] ∧ W.var? Tryd.prog "internal/strconv.uint64pow10" = some A.pow10C := by
  rw [MakeChecks.laidMetH_plain _ _ _ (by kernel_rfl)] at h
  have h2 := h.tail.tail
  have h4 := h2.tail.tail
  obtain ⟨a0, _, hv0, _⟩ := laid_sentinel (g := (Tryd.prog.globalNamed "strconv.ErrRange").getD 0) (ti := 64) (tp := 119) (te := 121) (ts := 9) h4 (by kernel_rfl) (by kernel_rfl) Tryd.underlying64 es_row Tryd.underlying119 Tryd.underlying121 rfl rfl Tryd.underlying9 (by kernel_rfl) (by kernel_rfl)
  obtain ⟨a1, _, hv1, _⟩ := laid_sentinel (g := (Tryd.prog.globalNamed "strconv.ErrSyntax").getD 0) (ti := 64) (tp := 119) (te := 121) (ts := 9) h4.tail (by kernel_rfl) (by kernel_rfl) Tryd.underlying64 es_row Tryd.underlying119 Tryd.underlying121 rfl rfl Tryd.underlying9 (by kernel_rfl) (by kernel_rfl)
  refine ⟨_, _, ⟨_, _, rfl⟩, ⟨_, _, rfl⟩, hv1, hv0, ?_⟩
  obtain ⟨ps, ⟨g, t, cs, f, p, q, hg, ht, hv, hd, _, _⟩, _, _⟩ := h2
  obtain rfl := Option.some.inj ((show Tryd.prog.globalNamed "internal/strconv.uint64pow10" = some ((Tryd.prog.globalNamed "internal/strconv.uint64pow10").getD 0) by kernel_rfl).symm.trans hg)
  obtain rfl := Option.some.inj ((show (Tryd.prog.globals[(Tryd.prog.globalNamed "internal/strconv.uint64pow10").getD 0]?).map (·.type) = some 112 by kernel_rfl).symm.trans ht)
  rw [pow_sum _ rfl] at hd
  have := arr_ints Tryd.underlying112 Tryd.underlying82 (by kernel_rfl) (by kernel_rfl) hd
  rw [hv]
  refine congrArg some (Array.toList_inj.1 ?_)
  rw [this]
  show _ = (List.map _ _).toArray.toList
  rw [List.toList_toArray]
/-! ### A world in which it holds -/
theorem laid_met (os : Os) (args : Array Value) : laidMetH Tryd.prog laidL ((World.laidAll Tryd.prog os laidL).forCall (fun _ _ => 0) ⟨#[], args, []⟩).memory := by
  rw [MakeChecks.laidMetH_plain _ _ _ (by kernel_rfl)]
  exact laidMet_laidAll args (by kernel_rfl) (by kernel_rfl)
/-! ### The walk, as a call -/
namespace A
theorem var_lt {w : World} {n : String} {cs : Array Value} (h : w.var? Tryd.prog n = some cs) : (Tryd.prog.globalNamed n).getD 0 < w.heap.size := by
  unfold World.var? at h
  cases hg : Tryd.prog.globalNamed n with
  | none => rw [hg] at h; cases h
  | some g =>
    rw [hg] at h
    simp only [Option.bind_some, Option.getD_some] at h ⊢
    rcases Nat.lt_or_ge g w.heap.size with h1 | h1
    · exact h1
    · rw [Array.getElem?_eq_none h1] at h; cases h
theorem law_ofG {f : FuncId} {args : List Abs} {es er : Value} (h : Spec Tryd.prog f args (globs es er) (fun _ : Unit => []) (fun _ => boo true)) {w : World} {vals : List Value} (hv : reps (mids (globs es er) ++ [(Tryd.prog.globalNamed "strconv.ErrSyntax").getD 0, (Tryd.prog.globalNamed "strconv.ErrRange").getD 0, (Tryd.prog.globalNamed "internal/strconv.uint64pow10").getD 0]) w args vals)
    (h1 : w.var? Tryd.prog "strconv.ErrSyntax" = some #[es]) (h2 : w.var? Tryd.prog "strconv.ErrRange" = some #[er]) (h3 : w.var? Tryd.prog "internal/strconv.uint64pow10" = some pow10C) : Calls Tryd.prog f vals.toArray w fun e w' => e = .returned (.bool true) ∧ Ext [] w w' := by
  have hm : Mem w (mids (globs es er)) [(Tryd.prog.globalNamed "strconv.ErrSyntax").getD 0, (Tryd.prog.globalNamed "strconv.ErrRange").getD 0, (Tryd.prog.globalNamed "internal/strconv.uint64pow10").getD 0] (globs es er) w := by
    refine ⟨Ext.refl w, by simp [mids, It.mids], by simp [mids, It.mids], ?_, ?_, by simp [mids, It.mids], ?_⟩
    · intro k hk
      simp only [List.mem_cons, List.not_mem_nil, or_false] at hk
      rcases hk with rfl | rfl | rfl
      · exact var_lt h1
      · exact var_lt h2
      · exact var_lt h3
    · intro x hx k hk
      simp only [globs, List.mem_cons, List.not_mem_nil, or_false] at hx
      rcases hx with rfl | rfl | rfl <;> (simp only [It.rids, gvPc, List.mem_singleton] at hk; simp [hk])
    · intro x hx
      simp only [globs, List.mem_cons, List.not_mem_nil, or_false] at hx
      rcases hx with rfl | rfl | rfl
      · exact h1
      · exact h2
      · exact h3
  refine (h _ w vals hm hv).mono fun e w' ⟨z, r, he, _, h1, h2⟩ => ⟨?_, h1.ext⟩
  have h2 : r = .bool true := h2
  rw [he, h2]
end A
/-! ### The lift -/
theorem law_liftD {H : Type} {enc : TypeId × Value → H} {os : Os} (started : os.Started) {f : FuncId} {fn : Func} {s : ChangeSpec}
    (noInit : Tryd.prog.inits.idxOf? f = none) (hfn : Tryd.prog.funcs[f]? = some fn) (hvars : s.vars = []) (hres : fn.resultTypes = #[4])
    (hparB : (fn.params.toList.all fun t => Tryd.prog.readableRec t && decide (t < Tryd.prog.types.size)) = true)
    (hspec : ∀ ds : List (DataW H), ds.length = fn.params.size → s.fn H (ds ++ []) = { results := [.lit (.bool true)], args := ds })
    (wit : ∃ (w : World) (tape : Tape) (i : Input), w.os = os ∧ (w.forCall tape i).Shaped Tryd.prog ∧ i.vars = [] ∧ Input.okWide Tryd.prog (w.forCall tape i) .any w.heap.size f i ∧
      ((s.pre enc Tryd.prog fn [] false (w.forCall tape i).memory i.args ∧ laidMetH Tryd.prog laidL (w.forCall tape i).memory) ∧ sizedMet enc Tryd.prog fn (OpenSpec.ofChange s) false (w.forCall tape i).memory i.args) ∧ Assume.holds {} Tryd.prog (lone (Frame.enter Tryd.prog f i.args .normal) [] (w.forCall tape i)))
    (walk : ∀ (W : World) (base : Nat) (args : Array Value) (ds : List (DataW H)) (p : List MemPlace),
      (∀ (j : Nat) t v, fn.params[j]? = some t → args[j]? = some v → Value.okWide Tryd.prog W .any base t v) →
      DataW.TrodAll enc Tryd.prog W 0 (fun _ => true) true fn.params.toList args.toList ds p →
      laidMetH Tryd.prog laidL W →
      Calls Tryd.prog f args W fun e W' => e = .returned (.bool true) ∧ Ext [] W W') :
    ReturnsInHanded {} Tryd.checked os f .any (fun w args => (s.pre enc Tryd.prog fn [] false w args ∧ laidMetH Tryd.prog laidL w) ∧ sizedMet enc Tryd.prog fn (OpenSpec.ofChange s) false w args) (s.post enc Tryd.prog fn false true false false) := by
  have hpar : ∀ t ∈ fn.params.toList, Tryd.prog.readableRec t = true ∧ t < Tryd.prog.types.size := by
    simpa only [List.all_eq_true, Bool.and_eq_true, decide_eq_true_eq] using hparB
  refine returnsInHanded_of_change_and (C := Tryd.checked) (X := fun w _ => laidMetH Tryd.prog laidL w) (fun _ _ _ hh h => h.of_heap hh) law_own started noInit hfn wit ?_
  intro W base args ds gs before hval0 hW hcnd hsz hL _
  have hval : ∀ (j : Nat) t v, fn.params[j]? = some t → args[j]? = some v → Value.okWide Tryd.prog W .any base t v := hval0
  have hW' := hW
  obtain ⟨p, q, hA0, hV, rfl, hfz, hnd⟩ := hW
  have hA : DataW.TrodAll enc Tryd.prog W 0 (fun _ => true) true fn.params.toList args.toList ds p := hA0
  rw [hvars] at hV
  obtain ⟨rfl, rfl⟩ := trodVars_none hV
  refine (walk W base args ds p hval hA hL).mono fun e W' ⟨he, bel⟩ => ?_
  subst he
  have hlen : ds.length = fn.params.size := by
    have : ∀ (ts : List TypeId) (vs : List Value) (ds : List (DataW H)) (p : List MemPlace), DataW.TrodAll enc Tryd.prog W 0 (fun _ => true) true ts vs ds p → ds.length = ts.length := by
      intro ts
      induction ts with
      | nil => intro vs ds p h; cases vs <;> cases ds <;> first | rfl | exact h.elim
      | cons t ts ih =>
        intro vs ds p h
        cases vs with
        | nil => exact h.elim
        | cons v vs =>
          cases ds with
          | nil => exact h.elim
          | cons d ds => obtain ⟨p0, q0, _, h1, _⟩ := h; simp [ih vs ds q0 h1]
    simpa using this _ _ _ _ hA
  obtain ⟨pa, hpa⟩ := trodAll_below (enc := enc) bel.below fn.params.toList args.toList ds p hpar hA
  refine ⟨_, rfl, ds, [], p ++ [], [], pa, [], hW', ?_, ?_, ?_, bel.below.frame _, fun h => by cases h⟩
  · rw [hspec ds hlen, hres]
    exact trodAll_mk1 (shut_bool Tryd.underlying4 _)
  · rw [hspec ds hlen]; exact hpa
  · rw [hspec ds hlen, hvars]; rfl
end Go.Proofs.YthaahcdfnmfihaaDoor
/-
  Arguments that are policies, as trees (no requests beside them).
-/
set_option maxRecDepth 100000
set_option linter.unusedSimpArgs false
set_option linter.unusedVariables false
namespace Go.Proofs.YthaahcdfnmfihaaDoor
open Go.RowKit Go.ChangeShapes Go.WideShapes Go.ChangeAt
section
variable {H : Type} {enc : TypeId × Value → H} {P : Program} {w : World} {base : Nat} {spare : Nat → Bool} {held : Bool}
/-- A slice that came in: its row, element by element, each with its datum. -/
theorem open_rowD {t e : TypeId} {fuel : Nat} {A : Option Addr} {n c : Nat} {x : DataW H × List MemPlace} (ht : P.underlying t = some (.slice e)) (h : DataW.trod enc P w base spare held fuel t [.slice A n c] = some x) :
    n ≤ c ∧ c ≤ maxLen ∧ ∃ (F : Nat → List Value) (D : Nat → DataW H), (∀ i, i < n → (F i).length = P.cellsOf e ∧ ∃ m pl, DataW.trod enc P w base spare held m e (F i) = some (D i, pl)) ∧ Rows.uptoBulkAll ((List.range n).map D) + 1 ≤ Rows.uptoBulk x.1 ∧
      (((List.range n).map F).flatten ≠ [] → ∃ b off : Nat, A = some ⟨b, off, none⟩ ∧ ∀ j u, ((List.range n).map F).flatten[j]? = some u → w.cell? ⟨b, off + j, none⟩ = some u) := by
  rcases Deep.open_slice ht h with ⟨hcs, hx⟩ | ⟨a, len, cap, m, n', D, Pl, hcs, _, hl, hm, hmm, hx, hi⟩
  · simp at hcs
    obtain ⟨rfl, rfl, rfl⟩ := hcs
    subst hx
    exact ⟨Nat.le_refl _, Nat.zero_le _, fun _ => [], fun _ => .nil, fun i h => by omega, by simp [Rows.uptoBulkAll, Rows.uptoBulk], by simp⟩
  · simp at hcs
    obtain ⟨rfl, rfl, rfl⟩ := hcs
    have hnm : n ≤ m := by rw [hmm]; split <;> omega
    subst hx
    refine ⟨hl, hm, fun i => ((w.cells? base (a.add (i * P.cellsOf e)) (P.cellsOf e)).getD []), D, ?_, by simp only [Rows.uptoBulk]; omega, ?_⟩
    · intro i hin
      obtain ⟨cs', h1, h2⟩ := hi i (by omega)
      simp only [h1, Option.getD_some]
      exact ⟨(World.cells?_some h1).2.1, n', _, h2⟩
    · intro hne
      have hall : ∀ y ∈ (List.range n).map (fun i => ((w.cells? base (a.add (i * P.cellsOf e)) (P.cellsOf e)).getD [])), y.length = P.cellsOf e := by
        intro y hy
        simp only [List.mem_map, List.mem_range] at hy
        obtain ⟨i, hin, rfl⟩ := hy
        obtain ⟨cs', h1, _⟩ := hi i (by omega)
        rw [h1]
        exact (World.cells?_some h1).2.1
      have hlen0 := flatten_length _ hall
      have hpos : 0 < n * P.cellsOf e := by
        rcases Nat.eq_zero_or_pos (n * P.cellsOf e) with h0 | h0
        · exfalso
          apply hne
          apply List.eq_nil_of_length_eq_zero
          rw [hlen0]
          simpa using h0
        · exact h0
      have hsz : 0 < P.cellsOf e := Nat.pos_of_mul_pos_left hpos
      have hn0 : 0 < n := Nat.pos_of_mul_pos_right hpos
      obtain ⟨b, off, spot⟩ := a
      have hs : spot = none := by
        obtain ⟨cs', h1, _⟩ := hi 0 (by omega)
        obtain ⟨_, hl1, hc1⟩ := World.cells?_some h1
        have h2 := hc1 0 hsz
        have h3 : ((⟨b, off, spot⟩ : Addr).add (0 * P.cellsOf e)).add 0 = ⟨b, off, spot⟩ := by simp [Addr.add]
        rw [h3, List.getElem?_eq_getElem (by omega)] at h2
        exact spot_none h2
      subst hs
      refine ⟨b, off, rfl, fun j u hu => ?_⟩
      rw [flatten_get hsz _ hall] at hu
      simp only [Option.bind_eq_some_iff, List.getElem?_map, Option.map_eq_some_iff] at hu
      obtain ⟨y, ⟨i, hir, rfl⟩, hy⟩ := hu
      have hrl := List.getElem?_eq_some_iff.1 hir
      obtain ⟨hir1, hir2⟩ := hrl
      simp at hir1 hir2
      subst hir2
      obtain ⟨cs', h1, _⟩ := hi (j / P.cellsOf e) (by omega)
      rw [h1] at hy
      simp only [Option.getD_some] at hy
      obtain ⟨_, hl1, hc1⟩ := World.cells?_some h1
      have h2 := hc1 (j % P.cellsOf e) (Nat.mod_lt _ hsz)
      rw [add_eq, add_eq, hy] at h2
      have hjd := Nat.div_add_mod j (P.cellsOf e)
      rw [show off + j = off + j / P.cellsOf e * P.cellsOf e + j % P.cellsOf e by rw [Nat.mul_comm (j / P.cellsOf e)]; omega]
      exact h2
end
namespace A
theorem reps_frms {w : World} {n : Nat} {F : Nat → List Value} {H : Type} {D : Nat → DataW H} : ∀ {L : List Nat}, (∀ i ∈ L, (F i).length = 3 ∧ ∃ f : Frm, reps [] w f.abs (F i) ∧ f.nodes ≤ Rows.uptoBulk (D i)) → ∃ ks : List Frm, repss [] w 3 (ks.map Frm.abs) (L.map F).flatten ∧ ks.length = L.length ∧ Frm.nodess ks ≤ Rows.uptoBulkAll (L.map D)
  | [], _ => ⟨[], rfl, rfl, by simp [Frm.nodess]⟩
  | i :: L, h => by
    obtain ⟨h1, f, h2, h3⟩ := h i List.mem_cons_self
    obtain ⟨ks, h4, h5, h6⟩ := reps_frms (n := n) (F := F) (D := D) (L := L) fun c hc => h c (List.mem_cons_of_mem _ hc)
    exact ⟨f :: ks, ⟨_, _, rfl, h1, h2, h4⟩, by simp [h5], by simp only [Frm.nodess, List.map_cons, Rows.uptoBulkAll]; omega⟩
section
variable {H : Type} {enc : TypeId × Value → H} {w : World} {base : Nat} {spare : Nat → Bool} {held : Bool}
theorem bulk_mem {d : DataW H} : ∀ {ds : List (DataW H)}, d ∈ ds → Rows.uptoBulk d ≤ Rows.uptoBulkAll ds
  | x :: ds, h => by
    rcases List.mem_cons.1 h with rfl | h
    · simp only [Rows.uptoBulkAll]; omega
    · have := bulk_mem h; simp only [Rows.uptoBulkAll]; omega
/-- A policy that came in: a tree of no more nodes than the reading's bulk. -/
theorem open_frmN : ∀ (N : Nat) {fuel : Nat} {cs : List Value} {x : DataW H × List MemPlace}, Rows.uptoBulk x.1 ≤ N → cs.length = 3 → DataW.trod enc Tryd.prog w base spare held fuel 25 cs = some x → ∃ f : Frm, reps [] w f.abs cs ∧ f.nodes ≤ Rows.uptoBulk x.1
  | 0, fuel, cs, x, hb, hl, h => by
    obtain ⟨xs, n, rfl, rfl, _⟩ := DataW.trod_struct Tryd.underlying25 h
    simp [Rows.uptoBulk] at hb
  | N + 1, fuel, cs, x, hb, hl, h => by
    obtain ⟨xs, n, rfl, rfl, _, hsz, hf⟩ := DataW.trod_struct Tryd.underlying25 h
    match cs, hl, xs, hsz with
    | [v0, v1, v2], _, [x0, x1, x2], _ =>
      have c1 : Tryd.prog.cellsOf 3 = 1 := by kernel_rfl
      have c2 : Tryd.prog.cellsOf 23 = 1 := by kernel_rfl
      have h0 : DataW.trod enc Tryd.prog w base spare held n 3 (List.take (Tryd.prog.cellsOf 3) [v0, v1, v2]) = some x0 := hf 0 _ rfl
      rw [c1] at h0
      replace h0 : DataW.trod enc Tryd.prog w base spare held n 3 [v0] = some x0 := h0
      have h1 : DataW.trod enc Tryd.prog w base spare held n 3 (List.take (Tryd.prog.cellsOf 3) [v1, v2]) = some x1 := hf 1 _ rfl
      rw [c1] at h1
      replace h1 : DataW.trod enc Tryd.prog w base spare held n 3 [v1] = some x1 := h1
      have h2 : DataW.trod enc Tryd.prog w base spare held n 23 (List.take (Tryd.prog.cellsOf 23) [v2]) = some x2 := hf 2 _ rfl
      rw [c2] at h2
      replace h2 : DataW.trod enc Tryd.prog w base spare held n 23 [v2] = some x2 := h2
      obtain ⟨n0, rfl, _⟩ := (show LeafAt enc Tryd.prog w base spare held 3 v0 from ⟨_, _, h0⟩).int Tryd.underlying3
      obtain ⟨n1, rfl, _⟩ := (show LeafAt enc Tryd.prog w base spare held 3 v1 from ⟨_, _, h1⟩).int Tryd.underlying3
      obtain ⟨A0, m, c, rfl⟩ : ∃ A n c, v2 = .slice A n c := by
        rcases Deep.open_slice Tryd.underlying23 h2 with ⟨hcs, _⟩ | ⟨a, len, cap, m, n', D, Pl, hcs, _⟩
        · simp at hcs; exact ⟨_, _, _, hcs⟩
        · simp at hcs; exact ⟨_, _, _, hcs⟩
      obtain ⟨k1, k2, F, D, k3, k4, k5⟩ := open_rowD Tryd.underlying23 h2
      simp only [List.map_cons, List.map_nil, Rows.uptoBulk, Rows.uptoBulkAll] at hb ⊢
      have e3 : Tryd.prog.cellsOf 25 = 3 := by kernel_rfl
      obtain ⟨ks, k6, k7, k8⟩ := reps_frms (w := w) (n := m) (F := F) (D := D) (L := List.range m) fun i hi => by
        obtain ⟨q1, mm, pl, q2⟩ := k3 i (List.mem_range.1 hi)
        have q3 : Rows.uptoBulk (D i) ≤ Rows.uptoBulkAll ((List.range m).map D) := bulk_mem (List.mem_map.2 ⟨i, hi, rfl⟩)
        rw [e3] at q1
        exact ⟨q1, open_frmN N (x := (D i, pl)) (by show Rows.uptoBulk (D i) ≤ N; omega) q1 q2⟩
      rw [List.length_range] at k7
      refine ⟨.mk n0 n1 ks, ?_, by rw [Frm.nodes_mk]; omega⟩
      rw [Frm.abs_mk]
      refine ⟨_, _, rfl, rfl, _, _, rfl, rfl, _, _, rfl, ?_, rfl⟩
      refine ⟨((List.range m).map F).flatten, ⟨⟨A0, c, ?_, ?_, k2, open_none Tryd.underlying23 h2⟩, fun hn => ?_⟩, k6⟩
      · rw [List.length_map, k7]
      · rw [List.length_map, k7]; exact k1
      · obtain ⟨b, off, rfl, hc⟩ := k5 hn
        exact ⟨b, off, _, _, rfl, by simp, hc⟩
theorem open_frm {cs : List Value} {fuel : Nat} {x : DataW H × List MemPlace} (hl : cs.length = Tryd.prog.cellsOf 25) (h : DataW.trod enc Tryd.prog w base spare held fuel 25 cs = some x) : ∃ f : Frm, reps [] w f.abs cs ∧ f.nodes ≤ Rows.uptoBulk x.1 :=
  open_frmN _ (Nat.le_refl _) (by rw [hl]; kernel_rfl) h
end
end A
end Go.Proofs.YthaahcdfnmfihaaDoor
/-
  What came in lies apart from the program's own tables: their cells are of other kinds.
-/
set_option maxRecDepth 100000
set_option linter.unusedSimpArgs false
set_option linter.unusedVariables false
namespace Go.Proofs.YthaahcdfnmfihaaDoor.A
open Go.RowKit

/-- No cell of these blocks is a number of that kind. -/
def Other (k : IntKind) (G : List Nat) (w : World) : Prop := ∀ g ∈ G, ∀ (off : Nat) (i : Int), w.cell? ⟨g, off, none⟩ ≠ some (.int k i)
section
variable {G : List Nat} {w : World} {k : IntKind}
theorem _root_.Go.Proofs.YthaahcdfnmfihaaDoor.IsRow.into {v : Value} {n : Nat} {cs : List Value} (h : IsRow [] w v n cs) (hG : Other k G w) (h0 : cs ≠ [] → ∃ i, cs[0]? = some (.int k i)) : IsRow G w v n cs := by
  refine ⟨h.shape, fun hn => ?_⟩
  obtain ⟨b, off, n', c, hv, _, hc⟩ := h.cells hn
  obtain ⟨i, hi⟩ := h0 hn
  exact ⟨b, off, n', c, hv, fun hb => hG b hb (off + 0) i (hc 0 _ hi), hc⟩
theorem kids_keep : ∀ {ks : List Frm} {us : List Value}, (∀ x ∈ ks, ∀ cs, reps [] w x.abs cs → reps G w x.abs cs) → repss [] w 3 (ks.map Frm.abs) us → repss G w 3 (ks.map Frm.abs) us ∧ (us ≠ [] → ∃ i, us[0]? = some (.int .i64 i))
  | [], us, _, h => ⟨h, fun hn => absurd h hn⟩
  | x :: ks, _, ih, ⟨u1, u2, rfl, h1, h2, h3⟩ => by
    have h4 := kids_keep (ks := ks) (fun y hy => ih y (List.mem_cons_of_mem _ hy)) h3
    have h5 := ih x List.mem_cons_self u1 h2
    refine ⟨⟨u1, u2, rfl, h1, h5, h4.1⟩, fun _ => ?_⟩
    obtain ⟨o, a, l⟩ := x
    rw [Frm.abs_mk] at h2
    obtain ⟨y, us', rfl, hy, _⟩ := h2
    have hy : y = .int .i64 o := hy
    exact ⟨o, by rw [hy]; rfl⟩
theorem frm_keep (hG : Other .i64 G w) (f : Frm) : ∀ cs, reps [] w f.abs cs → reps G w f.abs cs := Frm.ind (p := fun f => ∀ cs, reps [] w f.abs cs → reps G w f.abs cs) (fun o a ks ih cs h => by
  rw [Frm.abs_mk] at h ⊢
  obtain ⟨x0, _, rfl, h0, x1, _, rfl, h1, x2, _, rfl, ⟨us, hr, hp⟩, h3⟩ := h
  obtain ⟨q1, q2⟩ := kids_keep ih hp
  exact ⟨x0, _, rfl, h0, x1, _, rfl, h1, x2, _, rfl, ⟨us, hr.into hG q2, q1⟩, h3⟩) f
theorem byt_keep (hG : Other .u8 G w) {l : List UInt8} {v : Value} (h : rep [] w (byt l) v) : rep G w (byt l) v :=
  rep_byt.2 ((rep_byt.1 h).into hG fun hn => by
    cases l with
    | nil => exact absurd rfl hn
    | cons c l => exact ⟨_, rfl⟩)
theorem other_var {n : String} {cs : Array Value} (h : w.var? Tryd.prog n = some cs) (hc : ∀ (i : Nat) v, cs[i]? = some v → ∀ z, v ≠ .int k z) (off : Nat) (i : Int) : w.cell? ⟨(Tryd.prog.globalNamed n).getD 0, off, none⟩ ≠ some (.int k i) := by
  intro h2
  cases hg : Tryd.prog.globalNamed n with
  | none => unfold World.var? at h; rw [hg] at h; cases h
  | some g =>
    rw [hg] at h2
    have h3 := World.var?_cell hg h off
    have h4 : w.cell? ⟨g, off, none⟩ = some (.int k i) := h2
    rw [h4] at h3
    exact hc off _ h3.symm i rfl
theorem other_one {e : Value} (he : isIf e) (i : Nat) (v : Value) (h : (#[e] : Array Value)[i]? = some v) (z : Int) : v ≠ .int k z := by
  obtain ⟨t, u, rfl⟩ := he
  rintro rfl
  cases i with
  | zero => simp at h
  | succ i => simp at h
theorem other_globs (hk : k ≠ .u64) {es er : Value} (he : isIf es) (hr : isIf er) (h1 : w.var? Tryd.prog "strconv.ErrSyntax" = some #[es]) (h2 : w.var? Tryd.prog "strconv.ErrRange" = some #[er]) (h3 : w.var? Tryd.prog "internal/strconv.uint64pow10" = some pow10C) :
    Other k (mids (globs es er) ++ [(Tryd.prog.globalNamed "strconv.ErrSyntax").getD 0, (Tryd.prog.globalNamed "strconv.ErrRange").getD 0, (Tryd.prog.globalNamed "internal/strconv.uint64pow10").getD 0]) w := by
  intro g hg off i
  have hg : g ∈ [(Tryd.prog.globalNamed "strconv.ErrSyntax").getD 0, (Tryd.prog.globalNamed "strconv.ErrRange").getD 0, (Tryd.prog.globalNamed "internal/strconv.uint64pow10").getD 0] := hg
  simp only [List.mem_cons, List.not_mem_nil, or_false] at hg
  rcases hg with rfl | rfl | rfl
  · exact other_var h1 (fun i v h => other_one he i v h) off i
  · exact other_var h2 (fun i v h => other_one hr i v h) off i
  · refine other_var h3 (fun i v h z => ?_) off i
    rintro rfl
    unfold pow10C at h
    rw [List.getElem?_toArray, List.getElem?_map] at h
    cases hq : Lib.pow10Tab[i]? with
    | none => rw [hq] at h; cases h
    | some x =>
      rw [hq] at h
      simp only [Option.map_some, Option.some.injEq] at h
      injection h with h4
      exact hk h4.symm
end
end Go.Proofs.YthaahcdfnmfihaaDoor.A
/-
  Policies' texts: numbers, read by the program.
-/
set_option maxRecDepth 100000
set_option linter.unusedSimpArgs false
set_option linter.unusedVariables false
namespace Go.Proofs.YthaahcdfnmfihaaDoor.A
open Go.RowKit

section
variable {l wd : Txt} {odd : Bool} {p : Nat} {es er : Value}
set_option maxHeartbeats 4000000 in
theorem number_s (he : isIf es) (hr : isIf er) (hl : l.length ≤ 100000) : Spec Tryd.prog 26 [ptr p] (.blk p 40 (psA (l) odd) :: globs es er) (fun _ : Unit => [.blk p 40 (psA (numL l) (numO l odd))]) (fun _ => int (numV l)) := by
  have hbl := bare_len l
  have hdl := digs_len (bare l)
  refine spec_of Tryd.func26 rfl Tryd.ntmps26 rfl fun G w => ?_
  refine SC.seq (SC.region ?_)
  refine SL.val (Val.assign rfl) rfl rfl ?_
  refine SL.nil (SE.seq ?_)
  refine SC.seq (SC.region ?_)
  refine SL.val (Val.move rfl) rfl rfl ?_
  refine SL.call (blanks_s (p := p) (l := l) (odd := odd)) Casts.refl (by kernel_rfl) rfl rfl rfl ?_
  refine After.one rfl (by repeat first|assumption|exact m0|apply m1) (fun _ => rfl) ?_
  intro _
  refine ⟨_, (by repeat first|assumption|exact Upd.here|apply Upd.there), ?_⟩
  refine SL.nil (SE.seq ?_)
  refine SC.seq (SC.region ?_)
  refine SL.val (Val.move rfl) rfl rfl ?_
  refine SL.val (Val.nilCheck rfl) rfl rfl ?_
  refine SL.val (Val.fieldAddr tabOk rfl rfl rfl rfl rfl) rfl rfl ?_
  refine SL.val (Val.load1 tabOk rfl rfl (by first|(apply Or.inl;(repeat first|assumption|exact m0|apply m1);done)|(apply Or.inr;(repeat first|assumption|exact m0|apply m1);done)) List.not_mem_nil (by rfl)) rfl rfl ?_
  refine SL.val (Val.to (C := int (((bare l).length : Nat) : Int)) (Val.lenSt rfl Tryd.underlying9) rfl) rfl rfl ?_
  refine SL.val (Val.assign rfl) rfl rfl ?_
  refine SL.nil (SE.seq ?_)
  refine SC.cutS (ι := Unit) (fun z => (.blk p 40 (psA (bare l) odd) :: globs es er)) (fun z => [(0, ptr p), (3, int ((digs (bare l)).length : Nat))]) (fun z => True) ?_ ?_
  · skip
    refine SC.seq (SC.region ?_)
    refine SL.val (Val.move rfl) rfl rfl ?_
    refine SL.val (Val.nilCheck rfl) rfl rfl ?_
    refine SL.val (Val.fieldAddr tabOk rfl rfl rfl rfl rfl) rfl rfl ?_
    refine SL.val (Val.load1 tabOk rfl rfl (by first|(apply Or.inl;(repeat first|assumption|exact m0|apply m1);done)|(apply Or.inr;(repeat first|assumption|exact m0|apply m1);done)) List.not_mem_nil (by rfl)) rfl rfl ?_
    refine SL.eff (Eff.rangeStr rfl Tryd.underlying9) rfl rfl ?_
    rintro _ _ ⟨b20, rfl, rfl⟩
    refine SL.nil (SE.seq ?_)
    refine SC.block ?_
    refine SC.loop (ι := Nat) (fun z => .pc (iterPc b20 ⟨(bare l).toArray⟩ z) :: (.blk p 40 (psA (bare l) odd) :: globs es er)) (fun z => [(0, ptr p), (3, int ((bare l).length : Nat)), (20, ptr b20)]) (fun z => z ≤ (bare l).length ∧ ∀ j (hj : j < (bare l).length), j < z → isDig (bare l)[j] = true) (fun z => (bare l).length - z) (0) (⟨Nat.zero_le _, fun j _ h => absurd h (by omega)⟩) (by exact ⟨rfl, rfl, rfl, trivial⟩) (by repeat first|exact s0 _|exact s1 _|apply s2|apply s3) ?_
    intro z hz
    refine SC.seq (SC.region ?_)
    refine SL.nextStr rfl (by repeat first|assumption|exact m0|apply m1) rfl rfl ?_ ?_
    rotate_left
    · intro hnx
      refine SL.val (Val.extract rfl rfl) rfl rfl ?_
      refine SL.nil (SE.seq ?_)
      refine SC.seq ?_
      refine SC.condF rfl ?_
      refine SC.exit ?_
      refine SE.then_ (by intro h; cases h) ?_
      refine SE.then_ (by intro h; cases h) ?_
      refine SE.exit ?_
      have hdz := digs_all (t := bare l) fun j hj => hz.2 j hj (by have h9 : ¬ z < (bare l).length := hnx; omega)
      refine SE.meet (()) (trivial) (by exact ⟨rfl, congrArg (fun k : Nat => some (int (k : Nat))) hdz.symm, trivial⟩) (by repeat first|exact s0 _|exact s1 _|apply s2|apply s3)
    intro hnx
    refine ⟨_, (by repeat first|assumption|exact Upd.here|apply Upd.there), ?_⟩
    have hd := decode_high ⟨(bare l).toArray⟩ z hnx
    have hz1 : z < (bare l).length := hnx
    have hb8 := ((bare l)[z]'hz1).toNat_lt
    have e1 : ((bare l)[z]'hz1).toNat < 128 → Utf8.decode (ByteArray.mk (bare l).toArray) z = (((bare l)[z]'hz1).toNat, 1) := fun h => decode_ascii ⟨(bare l).toArray⟩ z hnx h
    refine SL.val (Val.extract rfl rfl) rfl rfl ?_
    refine SL.nil (SE.seq ?_)
    refine SC.seq ?_
    refine SC.condT rfl ?_
    refine SC.skip ?_
    refine SE.seq ?_
    refine SC.block ?_
    refine SC.seq (SC.region ?_)
    refine SL.val (Val.extract rfl rfl) rfl rfl ?_
    refine SL.val (Val.extract rfl rfl) rfl rfl ?_
    refine SL.val (Val.assign rfl) rfl rfl ?_
    refine SL.val (Val.assign rfl) rfl rfl ?_
    refine SL.nil (SE.seq ?_)
    refine SC.seq (SC.region ?_)
    refine SL.val (Val.move rfl) rfl rfl ?_
    refine SL.val (Val.ltI rfl rfl) rfl rfl ?_
    refine SL.val (Val.move rfl) rfl rfl ?_
    refine SL.bothP (t := 27) rfl ?_ ?_
    · intro hc27
      iterate 2 refine SL.skip rfl rfl ?_
      refine SL.val (Val.pickT rfl rfl) rfl rfl ?_
      refine SL.nil (SE.seq ?_)
      refine SC.condT rfl ?_
      refine SC.seq (SC.region ?_)
      refine SL.val (Val.move rfl) rfl rfl ?_
      refine SL.val (Val.assign rfl) rfl rfl ?_
      refine SL.nil (SE.seq ?_)
      refine SC.exit ?_
      refine SE.exit_ rfl ?_
      refine SE.then_ (by intro h; cases h) ?_
      refine SE.exit ?_
      have hdn : ¬ isDig ((bare l)[z]'hz1) = true := by
        intro hdd
        have h3 := of_decide_eq_true (show decide (48 ≤ ((bare l)[z]'hz1).toNat ∧ ((bare l)[z]'hz1).toNat ≤ 57) = true from hdd)
        have e2 := e1 (by omega)
        first
          | (rw [e2] at hc27; dsimp only at hc27; omega)
          | (rw [e2] at hc30; dsimp only at hc30; omega)
      have hdz := digs_stop hz1 hz.2 hdn
      refine SE.meet (()) (trivial) (by exact ⟨rfl, congrArg (fun k : Nat => some (int (k : Nat))) hdz.symm, trivial⟩) (by repeat first|exact s0 _|exact s1 _|apply s2|apply s3)
    intro hc27
    refine SL.val (Val.move rfl) rfl rfl ?_
    refine SL.val (Val.gtI rfl rfl) rfl rfl ?_
    refine SL.val (Val.pickF rfl rfl) rfl rfl ?_
    refine SL.nil (SE.seq ?_)
    refine SC.condP rfl ?_ ?_
    rotate_left
    · intro hc30
      refine SC.skip ?_
      refine SE.inBlock ?_
      have h128 : ((bare l)[z]'hz1).toNat < 128 := by
        rcases Nat.lt_or_ge ((bare l)[z]'hz1).toNat 128 with h | h
        · exact h
        · have h2 := hd (by show ¬ ((bare l)[z]'hz1).toNat < 128; omega)
          omega
      have e2 := e1 h128
      have hdd : isDig ((bare l)[z]'hz1) = true := decide_eq_true (by rw [e2] at hc27 hc30; dsimp only at hc27 hc30; omega)
      rw [e2]
      refine SE.round (z + 1) (by first | omega | (dsimp only; omega)) (⟨hz1, fun j hj h => by rcases Nat.lt_or_ge j z with h1 | h1; exact hz.2 j hj h1; obtain rfl : j = z := (by omega); exact hdd⟩) (by exact ⟨rfl, rfl, rfl, trivial⟩) (by repeat first|exact s0 _|exact s1 _|apply s2|apply s3)
    intro hc30
    refine SC.seq (SC.region ?_)
    refine SL.val (Val.move rfl) rfl rfl ?_
    refine SL.val (Val.assign rfl) rfl rfl ?_
    refine SL.nil (SE.seq ?_)
    refine SC.exit ?_
    refine SE.exit_ rfl ?_
    refine SE.then_ (by intro h; cases h) ?_
    refine SE.exit ?_
    have hdn : ¬ isDig ((bare l)[z]'hz1) = true := by
      intro hdd
      have h3 := of_decide_eq_true (show decide (48 ≤ ((bare l)[z]'hz1).toNat ∧ ((bare l)[z]'hz1).toNat ≤ 57) = true from hdd)
      have e2 := e1 (by omega)
      first
        | (rw [e2] at hc27; dsimp only at hc27; omega)
        | (rw [e2] at hc30; dsimp only at hc30; omega)
    have hdz := digs_stop hz1 hz.2 hdn
    refine SE.meet (()) (trivial) (by exact ⟨rfl, congrArg (fun k : Nat => some (int (k : Nat))) hdz.symm, trivial⟩) (by repeat first|exact s0 _|exact s1 _|apply s2|apply s3)
  · intro z hz
    refine SC.seq (SC.region ?_)
    refine SL.val (Val.move rfl) rfl rfl ?_
    refine SL.val (Val.nilCheck rfl) rfl rfl ?_
    refine SL.val (Val.fieldAddr tabOk rfl rfl rfl rfl rfl) rfl rfl ?_
    refine SL.val (Val.load1 tabOk rfl rfl (by first|(apply Or.inl;(repeat first|assumption|exact m0|apply m1);done)|(apply Or.inr;(repeat first|assumption|exact m0|apply m1);done)) List.not_mem_nil (by rfl)) rfl rfl ?_
    refine SL.val (Val.move rfl) rfl rfl ?_
    refine SL.val (Val.to (C := stA (digs (bare l))) (Val.sliceStHi (q := (digs (bare l)).length) Tryd.underlying9 rfl rfl rfl (by simp only [tx_size]; omega)) ((st_hi _ _).trans (congrArg stA (take_digs _)))) rfl rfl ?_
    refine SL.val (Val.assign rfl) rfl rfl ?_
    refine SL.nil (SE.seq ?_)
    refine SC.seq (SC.region ?_)
    refine SL.val (Val.move rfl) rfl rfl ?_
    refine SL.call (atoi_s (l := (digs (bare l))) he hr (by omega)) Casts.refl (by kernel_rfl) rfl rfl rfl ?_
    refine After.pure (by repeat (first | exact Reads.nil | (refine Reads.blk ?_ ?_; focus ((repeat first|assumption|exact m0|apply m1); done)) | (refine Reads.rd ?_ ?_; focus ((repeat first|assumption|exact m0|apply m1); done)) | (refine Reads.pc ?_ ?_; focus ((repeat first|assumption|exact m0|apply m1); done)) | (refine Reads.rdpc ?_ ?_; focus ((repeat first|assumption|exact m0|apply m1); done)))) (fun _ => rfl) ?_
    intro z9
    refine SL.val (Val.move rfl) rfl rfl ?_
    refine SL.val (Val.extract rfl rfl) rfl rfl ?_
    refine SL.val (Val.extract rfl rfl) rfl rfl ?_
    refine SL.val (Val.assign rfl) rfl rfl ?_
    refine SL.val (Val.assign rfl) rfl rfl ?_
    refine SL.nil (SE.seq ?_)
    refine SC.seq ?_
    refine SC.seq (SC.region ?_)
    refine SL.val (Val.move rfl) rfl rfl ?_
    refine SL.val (Val.neIf (c := atoiBad (digs (bare l))) Tryd.underlying64 rfl (atoi_bad z9.2)) rfl rfl ?_
    refine SL.val (Val.move rfl) rfl rfl ?_
    refine SL.both (t := 45) rfl ?_ ?_
    · intro hc45
      iterate 2 refine SL.skip rfl rfl ?_
      refine SL.val (Val.pickT rfl rfl) rfl rfl ?_
      refine SL.val (Val.move rfl) rfl rfl ?_
      iterate 4 refine SL.skip rfl rfl ?_
      refine SL.val (Val.pickT rfl rfl) rfl rfl ?_
      refine SL.nil (SE.seq ?_)
      refine SC.condT rfl ?_
      refine SC.seq (SC.region ?_)
      refine SL.val (Val.move rfl) rfl rfl ?_
      refine SL.val (Val.nilCheck rfl) rfl rfl ?_
      refine SL.val (Val.fieldAddr tabOk rfl rfl rfl rfl rfl) rfl rfl ?_
      refine SL.eff (Eff.store (L' := psA (bare l) true) tabOk rfl rfl rfl (by repeat first|assumption|exact Upd.here|apply Upd.there) rfl (Nat.le_of_ble_eq_true (by rfl)) rfl (by rfl)) rfl rfl ?_
      rintro _ _ ⟨rfl, rfl⟩
      refine SL.nil (SE.seq ?_)
      refine SC.seq (SC.region ?_)
      refine SL.val (Val.assign rfl) rfl rfl ?_
      refine SL.nil (SE.seq ?_)
      refine SC.ret ?_
      refine SE.then_ (by intro h; cases h) ?_
      have hnn : numT (bare l) = none := by
        first
          | exact numT_bad hc45
          | exact numT_long (by omega)
          | exact numT_other hgv.1 (by rw [← hgv.2]; assumption)
      obtain ⟨e1, e2, e3⟩ := num_none hnn odd
      refine SE.fin (rs := [.tmp 2]) rfl (RV.tmp rfl RV.nil) (()) (by rw [e1, e2]; repeat (first | exact List.nil_sublist _ | exact List.Sublist.refl _ | apply List.Sublist.cons_cons | apply List.Sublist.cons)) (by simp [It.rids]) ?_
      rw [e3]
      rfl
    intro hc45
    refine SL.val (Val.move rfl) rfl rfl ?_
    refine SL.val (Val.gtI rfl rfl) rfl rfl ?_
    refine SL.val (Val.pickF rfl rfl) rfl rfl ?_
    refine SL.val (Val.move rfl) rfl rfl ?_
    refine SL.bothP (t := 49) rfl ?_ ?_
    · intro hc49
      iterate 4 refine SL.skip rfl rfl ?_
      refine SL.val (Val.pickT rfl rfl) rfl rfl ?_
      refine SL.nil (SE.seq ?_)
      refine SC.condT rfl ?_
      refine SC.seq (SC.region ?_)
      refine SL.val (Val.move rfl) rfl rfl ?_
      refine SL.val (Val.nilCheck rfl) rfl rfl ?_
      refine SL.val (Val.fieldAddr tabOk rfl rfl rfl rfl rfl) rfl rfl ?_
      refine SL.eff (Eff.store (L' := psA (bare l) true) tabOk rfl rfl rfl (by repeat first|assumption|exact Upd.here|apply Upd.there) rfl (Nat.le_of_ble_eq_true (by rfl)) rfl (by rfl)) rfl rfl ?_
      rintro _ _ ⟨rfl, rfl⟩
      refine SL.nil (SE.seq ?_)
      refine SC.seq (SC.region ?_)
      refine SL.val (Val.assign rfl) rfl rfl ?_
      refine SL.nil (SE.seq ?_)
      refine SC.ret ?_
      refine SE.then_ (by intro h; cases h) ?_
      have hnn : numT (bare l) = none := by
        first
          | exact numT_bad hc45
          | exact numT_long (by omega)
          | exact numT_other hgv.1 (by rw [← hgv.2]; assumption)
      obtain ⟨e1, e2, e3⟩ := num_none hnn odd
      refine SE.fin (rs := [.tmp 2]) rfl (RV.tmp rfl RV.nil) (()) (by rw [e1, e2]; repeat (first | exact List.nil_sublist _ | exact List.Sublist.refl _ | apply List.Sublist.cons_cons | apply List.Sublist.cons)) (by simp [It.rids]) ?_
      rw [e3]
      rfl
    intro hc49
    have hgv := good_val z9.2 hc45 (by omega)
    refine SL.val (Val.move rfl) rfl rfl ?_
    refine SL.call (itoa_s (es := es) (er := er) (v := z9.1.1) (by rw [hgv.2]; have h9 := decV_lt (digs (bare l)) (digs_dig _); have h10 : 10 ^ (digs (bare l)).length ≤ 10 ^ 4 := Nat.pow_le_pow_right (by omega) (by omega); simp only [InR, lo, hi]; omega)) Casts.refl (by kernel_rfl) rfl rfl rfl ?_
    refine After.pure (by repeat (first | exact Reads.nil | (refine Reads.blk ?_ ?_; focus ((repeat first|assumption|exact m0|apply m1); done)) | (refine Reads.rd ?_ ?_; focus ((repeat first|assumption|exact m0|apply m1); done)) | (refine Reads.pc ?_ ?_; focus ((repeat first|assumption|exact m0|apply m1); done)) | (refine Reads.rdpc ?_ ?_; focus ((repeat first|assumption|exact m0|apply m1); done)))) (fun _ => rfl) ?_
    intro _
    refine SL.val (Val.move rfl) rfl rfl ?_
    refine SL.val (Val.to (C := boo (decide (¬ Lib.itoa z9.1.1 = (digs (bare l))))) (Val.neS rfl rfl) (congrArg (fun b => Abs.v (Value.bool b)) (decide_eq_decide.2 (not_congr st_eq)))) rfl rfl ?_
    refine SL.val (Val.pickF rfl rfl) rfl rfl ?_
    refine SL.nil (SE.seq ?_)
    refine SC.condP rfl ?_ ?_
    · intro hc54
      refine SC.seq (SC.region ?_)
      refine SL.val (Val.move rfl) rfl rfl ?_
      refine SL.val (Val.nilCheck rfl) rfl rfl ?_
      refine SL.val (Val.fieldAddr tabOk rfl rfl rfl rfl rfl) rfl rfl ?_
      refine SL.eff (Eff.store (L' := psA (bare l) true) tabOk rfl rfl rfl (by repeat first|assumption|exact Upd.here|apply Upd.there) rfl (Nat.le_of_ble_eq_true (by rfl)) rfl (by rfl)) rfl rfl ?_
      rintro _ _ ⟨rfl, rfl⟩
      refine SL.nil (SE.seq ?_)
      refine SC.seq (SC.region ?_)
      refine SL.val (Val.assign rfl) rfl rfl ?_
      refine SL.nil (SE.seq ?_)
      refine SC.ret ?_
      refine SE.then_ (by intro h; cases h) ?_
      have hnn : numT (bare l) = none := by
        first
          | exact numT_bad hc45
          | exact numT_long (by omega)
          | exact numT_other hgv.1 (by rw [← hgv.2]; assumption)
      obtain ⟨e1, e2, e3⟩ := num_none hnn odd
      refine SE.fin (rs := [.tmp 2]) rfl (RV.tmp rfl RV.nil) (()) (by rw [e1, e2]; repeat (first | exact List.nil_sublist _ | exact List.Sublist.refl _ | apply List.Sublist.cons_cons | apply List.Sublist.cons)) (by simp [It.rids]) ?_
      rw [e3]
      rfl
    intro hc54
    refine SC.skip ?_
    refine SE.seq ?_
    refine SC.seq (SC.region ?_)
    refine SL.val (Val.move rfl) rfl rfl ?_
    refine SL.val (Val.move rfl) rfl rfl ?_
    refine SL.val (Val.nilCheck rfl) rfl rfl ?_
    refine SL.val (Val.fieldAddr tabOk rfl rfl rfl rfl rfl) rfl rfl ?_
    refine SL.val (Val.load1 tabOk rfl rfl (by first|(apply Or.inl;(repeat first|assumption|exact m0|apply m1);done)|(apply Or.inr;(repeat first|assumption|exact m0|apply m1);done)) List.not_mem_nil (by rfl)) rfl rfl ?_
    refine SL.val (Val.move rfl) rfl rfl ?_
    refine SL.val (Val.to (C := stA ((bare l).drop (digs (bare l)).length)) (Val.sliceStLo (q := (digs (bare l)).length) Tryd.underlying9 rfl rfl rfl (by simp only [tx_size]; omega)) (st_lo _ _)) rfl rfl ?_
    refine SL.val (Val.nilCheck rfl) rfl rfl ?_
    refine SL.val (Val.fieldAddr tabOk rfl rfl rfl rfl rfl) rfl rfl ?_
    refine SL.eff (Eff.store (L' := psA ((bare l).drop (digs (bare l)).length) odd) tabOk rfl rfl rfl (by repeat first|assumption|exact Upd.here|apply Upd.there) rfl (Nat.le_of_ble_eq_true (by rfl)) rfl (by rfl)) rfl rfl ?_
    rintro _ _ ⟨rfl, rfl⟩
    refine SL.nil (SE.seq ?_)
    refine SC.seq (SC.region ?_)
    refine SL.val (Val.move rfl) rfl rfl ?_
    refine SL.val (Val.assign rfl) rfl rfl ?_
    refine SL.nil (SE.seq ?_)
    refine SC.ret ?_
    have hi9 : Lib.itoa z9.1.1 = digs (bare l) := Classical.byContradiction fun h => hc54 h
    obtain ⟨e1, e2, e3⟩ := num_some (numT_own hgv.1 (by omega) (by rw [← hgv.2]; exact hi9)) odd
    refine SE.fin (rs := [.tmp 2]) rfl (RV.tmp rfl RV.nil) (()) (by rw [e1, e2]; repeat (first | exact List.nil_sublist _ | exact List.Sublist.refl _ | apply List.Sublist.cons_cons | apply List.Sublist.cons)) (by simp [It.rids]) ?_
    rw [e3, ← hgv.2]
    rfl
end
end Go.Proofs.YthaahcdfnmfihaaDoor.A
/-
  Policies' texts, plain: what the program's parser leaves, step by step.
-/
set_option maxRecDepth 100000
set_option linter.unusedSimpArgs false
set_option linter.unusedVariables false
namespace Go.Proofs.YthaahcdfnmfihaaDoor.A
open Go.RowKit

/-- What the parser leaves behind a policy: what is left, whether it is odd, the policy. -/
def PolR (k : Nat) (l : Txt) (odd : Bool) (z : Txt × Bool × Frm) : Prop :=
  z.1.length ≤ l.length ∧ (odd = true → z.2.1 = true) ∧ (odd = false → polT k l = none → z.2.1 = true) ∧ (odd = false → ∀ x, polT k l = some x → z.2.1 = false ∧ bare z.1 = bare x.2 ∧ z.2.2 = x.1)
/-- And behind a row. -/
def RowF (k : Nat) (l : Txt) (odd : Bool) (z : Txt × Bool × List Frm) : Prop :=
  z.1.length ≤ l.length ∧ (odd = true → z.2.1 = true) ∧ (odd = false → rowT (polT k) l = none → z.2.1 = true) ∧ (odd = false → ∀ x, rowT (polT k) l = some x → z.2.1 = false ∧ z.1 = x.2 ∧ z.2.2 = x.1)
/-- At the head of a round. -/
structure RowI (k : Nat) (l : Txt) (odd : Bool) (z : Txt × Bool × List Frm) : Prop where
  len : z.1.length ≤ l.length
  few : z.2.2.length + (if z.2.1 = true then 0 else z.1.length + 1) ≤ l.length + 2
  off : odd = true → z.2.1 = true
  no : odd = false → z.2.1 = true → rowT (polT k) l = none
  go : odd = false → z.2.1 = false → ∃ F, z.1.length + 1 ≤ F ∧ rowT (polT k) l = rowL (polT k) F z.1 z.2.2
theorem takeT_yes {l wd : Txt} (h : begins (bare l) wd = true) : takeT l wd = (bare l).drop wd.length := if_pos h
theorem takeT_no {l wd : Txt} (h : ¬ begins (bare l) wd = true) : takeT l wd = bare l := if_neg h
theorem takeT_len (l wd : Txt) : (takeT l wd).length ≤ l.length := by
  have := bare_len l
  unfold takeT
  split
  · rw [List.length_drop]; omega
  · exact this
section
variable {k : Nat} {l : Txt} {odd : Bool} {z : Txt × Bool × List Frm} {y : Txt × Bool × Frm}
theorem RowI.start (h : begins (bare l) [40] = true) : RowI k l odd (takeT l [40], odd, []) := by
  have hl := takeT_len l [40]
  refine ⟨hl, (by dsimp only; split <;> simp <;> omega), fun h => h, fun h1 h2 => (by simp only at h2; rw [h1] at h2; cases h2), fun _ _ => ⟨l.length + 1, (by simp only; omega), ?_⟩⟩
  unfold rowT
  rw [if_pos h, takeT_yes h]
  rfl
theorem RowI.odd_ (h : ¬ begins (bare l) [40] = true) : RowI k l odd (takeT l [40], true, []) := by
  have hl := takeT_len l [40]
  exact ⟨hl, (by simp), fun _ => rfl, fun _ _ => if_neg h, fun _ h2 => (by cases h2)⟩
theorem RowI.done (h : RowI k l odd z) (ho : z.2.1 = true) : RowF k l odd z :=
  ⟨h.len, h.off, fun _ _ => ho, fun h1 x hx => (by rw [h.no h1 ho] at hx; cases hx)⟩
theorem RowI.step (h : RowI k l odd z) (ho : z.2.1 = false) (hy : PolR k z.1 z.2.1 y) :
    (begins (bare y.1) [41] = true → RowF k l odd (takeT y.1 [41], y.2.1, z.2.2 ++ [y.2.2])) ∧
    (¬ begins (bare y.1) [41] = true → begins (bare (takeT y.1 [41])) [44] = true → RowI k l odd (takeT (takeT y.1 [41]) [44], y.2.1, z.2.2 ++ [y.2.2]) ∧ (y.2.1 = true ∨ (takeT (takeT y.1 [41]) [44]).length < z.1.length)) ∧
    (¬ begins (bare y.1) [41] = true → ¬ begins (bare (takeT y.1 [41])) [44] = true → RowI k l odd (takeT (takeT y.1 [41]) [44], true, z.2.2 ++ [y.2.2])) := by
  obtain ⟨h1, h2, h3, h4⟩ := hy
  have hodd : odd = false := by
    cases odd with
    | true => have := h.off rfl; rw [ho] at this; cases this
    | false => rfl
  subst hodd
  obtain ⟨F, hF, hR⟩ := h.go rfl ho
  have hlen := h.len
  have hfew := h.few
  rw [ho] at hfew
  simp only [Bool.false_eq_true, if_false] at hfew
  have hb := bare_len y.1
  have t1 := takeT_len y.1 [41]
  have t2 := takeT_len (takeT y.1 [41]) [44]
  have hF1 : ∃ m, F = m + 1 := ⟨F - 1, (by omega)⟩
  obtain ⟨m, rfl⟩ := hF1
  cases hp : polT k z.1 with
  | none =>
    have hno := h3 ho hp
    have hR2 : rowT (polT k) l = none := by rw [hR]; unfold rowL; rw [hp]
    refine ⟨fun _ => ⟨(by simp only; omega), fun h => (by cases h), fun _ _ => hno, fun _ x hx => (by rw [hR2] at hx; cases hx)⟩, fun _ _ => ⟨⟨(by simp only; omega), ?_, fun h => (by cases h), fun _ _ => hR2, fun _ h9 => (by simp only at h9; rw [hno] at h9; cases h9)⟩, .inl hno⟩,
      fun _ _ => ⟨(by simp only; omega), ?_, fun h => (by cases h), fun _ _ => hR2, fun _ h9 => (by cases h9)⟩⟩
    · simp only [hno, if_true, List.length_append, List.length_singleton]; omega
    · simp only [if_true, List.length_append, List.length_singleton]; omega
  | some x =>
    obtain ⟨f, r⟩ := x
    obtain ⟨q1, q2, q3⟩ := h4 ho (f, r) hp
    have hs := polT_short k z.1 f r hp
    have hbr := bare_len r
    dsimp only at q2 q3
    have hR2 : rowL (polT k) (m + 1) z.1 z.2.2 = if begins (bare r) [41] = true then some (z.2.2 ++ [f], (bare r).drop 1) else if begins (bare r) [44] = true then rowL (polT k) m ((bare r).drop 1) (z.2.2 ++ [f]) else none := by
      conv => lhs; unfold rowL
      rw [hp]
    rw [hR2] at hR
    rw [q3, q1]
    rw [q2]
    refine ⟨fun hb1 => ?_, fun hb1 hb2 => ?_, fun hb1 hb2 => ?_⟩
    · have e : takeT y.1 [41] = (bare r).drop 1 := by rw [takeT_yes (by rw [q2]; exact hb1), q2]; rfl
      refine ⟨(by simp only; omega), fun h => (by cases h), fun _ hn => ?_, fun _ x hx => ?_⟩
      · rw [hR, if_pos hb1] at hn; cases hn
      · rw [hR, if_pos hb1] at hx
        cases hx
        exact ⟨rfl, e, rfl⟩
    · have e1 : takeT y.1 [41] = bare r := by rw [takeT_no (by rw [q2]; exact hb1), q2]
      rw [e1, bare_bare] at hb2
      have hbl := begins_len hb2
      have e2 : takeT (takeT y.1 [41]) [44] = (bare r).drop 1 := by rw [e1, takeT_yes (by rw [bare_bare]; exact hb2), bare_bare]; rfl
      have hl2 : ((bare r).drop 1).length < z.1.length := by rw [List.length_drop]; omega
      refine ⟨⟨(by simp only; omega), ?_, fun h => (by cases h), fun _ h9 => (by cases h9), fun _ _ => ⟨m, ?_, ?_⟩⟩, .inr (by rw [e2]; exact hl2)⟩
      · simp only [Bool.false_eq_true, if_false, List.length_append, List.length_singleton, e2]; omega
      · simp only [e2]; omega
      · rw [hR, if_neg hb1, if_pos hb2, e2]
    · have e1 : takeT y.1 [41] = bare r := by rw [takeT_no (by rw [q2]; exact hb1), q2]
      rw [e1, bare_bare] at hb2
      refine ⟨(by simp only; omega), ?_, fun h => (by cases h), fun _ _ => (by rw [hR, if_neg hb1, if_neg hb2]), fun _ h9 => (by cases h9)⟩
      simp only [if_true, List.length_append, List.length_singleton]; omega
end
/-! ### Policies -/
section
variable {k : Nat} {l : Txt} {odd : Bool} {y : Txt × Bool × Frm} {z : Txt × Bool × List Frm}
theorem PolR.deep : PolR 0 l odd (l, true, .mk 0 0 []) := ⟨Nat.le_refl _, fun _ => rfl, fun _ _ => rfl, fun _ x hx => (by cases hx)⟩
theorem PolR.was (h : odd = true) (f : Frm) : PolR k l odd (l, odd, f) := ⟨Nat.le_refl _, fun h => h, fun h2 => (by rw [h] at h2; cases h2), fun h2 => (by rw [h] at h2; cases h2)⟩
theorem PolR.all (h0 : odd = false) (hb : begins (bare l) [97, 108, 108] = true) (hz : RowF k (takeT l [97, 108, 108]) odd z) : PolR (k + 1) l odd (z.1, z.2.1, .mk 0 z.2.2.length z.2.2) := by
  obtain ⟨h1, h2, h3, h4⟩ := hz
  have ht := takeT_len l [97, 108, 108]
  have e : polT (k + 1) l = (rowT (polT k) (takeT l [97, 108, 108])).map fun x => (.mk 0 x.1.length x.1, x.2) := by
    conv => lhs; unfold polT
    rw [if_pos hb, takeT_yes hb]
    rfl
  refine ⟨(by simp only; omega), fun h => (by rw [h0] at h; cases h), fun _ hn => ?_, fun _ x hx => ?_⟩
  · cases hr : rowT (polT k) (takeT l [97, 108, 108]) with
    | none => exact h3 h0 hr
    | some x => rw [e, hr] at hn; cases hn
  · cases hr : rowT (polT k) (takeT l [97, 108, 108]) with
    | none => rw [e, hr] at hx; cases hx
    | some q =>
      rw [e, hr] at hx
      cases hx
      obtain ⟨r1, r2, r3⟩ := h4 h0 q hr
      exact ⟨r1, (by simp only [r2]), (by simp only [r3])⟩
theorem PolR.any (h0 : odd = false) (ha : ¬ begins (bare l) [97, 108, 108] = true) (hb : begins (bare l) [97, 110, 121] = true) (hz : RowF k (takeT (takeT l [97, 108, 108]) [97, 110, 121]) odd z) : PolR (k + 1) l odd (z.1, z.2.1, .mk 0 1 z.2.2) := by
  obtain ⟨h1, h2, h3, h4⟩ := hz
  have ht := takeT_len (takeT l [97, 108, 108]) [97, 110, 121]
  have ht2 := takeT_len l [97, 108, 108]
  have e0 : takeT l [97, 108, 108] = bare l := takeT_no ha
  have e1 : takeT (takeT l [97, 108, 108]) [97, 110, 121] = (bare l).drop 3 := by
    rw [e0, takeT_yes (by rw [bare_bare]; exact hb), bare_bare]
    rfl
  have e : polT (k + 1) l = (rowT (polT k) (takeT (takeT l [97, 108, 108]) [97, 110, 121])).map fun x => (.mk 0 1 x.1, x.2) := by
    conv => lhs; unfold polT
    rw [if_neg ha, if_pos hb, e1]
  refine ⟨(by simp only; omega), fun h => (by rw [h0] at h; cases h), fun _ hn => ?_, fun _ x hx => ?_⟩
  · cases hr : rowT (polT k) (takeT (takeT l [97, 108, 108]) [97, 110, 121]) with
    | none => exact h3 h0 hr
    | some x => rw [e, hr] at hn; cases hn
  · cases hr : rowT (polT k) (takeT (takeT l [97, 108, 108]) [97, 110, 121]) with
    | none => rw [e, hr] at hx; cases hx
    | some q =>
      rw [e, hr] at hx
      cases hx
      obtain ⟨r1, r2, r3⟩ := h4 h0 q hr
      exact ⟨r1, (by simp only [r2]), (by simp only [r3])⟩
/-- What is left behind 'all' and 'any', neither of which stands there. -/
theorem two_no (ha : ¬ begins (bare l) [97, 108, 108] = true) (hb : ¬ begins (bare (takeT l [97, 108, 108])) [97, 110, 121] = true) : takeT (takeT l [97, 108, 108]) [97, 110, 121] = bare l := by
  rw [takeT_no hb, takeT_no ha, bare_bare]
theorem numL_bare (l : Txt) (odd : Bool) : numL (bare l) = numL l ∧ numO (bare l) odd = numO l odd ∧ numV (bare l) = numV l := by
  unfold numL numO numV
  rw [bare_bare]
  exact ⟨rfl, rfl, rfl⟩
theorem numL_len (l : Txt) : (numL l).length ≤ l.length := by
  have hb := bare_len l
  unfold numL
  cases h : numT (bare l) with
  | none => exact hb
  | some x =>
    have := numT_short (v := x.1) (r := x.2) h
    show x.2.length ≤ _
    omega
theorem pol_num (ha : ¬ begins (bare l) [97, 108, 108] = true) (hb : ¬ begins (bare l) [97, 110, 121] = true) : polT (k + 1) l = match numT (bare l) with
    | none => none
    | some (v, r) => if begins (bare r) [111, 102] = true then (if 1 ≤ v ∧ v ≤ 99 then (rowT (polT k) ((bare r).drop 2)).map fun x => (.mk 0 v x.1, x.2) else none) else some (.mk v 0 [], r) := by
  conv => lhs; unfold polT
  rw [if_neg ha, if_neg hb]
  cases numT (bare l) with
  | none => rfl
  | some x => obtain ⟨v, r⟩ := x; rfl
/-- No number, or a number alone. -/
theorem PolR.org (h0 : odd = false) (ha : ¬ begins (bare l) [97, 108, 108] = true) (hb : ¬ begins (bare l) [97, 110, 121] = true) (hn : ¬ (numO l odd = false ∧ begins (bare (numL l)) [111, 102] = true)) (t : Txt) (ht : t = numL l ∨ t = bare (numL l)) :
    PolR (k + 1) l odd (t, numO l odd, .mk (numV l) 0 []) := by
  have e := pol_num (k := k) ha hb
  have hl := numL_len l
  have hbl := bare_len (numL l)
  have htl : t.length ≤ l.length := by rcases ht with rfl | rfl <;> omega
  have htb : bare t = bare (numL l) := by
    rcases ht with rfl | rfl
    · rfl
    · rw [bare_bare]
  cases hq : numT (bare l) with
  | none =>
    rw [hq] at e
    obtain ⟨q1, q2, q3⟩ := num_none hq odd
    exact ⟨htl, fun h => (by rw [h0] at h; cases h), fun _ _ => q2, fun _ x hx => (by rw [e] at hx; cases hx)⟩
  | some x =>
    obtain ⟨v, r⟩ := x
    rw [hq] at e
    obtain ⟨q1, q2, q3⟩ := num_some hq odd
    rw [q1, q2] at hn
    have hof : ¬ begins (bare r) [111, 102] = true := fun h => hn ⟨h0, h⟩
    dsimp only at e
    rw [if_neg hof] at e
    refine ⟨htl, fun h => (by rw [h0] at h; cases h), fun _ h => (by rw [e] at h; cases h), fun _ x hx => ?_⟩
    rw [e] at hx
    cases hx
    exact ⟨q2.trans h0, (by rw [htb, q1]), (by rw [q3])⟩
/-- So many of a row. -/
theorem PolR.of (h0 : odd = false) (ha : ¬ begins (bare l) [97, 108, 108] = true) (hb : ¬ begins (bare l) [97, 110, 121] = true) (hq : numO l odd = false) (hof : begins (bare (numL l)) [111, 102] = true) {o2 : Bool} (ho : o2 = (numO l odd || decide (numV l < 1 ∨ 99 < numV l)))
    (hz : RowF k (takeT (numL l) [111, 102]) o2 z) : PolR (k + 1) l odd (z.1, z.2.1, .mk 0 (numV l) z.2.2) := by
  have e := pol_num (k := k) ha hb
  have hl := numL_len l
  have ht := takeT_len (numL l) [111, 102]
  obtain ⟨h1, h2, h3, h4⟩ := hz
  cases hn : numT (bare l) with
  | none =>
    have := (num_none hn odd).2.1
    rw [hq] at this
    cases this
  | some x =>
    obtain ⟨v, r⟩ := x
    rw [hn] at e
    obtain ⟨q1, q2, q3⟩ := num_some hn odd
    rw [q1] at hof hl ht h1 h3 h4
    rw [hq, q3, Bool.false_or] at ho
    dsimp only at e
    rw [if_pos hof] at e
    have e2 : takeT r [111, 102] = (bare r).drop 2 := takeT_yes hof
    rw [e2] at h3 h4
    by_cases hv : 1 ≤ v ∧ v ≤ 99
    · rw [if_pos hv] at e
      have ho2 : o2 = false := by rw [ho]; exact decide_eq_false (by omega)
      refine ⟨(by simp only; omega), fun h => (by rw [h0] at h; cases h), fun _ hn2 => ?_, fun _ x hx => ?_⟩
      · cases hr : rowT (polT k) ((bare r).drop 2) with
        | none => exact h3 ho2 hr
        | some x => rw [e, hr] at hn2; cases hn2
      · cases hr : rowT (polT k) ((bare r).drop 2) with
        | none => rw [e, hr] at hx; cases hx
        | some q =>
          rw [e, hr] at hx
          cases hx
          obtain ⟨r1, r2, r3⟩ := h4 ho2 q hr
          exact ⟨r1, (by simp only [r2]), (by simp only [r3, q3])⟩
    · rw [if_neg hv] at e
      have ho2 : o2 = true := by rw [ho]; exact decide_eq_true (by omega)
      exact ⟨(by simp only; omega), fun h => (by rw [h0] at h; cases h), fun _ _ => h2 ho2, fun _ x hx => (by rw [e] at hx; cases hx)⟩
end
end Go.Proofs.YthaahcdfnmfihaaDoor.A
