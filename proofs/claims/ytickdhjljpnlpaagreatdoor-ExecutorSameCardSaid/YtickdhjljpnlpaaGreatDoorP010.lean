/-
  Packed out of the texts: TM2, TRow, TM3, TPar, TM4.
-/
import Derived.Test.YtickdhjljpnlpaaGreatDoorP09
/-
  Policies' texts: numbers, read by the program.
-/
set_option maxRecDepth 100000
set_option linter.unusedSimpArgs false
set_option linter.unusedVariables false
namespace Go.Proofs.YtickdhjljpnlpaaGreatDoor.A
open Go.RowKit

section
variable {l wd : Txt} {odd : Bool} {p : Nat} {es er : Value}
set_option maxHeartbeats 4000000 in
theorem tnum_s (he : isIf es) (hr : isIf er) (hl : l.length ≤ 100000) : Spec Tryz.prog 138 [ptr p] (.blk p 158 (psA (l) odd) :: globs es er) (fun _ : Unit => [.blk p 158 (psA (numL l) (numO l odd))]) (fun _ => int (numV l)) := by
 have hbl := bare_len l
 have hdl := digs_len (bare l)
 refine spec_of Tryz.func138 rfl Tryz.ntmps138 rfl fun G w => ?_
 refine SC.seq (SC.region ?_)
 refine SL.val (Val.assign rfl) rfl rfl ?_
 refine SL.nil (SE.seq ?_)
 refine SC.seq (SC.region ?_)
 refine SL.val (Val.move rfl) rfl rfl ?_
 refine SL.call (blanks_s (p := p) (l := l) (odd := odd)) Casts.refl (by kernel_rfl) rfl rfl rfl ?_
 refine After.one rfl (by repeat first|assumption|exact m0_|apply m1_) (fun _ => rfl) ?_
 intro _
 refine ⟨_, (by repeat first|assumption|exact Upd.here|apply Upd.there), ?_⟩
 refine SL.nil (SE.seq ?_)
 refine SC.seq (SC.region ?_)
 refine SL.val (Val.move rfl) rfl rfl ?_
 refine SL.val (Val.nilCheck rfl) rfl rfl ?_
 refine SL.val (Val.fieldAddr tabOk rfl rfl rfl rfl rfl) rfl rfl ?_
 refine SL.val (Val.load1 tabOk rfl rfl (by repeat first|assumption|exact o0_|exact o1_|apply o2_) List.not_mem_nil (by rfl)) rfl rfl ?_
 refine SL.val (Val.to (C := int (((bare l).length : Nat) : Int)) (Val.lenSt rfl Tryz.underlying9) rfl) rfl rfl ?_
 refine SL.val (Val.assign rfl) rfl rfl ?_
 refine SL.nil (SE.seq ?_)
 refine SC.cutS (ι := Unit) (fun z => (.blk p 158 (psA (bare l) odd) :: globs es er)) (fun z => [(0, ptr p), (3, int ((digs (bare l)).length : Nat))]) (fun z => True) ?_ ?_
 ·skip
  refine SC.seq (SC.region ?_)
  refine SL.val (Val.move rfl) rfl rfl ?_
  refine SL.val (Val.nilCheck rfl) rfl rfl ?_
  refine SL.val (Val.fieldAddr tabOk rfl rfl rfl rfl rfl) rfl rfl ?_
  refine SL.val (Val.load1 tabOk rfl rfl (by repeat first|assumption|exact o0_|exact o1_|apply o2_) List.not_mem_nil (by rfl)) rfl rfl ?_
  refine SL.eff (Eff.rangeStr rfl Tryz.underlying9) rfl rfl ?_
  rintro _ _ ⟨b20, rfl, rfl⟩
  refine SL.nil (SE.seq ?_)
  refine SC.block ?_
  refine SC.loop (ι := Nat) (fun z => .pc (iterPc b20 ⟨(bare l).toArray⟩ z) :: (.blk p 158 (psA (bare l) odd) :: globs es er)) (fun z => [(0, ptr p), (3, int ((bare l).length : Nat)), (20, ptr b20)]) (fun z => z ≤ (bare l).length ∧ ∀ j (hj : j < (bare l).length), j < z → isDig (bare l)[j] = true) (fun z => (bare l).length - z) (0) (⟨Nat.zero_le _, fun j _ h => absurd h (by omega)⟩) (by exact ⟨rfl, rfl, rfl, trivial⟩) (by repeat first|exact s0_ _|exact s1_ _|apply s2_|apply s3_) ?_
  intro z hz
  refine SC.seq (SC.region ?_)
  refine SL.nextStr rfl (by repeat first|assumption|exact m0_|apply m1_) rfl rfl ?_ ?_
  rotate_left
  ·intro hnx
   refine SL.val (Val.extract rfl rfl) rfl rfl ?_
   refine SL.nil (SE.seq ?_)
   refine SC.seq ?_
   refine SC.condF rfl ?_
   refine SC.exit ?_
   refine SE.then_ nofun ?_
   refine SE.then_ nofun ?_
   refine SE.exit ?_
   have hdz := digs_all (t := bare l) fun j hj => hz.2 j hj (by have h9 : ¬ z < (bare l).length := hnx; omega)
   refine SE.meet (()) (trivial) (by exact ⟨rfl, congrArg (fun k : Nat => some (int (k : Nat))) hdz.symm, trivial⟩) (by repeat first|exact s0_ _|exact s1_ _|apply s2_|apply s3_)
  intro hnx
  refine ⟨_, (by repeat first|assumption|exact Upd.here|apply Upd.there), ?_⟩
  have hd := decode_high ⟨(bare l).toArray⟩ z hnx
  have hz1 : z < (bare l).length := hnx
  have hb8 := ((bare l)[z]'hz1).toNat_lt
  have e1 : ((bare l)[z]'hz1).toNat < 128 → Utf8.decode (ByteArray.mk (bare l).toArray) z = (((bare l)[z]'hz1).toNat, 1) := fun h => decode_ascii ⟨(bare l).toArray⟩ z hnx h
  refine SL.val (Val.extract rfl rfl) rfl rfl ?_
  refine SL.nil (SE.seq ?_)
  refine SC.seq ?_
  refine SC.condT rfl ?_
  refine SC.skip ?_
  refine SE.seq ?_
  refine SC.block ?_
  refine SC.seq (SC.region ?_)
  refine SL.val (Val.extract rfl rfl) rfl rfl ?_
  refine SL.val (Val.extract rfl rfl) rfl rfl ?_
  iterate 2 refine SL.val (Val.assign rfl) rfl rfl ?_
  refine SL.nil (SE.seq ?_)
  refine SC.seq (SC.region ?_)
  refine SL.val (Val.move rfl) rfl rfl ?_
  refine SL.val (Val.ltI rfl rfl) rfl rfl ?_
  refine SL.val (Val.move rfl) rfl rfl ?_
  refine SL.bothP (t := 27) rfl ?_ ?_
  ·intro hc27
   iterate 2 refine SL.skip rfl rfl ?_
   refine SL.val (Val.pickT rfl rfl) rfl rfl ?_
   refine SL.nil (SE.seq ?_)
   refine SC.condT rfl ?_
   refine SC.seq (SC.region ?_)
   refine SL.val (Val.move rfl) rfl rfl ?_
   refine SL.val (Val.assign rfl) rfl rfl ?_
   refine SL.nil (SE.seq ?_)
   refine SC.exit ?_
   refine SE.exit_ rfl ?_
   refine SE.then_ nofun ?_
   refine SE.exit ?_
   have hdn : ¬ isDig ((bare l)[z]'hz1) = true := by
    intro hdd
    have h3 := of_decide_eq_true (show decide (48 ≤ ((bare l)[z]'hz1).toNat ∧ ((bare l)[z]'hz1).toNat ≤ 57) = true from hdd)
    have e2 := e1 (by omega)
    first
     | (rw [e2] at hc27; dsimp only at hc27; omega)
     | (rw [e2] at hc30; dsimp only at hc30; omega)
   have hdz := digs_stop hz1 hz.2 hdn
   refine SE.meet (()) (trivial) (by exact ⟨rfl, congrArg (fun k : Nat => some (int (k : Nat))) hdz.symm, trivial⟩) (by repeat first|exact s0_ _|exact s1_ _|apply s2_|apply s3_)
  intro hc27
  refine SL.val (Val.move rfl) rfl rfl ?_
  refine SL.val (Val.gtI rfl rfl) rfl rfl ?_
  refine SL.val (Val.pickF rfl rfl) rfl rfl ?_
  refine SL.nil (SE.seq ?_)
  refine SC.condP rfl ?_ ?_
  rotate_left
  ·intro hc30
   refine SC.skip ?_
   refine SE.inBlock ?_
   have h128 : ((bare l)[z]'hz1).toNat < 128 := by
    rcases Nat.lt_or_ge ((bare l)[z]'hz1).toNat 128 with h | h
    ·exact h
    ·have h2 := hd (by show ¬ ((bare l)[z]'hz1).toNat < 128; omega)
     omega
   have e2 := e1 h128
   have hdd : isDig ((bare l)[z]'hz1) = true := decide_eq_true (by rw [e2] at hc27 hc30; dsimp only at hc27 hc30; omega)
   rw [e2]
   refine SE.round (z + 1) (by first | omega | (dsimp only; omega)) (⟨hz1, fun j hj h => by rcases Nat.lt_or_ge j z with h1 | h1; exact hz.2 j hj h1; obtain rfl : j = z := (by omega); exact hdd⟩) (by exact ⟨rfl, rfl, rfl, trivial⟩) (by repeat first|exact s0_ _|exact s1_ _|apply s2_|apply s3_)
  intro hc30
  refine SC.seq (SC.region ?_)
  refine SL.val (Val.move rfl) rfl rfl ?_
  refine SL.val (Val.assign rfl) rfl rfl ?_
  refine SL.nil (SE.seq ?_)
  refine SC.exit ?_
  refine SE.exit_ rfl ?_
  refine SE.then_ nofun ?_
  refine SE.exit ?_
  have hdn : ¬ isDig ((bare l)[z]'hz1) = true := by
   intro hdd
   have h3 := of_decide_eq_true (show decide (48 ≤ ((bare l)[z]'hz1).toNat ∧ ((bare l)[z]'hz1).toNat ≤ 57) = true from hdd)
   have e2 := e1 (by omega)
   first
    | (rw [e2] at hc27; dsimp only at hc27; omega)
    | (rw [e2] at hc30; dsimp only at hc30; omega)
  have hdz := digs_stop hz1 hz.2 hdn
  refine SE.meet (()) (trivial) (by exact ⟨rfl, congrArg (fun k : Nat => some (int (k : Nat))) hdz.symm, trivial⟩) (by repeat first|exact s0_ _|exact s1_ _|apply s2_|apply s3_)
 ·intro z hz
  refine SC.seq (SC.region ?_)
  refine SL.val (Val.move rfl) rfl rfl ?_
  refine SL.val (Val.nilCheck rfl) rfl rfl ?_
  refine SL.val (Val.fieldAddr tabOk rfl rfl rfl rfl rfl) rfl rfl ?_
  refine SL.val (Val.load1 tabOk rfl rfl (by repeat first|assumption|exact o0_|exact o1_|apply o2_) List.not_mem_nil (by rfl)) rfl rfl ?_
  refine SL.val (Val.move rfl) rfl rfl ?_
  refine SL.val (Val.to (C := stA (digs (bare l))) (Val.sliceStHi (q := (digs (bare l)).length) Tryz.underlying9 rfl rfl rfl (by simp only [tx_size]; omega)) ((st_hi _ _).trans (congrArg stA (take_digs _)))) rfl rfl ?_
  refine SL.val (Val.assign rfl) rfl rfl ?_
  refine SL.nil (SE.seq ?_)
  refine SC.seq (SC.region ?_)
  refine SL.val (Val.move rfl) rfl rfl ?_
  refine SL.call (atoi_s (l := (digs (bare l))) he hr (by omega)) Casts.refl (by kernel_rfl) rfl rfl rfl ?_
  refine ap_ ?_
  intro z9
  refine SL.val (Val.move rfl) rfl rfl ?_
  refine SL.val (Val.extract rfl rfl) rfl rfl ?_
  refine SL.val (Val.extract rfl rfl) rfl rfl ?_
  iterate 2 refine SL.val (Val.assign rfl) rfl rfl ?_
  refine SL.nil (SE.seq ?_)
  refine SC.seq ?_
  refine SC.seq (SC.region ?_)
  refine SL.val (Val.move rfl) rfl rfl ?_
  refine SL.val (Val.neIf (c := atoiBad (digs (bare l))) Tryz.underlying192 rfl (atoi_bad z9.2)) rfl rfl ?_
  refine SL.val (Val.move rfl) rfl rfl ?_
  refine SL.both (t := 45) rfl ?_ ?_
  ·intro hc45
   iterate 2 refine SL.skip rfl rfl ?_
   refine SL.val (Val.pickT rfl rfl) rfl rfl ?_
   refine SL.val (Val.move rfl) rfl rfl ?_
   iterate 4 refine SL.skip rfl rfl ?_
   refine SL.val (Val.pickT rfl rfl) rfl rfl ?_
   refine SL.nil (SE.seq ?_)
   refine SC.condT rfl ?_
   refine SC.seq (SC.region ?_)
   refine SL.val (Val.move rfl) rfl rfl ?_
   refine SL.val (Val.nilCheck rfl) rfl rfl ?_
   refine SL.val (Val.fieldAddr tabOk rfl rfl rfl rfl rfl) rfl rfl ?_
   refine SL.eff (Eff.store (L' := psA (bare l) true) tabOk rfl rfl rfl (by repeat first|assumption|exact Upd.here|apply Upd.there) rfl (lb_ (by rfl)) rfl (by rfl)) rfl rfl ?_
   rintro _ _ ⟨rfl, rfl⟩
   refine SL.nil (SE.seq ?_)
   refine SC.seq (SC.region ?_)
   refine SL.val (Val.assign rfl) rfl rfl ?_
   refine SL.nil (SE.seq ?_)
   refine SC.ret ?_
   refine SE.then_ nofun ?_
   have hnn : numT (bare l) = none := by
    first
     | exact numT_bad hc45
     | exact numT_long (by omega)
     | exact numT_other hgv.1 (by rw [← hgv.2]; assumption)
   obtain ⟨e1, e2, e3⟩ := num_none hnn odd
   refine SE.fin (rs := [.tmp 2]) rfl (RV.tmp rfl RV.nil) (()) (by rw [e1, e2]; repeat (first | exact List.nil_sublist _ | exact List.Sublist.refl _ | apply List.Sublist.cons_cons | apply List.Sublist.cons)) (by simp [It.rids]) ?_
   rw [e3]
   rfl
  intro hc45
  refine SL.val (Val.move rfl) rfl rfl ?_
  refine SL.val (Val.gtI rfl rfl) rfl rfl ?_
  refine SL.val (Val.pickF rfl rfl) rfl rfl ?_
  refine SL.val (Val.move rfl) rfl rfl ?_
  refine SL.bothP (t := 49) rfl ?_ ?_
  ·intro hc49
   iterate 4 refine SL.skip rfl rfl ?_
   refine SL.val (Val.pickT rfl rfl) rfl rfl ?_
   refine SL.nil (SE.seq ?_)
   refine SC.condT rfl ?_
   refine SC.seq (SC.region ?_)
   refine SL.val (Val.move rfl) rfl rfl ?_
   refine SL.val (Val.nilCheck rfl) rfl rfl ?_
   refine SL.val (Val.fieldAddr tabOk rfl rfl rfl rfl rfl) rfl rfl ?_
   refine SL.eff (Eff.store (L' := psA (bare l) true) tabOk rfl rfl rfl (by repeat first|assumption|exact Upd.here|apply Upd.there) rfl (lb_ (by rfl)) rfl (by rfl)) rfl rfl ?_
   rintro _ _ ⟨rfl, rfl⟩
   refine SL.nil (SE.seq ?_)
   refine SC.seq (SC.region ?_)
   refine SL.val (Val.assign rfl) rfl rfl ?_
   refine SL.nil (SE.seq ?_)
   refine SC.ret ?_
   refine SE.then_ nofun ?_
   have hnn : numT (bare l) = none := by
    first
     | exact numT_bad hc45
     | exact numT_long (by omega)
     | exact numT_other hgv.1 (by rw [← hgv.2]; assumption)
   obtain ⟨e1, e2, e3⟩ := num_none hnn odd
   refine SE.fin (rs := [.tmp 2]) rfl (RV.tmp rfl RV.nil) (()) (by rw [e1, e2]; repeat (first | exact List.nil_sublist _ | exact List.Sublist.refl _ | apply List.Sublist.cons_cons | apply List.Sublist.cons)) (by simp [It.rids]) ?_
   rw [e3]
   rfl
  intro hc49
  have hgv := good_val z9.2 hc45 (by omega)
  refine SL.val (Val.move rfl) rfl rfl ?_
  refine SL.call (itoa_s (es := es) (er := er) (v := z9.1.1) (by rw [hgv.2]; have h9 := decV_lt (digs (bare l)) (digs_dig _); have h10 : 10 ^ (digs (bare l)).length ≤ 10 ^ 4 := Nat.pow_le_pow_right (by omega) (by omega); simp only [InR, lo, hi]; omega)) Casts.refl (by kernel_rfl) rfl rfl rfl ?_
  refine ap_ ?_
  intro _
  refine SL.val (Val.move rfl) rfl rfl ?_
  refine SL.val (Val.to (C := boo (decide (¬ Lib.itoa z9.1.1 = (digs (bare l))))) (Val.neS rfl rfl) (congrArg (fun b => Abs.v (Value.bool b)) (decide_eq_decide.2 (not_congr st_eq)))) rfl rfl ?_
  refine SL.val (Val.pickF rfl rfl) rfl rfl ?_
  refine SL.nil (SE.seq ?_)
  refine SC.condP rfl ?_ ?_
  ·intro hc54
   refine SC.seq (SC.region ?_)
   refine SL.val (Val.move rfl) rfl rfl ?_
   refine SL.val (Val.nilCheck rfl) rfl rfl ?_
   refine SL.val (Val.fieldAddr tabOk rfl rfl rfl rfl rfl) rfl rfl ?_
   refine SL.eff (Eff.store (L' := psA (bare l) true) tabOk rfl rfl rfl (by repeat first|assumption|exact Upd.here|apply Upd.there) rfl (lb_ (by rfl)) rfl (by rfl)) rfl rfl ?_
   rintro _ _ ⟨rfl, rfl⟩
   refine SL.nil (SE.seq ?_)
   refine SC.seq (SC.region ?_)
   refine SL.val (Val.assign rfl) rfl rfl ?_
   refine SL.nil (SE.seq ?_)
   refine SC.ret ?_
   refine SE.then_ nofun ?_
   have hnn : numT (bare l) = none := by
    first
     | exact numT_bad hc45
     | exact numT_long (by omega)
     | exact numT_other hgv.1 (by rw [← hgv.2]; assumption)
   obtain ⟨e1, e2, e3⟩ := num_none hnn odd
   refine SE.fin (rs := [.tmp 2]) rfl (RV.tmp rfl RV.nil) (()) (by rw [e1, e2]; repeat (first | exact List.nil_sublist _ | exact List.Sublist.refl _ | apply List.Sublist.cons_cons | apply List.Sublist.cons)) (by simp [It.rids]) ?_
   rw [e3]
   rfl
  intro hc54
  refine SC.skip ?_
  refine SE.seq ?_
  refine SC.seq (SC.region ?_)
  iterate 2 refine SL.val (Val.move rfl) rfl rfl ?_
  refine SL.val (Val.nilCheck rfl) rfl rfl ?_
  refine SL.val (Val.fieldAddr tabOk rfl rfl rfl rfl rfl) rfl rfl ?_
  refine SL.val (Val.load1 tabOk rfl rfl (by repeat first|assumption|exact o0_|exact o1_|apply o2_) List.not_mem_nil (by rfl)) rfl rfl ?_
  refine SL.val (Val.move rfl) rfl rfl ?_
  refine SL.val (Val.to (C := stA ((bare l).drop (digs (bare l)).length)) (Val.sliceStLo (q := (digs (bare l)).length) Tryz.underlying9 rfl rfl rfl (by simp only [tx_size]; omega)) (st_lo _ _)) rfl rfl ?_
  refine SL.val (Val.nilCheck rfl) rfl rfl ?_
  refine SL.val (Val.fieldAddr tabOk rfl rfl rfl rfl rfl) rfl rfl ?_
  refine SL.eff (Eff.store (L' := psA ((bare l).drop (digs (bare l)).length) odd) tabOk rfl rfl rfl (by repeat first|assumption|exact Upd.here|apply Upd.there) rfl (lb_ (by rfl)) rfl (by rfl)) rfl rfl ?_
  rintro _ _ ⟨rfl, rfl⟩
  refine SL.nil (SE.seq ?_)
  refine SC.seq (SC.region ?_)
  refine SL.val (Val.move rfl) rfl rfl ?_
  refine SL.val (Val.assign rfl) rfl rfl ?_
  refine SL.nil (SE.seq ?_)
  refine SC.ret ?_
  have hi9 : Lib.itoa z9.1.1 = digs (bare l) := Classical.byContradiction fun h => hc54 h
  obtain ⟨e1, e2, e3⟩ := num_some (numT_own hgv.1 (by omega) (by rw [← hgv.2]; exact hi9)) odd
  refine SE.fin (rs := [.tmp 2]) rfl (RV.tmp rfl RV.nil) (()) (by rw [e1, e2]; repeat (first | exact List.nil_sublist _ | exact List.Sublist.refl _ | apply List.Sublist.cons_cons | apply List.Sublist.cons)) (by simp [It.rids]) ?_
  rw [e3, ← hgv.2]
  rfl
end
end Go.Proofs.YtickdhjljpnlpaaGreatDoor.A
/-
  Policies' texts, plain: what the program's parser leaves, step by step.
-/
namespace Go.Proofs.YtickdhjljpnlpaaGreatDoor.A
open Go.RowKit

/-- What the parser leaves behind a policy: what is left, whether it is odd, the policy. -/
def PolR (k : Nat) (l : Txt) (odd : Bool) (z : Txt × Bool × Frm) : Prop :=
  z.1.length ≤ l.length ∧ (odd = true → z.2.1 = true) ∧ (odd = false → polT k l = none → z.2.1 = true) ∧ (odd = false → ∀ x, polT k l = some x → z.2.1 = false ∧ bare z.1 = bare x.2 ∧ z.2.2 = x.1)
/-- And behind a row. -/
def RowF (k : Nat) (l : Txt) (odd : Bool) (z : Txt × Bool × List Frm) : Prop :=
  z.1.length ≤ l.length ∧ (odd = true → z.2.1 = true) ∧ (odd = false → rowT (polT k) l = none → z.2.1 = true) ∧ (odd = false → ∀ x, rowT (polT k) l = some x → z.2.1 = false ∧ z.1 = x.2 ∧ z.2.2 = x.1)
/-- At the head of a round. -/
structure RowI (k : Nat) (l : Txt) (odd : Bool) (z : Txt × Bool × List Frm) : Prop where
  len : z.1.length ≤ l.length
  few : z.2.2.length + (if z.2.1 = true then 0 else z.1.length + 1) ≤ l.length + 2
  off : odd = true → z.2.1 = true
  no : odd = false → z.2.1 = true → rowT (polT k) l = none
  go : odd = false → z.2.1 = false → ∃ F, z.1.length + 1 ≤ F ∧ rowT (polT k) l = rowL (polT k) F z.1 z.2.2
theorem takeT_yes {l wd : Txt} (h : begins (bare l) wd = true) : takeT l wd = (bare l).drop wd.length := if_pos h
theorem takeT_no {l wd : Txt} (h : ¬ begins (bare l) wd = true) : takeT l wd = bare l := if_neg h
theorem takeT_len (l wd : Txt) : (takeT l wd).length ≤ l.length := by
  have := bare_len l
  unfold takeT
  split
  · rw [List.length_drop]; omega
  · exact this
section
variable {k : Nat} {l : Txt} {odd : Bool} {z : Txt × Bool × List Frm} {y : Txt × Bool × Frm}
theorem RowI.start (h : begins (bare l) [40] = true) : RowI k l odd (takeT l [40], odd, []) := by
  have hl := takeT_len l [40]
  refine ⟨hl, (by dsimp only; split <;> simp <;> omega), fun h => h, fun h1 h2 => (by simp only at h2; rw [h1] at h2; cases h2), fun _ _ => ⟨l.length + 1, (by simp only; omega), ?_⟩⟩
  unfold rowT
  rw [if_pos h, takeT_yes h]
  rfl
theorem RowI.odd_ (h : ¬ begins (bare l) [40] = true) : RowI k l odd (takeT l [40], true, []) := by
  have hl := takeT_len l [40]
  exact ⟨hl, (by simp), fun _ => rfl, fun _ _ => if_neg h, fun _ h2 => (by cases h2)⟩
theorem RowI.done (h : RowI k l odd z) (ho : z.2.1 = true) : RowF k l odd z :=
  ⟨h.len, h.off, fun _ _ => ho, fun h1 x hx => (by rw [h.no h1 ho] at hx; cases hx)⟩
theorem RowI.step (h : RowI k l odd z) (ho : z.2.1 = false) (hy : PolR k z.1 z.2.1 y) :
    (begins (bare y.1) [41] = true → RowF k l odd (takeT y.1 [41], y.2.1, z.2.2 ++ [y.2.2])) ∧
    (¬ begins (bare y.1) [41] = true → begins (bare (takeT y.1 [41])) [44] = true → RowI k l odd (takeT (takeT y.1 [41]) [44], y.2.1, z.2.2 ++ [y.2.2]) ∧ (y.2.1 = true ∨ (takeT (takeT y.1 [41]) [44]).length < z.1.length)) ∧
    (¬ begins (bare y.1) [41] = true → ¬ begins (bare (takeT y.1 [41])) [44] = true → RowI k l odd (takeT (takeT y.1 [41]) [44], true, z.2.2 ++ [y.2.2])) := by
  obtain ⟨h1, h2, h3, h4⟩ := hy
  have hodd : odd = false := by
    cases odd with
    | true => have := h.off rfl; rw [ho] at this; cases this
    | false => rfl
  subst hodd
  obtain ⟨F, hF, hR⟩ := h.go rfl ho
  have hlen := h.len
  have hfew := h.few
  rw [ho] at hfew
  simp only [Bool.false_eq_true, if_false] at hfew
  have hb := bare_len y.1
  have t1 := takeT_len y.1 [41]
  have t2 := takeT_len (takeT y.1 [41]) [44]
  have hF1 : ∃ m, F = m + 1 := ⟨F - 1, (by omega)⟩
  obtain ⟨m, rfl⟩ := hF1
  cases hp : polT k z.1 with
  | none =>
    have hno := h3 ho hp
    have hR2 : rowT (polT k) l = none := by rw [hR]; unfold rowL; rw [hp]
    refine ⟨fun _ => ⟨(by simp only; omega), fun h => (by cases h), fun _ _ => hno, fun _ x hx => (by rw [hR2] at hx; cases hx)⟩, fun _ _ => ⟨⟨(by simp only; omega), ?_, fun h => (by cases h), fun _ _ => hR2, fun _ h9 => (by simp only at h9; rw [hno] at h9; cases h9)⟩, .inl hno⟩,
      fun _ _ => ⟨(by simp only; omega), ?_, fun h => (by cases h), fun _ _ => hR2, fun _ h9 => (by cases h9)⟩⟩
    · simp only [hno, if_true, List.length_append, List.length_singleton]; omega
    · simp only [if_true, List.length_append, List.length_singleton]; omega
  | some x =>
    obtain ⟨f, r⟩ := x
    obtain ⟨q1, q2, q3⟩ := h4 ho (f, r) hp
    have hs := polT_short k z.1 f r hp
    have hbr := bare_len r
    dsimp only at q2 q3
    have hR2 : rowL (polT k) (m + 1) z.1 z.2.2 = if begins (bare r) [41] = true then some (z.2.2 ++ [f], (bare r).drop 1) else if begins (bare r) [44] = true then rowL (polT k) m ((bare r).drop 1) (z.2.2 ++ [f]) else none := by
      conv => lhs; unfold rowL
      rw [hp]
    rw [hR2] at hR
    rw [q3, q1]
    rw [q2]
    refine ⟨fun hb1 => ?_, fun hb1 hb2 => ?_, fun hb1 hb2 => ?_⟩
    · have e : takeT y.1 [41] = (bare r).drop 1 := by rw [takeT_yes (by rw [q2]; exact hb1), q2]; rfl
      refine ⟨(by simp only; omega), fun h => (by cases h), fun _ hn => ?_, fun _ x hx => ?_⟩
      · rw [hR, if_pos hb1] at hn; cases hn
      · rw [hR, if_pos hb1] at hx
        cases hx
        exact ⟨rfl, e, rfl⟩
    · have e1 : takeT y.1 [41] = bare r := by rw [takeT_no (by rw [q2]; exact hb1), q2]
      rw [e1, bare_bare] at hb2
      have hbl := begins_len hb2
      have e2 : takeT (takeT y.1 [41]) [44] = (bare r).drop 1 := by rw [e1, takeT_yes (by rw [bare_bare]; exact hb2), bare_bare]; rfl
      have hl2 : ((bare r).drop 1).length < z.1.length := by rw [List.length_drop]; omega
      refine ⟨⟨(by simp only; omega), ?_, fun h => (by cases h), fun _ h9 => (by cases h9), fun _ _ => ⟨m, ?_, ?_⟩⟩, .inr (by rw [e2]; exact hl2)⟩
      · simp only [Bool.false_eq_true, if_false, List.length_append, List.length_singleton, e2]; omega
      · simp only [e2]; omega
      · rw [hR, if_neg hb1, if_pos hb2, e2]
    · have e1 : takeT y.1 [41] = bare r := by rw [takeT_no (by rw [q2]; exact hb1), q2]
      rw [e1, bare_bare] at hb2
      refine ⟨(by simp only; omega), ?_, fun h => (by cases h), fun _ _ => (by rw [hR, if_neg hb1, if_neg hb2]), fun _ h9 => (by cases h9)⟩
      simp only [if_true, List.length_append, List.length_singleton]; omega
end
/-! ### Policies -/
section
variable {k : Nat} {l : Txt} {odd : Bool} {y : Txt × Bool × Frm} {z : Txt × Bool × List Frm}
theorem PolR.deep : PolR 0 l odd (l, true, .mk 0 0 []) := ⟨Nat.le_refl _, fun _ => rfl, fun _ _ => rfl, fun _ x hx => (by cases hx)⟩
theorem PolR.was (h : odd = true) (f : Frm) : PolR k l odd (l, odd, f) := ⟨Nat.le_refl _, fun h => h, fun h2 => (by rw [h] at h2; cases h2), fun h2 => (by rw [h] at h2; cases h2)⟩
theorem PolR.all (h0 : odd = false) (hb : begins (bare l) [97, 108, 108] = true) (hz : RowF k (takeT l [97, 108, 108]) odd z) : PolR (k + 1) l odd (z.1, z.2.1, .mk 0 z.2.2.length z.2.2) := by
  obtain ⟨h1, h2, h3, h4⟩ := hz
  have ht := takeT_len l [97, 108, 108]
  have e : polT (k + 1) l = (rowT (polT k) (takeT l [97, 108, 108])).map fun x => (.mk 0 x.1.length x.1, x.2) := by
    conv => lhs; unfold polT
    rw [if_pos hb, takeT_yes hb]
    rfl
  refine ⟨(by simp only; omega), fun h => (by rw [h0] at h; cases h), fun _ hn => ?_, fun _ x hx => ?_⟩
  · cases hr : rowT (polT k) (takeT l [97, 108, 108]) with
    | none => exact h3 h0 hr
    | some x => rw [e, hr] at hn; cases hn
  · cases hr : rowT (polT k) (takeT l [97, 108, 108]) with
    | none => rw [e, hr] at hx; cases hx
    | some q =>
      rw [e, hr] at hx
      cases hx
      obtain ⟨r1, r2, r3⟩ := h4 h0 q hr
      exact ⟨r1, (by simp only [r2]), (by simp only [r3])⟩
theorem PolR.any (h0 : odd = false) (ha : ¬ begins (bare l) [97, 108, 108] = true) (hb : begins (bare l) [97, 110, 121] = true) (hz : RowF k (takeT (takeT l [97, 108, 108]) [97, 110, 121]) odd z) : PolR (k + 1) l odd (z.1, z.2.1, .mk 0 1 z.2.2) := by
  obtain ⟨h1, h2, h3, h4⟩ := hz
  have ht := takeT_len (takeT l [97, 108, 108]) [97, 110, 121]
  have ht2 := takeT_len l [97, 108, 108]
  have e0 : takeT l [97, 108, 108] = bare l := takeT_no ha
  have e1 : takeT (takeT l [97, 108, 108]) [97, 110, 121] = (bare l).drop 3 := by
    rw [e0, takeT_yes (by rw [bare_bare]; exact hb), bare_bare]
    rfl
  have e : polT (k + 1) l = (rowT (polT k) (takeT (takeT l [97, 108, 108]) [97, 110, 121])).map fun x => (.mk 0 1 x.1, x.2) := by
    conv => lhs; unfold polT
    rw [if_neg ha, if_pos hb, e1]
  refine ⟨(by simp only; omega), fun h => (by rw [h0] at h; cases h), fun _ hn => ?_, fun _ x hx => ?_⟩
  · cases hr : rowT (polT k) (takeT (takeT l [97, 108, 108]) [97, 110, 121]) with
    | none => exact h3 h0 hr
    | some x => rw [e, hr] at hn; cases hn
  · cases hr : rowT (polT k) (takeT (takeT l [97, 108, 108]) [97, 110, 121]) with
    | none => rw [e, hr] at hx; cases hx
    | some q =>
      rw [e, hr] at hx
      cases hx
      obtain ⟨r1, r2, r3⟩ := h4 h0 q hr
      exact ⟨r1, (by simp only [r2]), (by simp only [r3])⟩
/-- What is left behind 'all' and 'any', neither of which stands there. -/
theorem two_no (ha : ¬ begins (bare l) [97, 108, 108] = true) (hb : ¬ begins (bare (takeT l [97, 108, 108])) [97, 110, 121] = true) : takeT (takeT l [97, 108, 108]) [97, 110, 121] = bare l := by
  rw [takeT_no hb, takeT_no ha, bare_bare]
theorem numL_bare (l : Txt) (odd : Bool) : numL (bare l) = numL l ∧ numO (bare l) odd = numO l odd ∧ numV (bare l) = numV l := by
  unfold numL numO numV
  rw [bare_bare]
  exact ⟨rfl, rfl, rfl⟩
theorem numL_len (l : Txt) : (numL l).length ≤ l.length := by
  have hb := bare_len l
  unfold numL
  cases h : numT (bare l) with
  | none => exact hb
  | some x =>
    have := numT_short (v := x.1) (r := x.2) h
    show x.2.length ≤ _
    omega
theorem pol_num (ha : ¬ begins (bare l) [97, 108, 108] = true) (hb : ¬ begins (bare l) [97, 110, 121] = true) : polT (k + 1) l = match numT (bare l) with
    | none => none
    | some (v, r) => if begins (bare r) [111, 102] = true then (if 1 ≤ v ∧ v ≤ 99 then (rowT (polT k) ((bare r).drop 2)).map fun x => (.mk 0 v x.1, x.2) else none) else some (.mk v 0 [], r) := by
  conv => lhs; unfold polT
  rw [if_neg ha, if_neg hb]
  cases numT (bare l) with
  | none => rfl
  | some x => obtain ⟨v, r⟩ := x; rfl
/-- No number, or a number alone. -/
theorem PolR.org (h0 : odd = false) (ha : ¬ begins (bare l) [97, 108, 108] = true) (hb : ¬ begins (bare l) [97, 110, 121] = true) (hn : ¬ (numO l odd = false ∧ begins (bare (numL l)) [111, 102] = true)) (t : Txt) (ht : t = numL l ∨ t = bare (numL l)) :
    PolR (k + 1) l odd (t, numO l odd, .mk (numV l) 0 []) := by
  have e := pol_num (k := k) ha hb
  have hl := numL_len l
  have hbl := bare_len (numL l)
  have htl : t.length ≤ l.length := by rcases ht with rfl | rfl <;> omega
  have htb : bare t = bare (numL l) := by
    rcases ht with rfl | rfl
    · rfl
    · rw [bare_bare]
  cases hq : numT (bare l) with
  | none =>
    rw [hq] at e
    obtain ⟨q1, q2, q3⟩ := num_none hq odd
    exact ⟨htl, fun h => (by rw [h0] at h; cases h), fun _ _ => q2, fun _ x hx => (by rw [e] at hx; cases hx)⟩
  | some x =>
    obtain ⟨v, r⟩ := x
    rw [hq] at e
    obtain ⟨q1, q2, q3⟩ := num_some hq odd
    rw [q1, q2] at hn
    have hof : ¬ begins (bare r) [111, 102] = true := fun h => hn ⟨h0, h⟩
    dsimp only at e
    rw [if_neg hof] at e
    refine ⟨htl, fun h => (by rw [h0] at h; cases h), fun _ h => (by rw [e] at h; cases h), fun _ x hx => ?_⟩
    rw [e] at hx
    cases hx
    exact ⟨q2.trans h0, (by rw [htb, q1]), (by rw [q3])⟩
/-- So many of a row. -/
theorem PolR.of (h0 : odd = false) (ha : ¬ begins (bare l) [97, 108, 108] = true) (hb : ¬ begins (bare l) [97, 110, 121] = true) (hq : numO l odd = false) (hof : begins (bare (numL l)) [111, 102] = true) {o2 : Bool} (ho : o2 = (numO l odd || decide (numV l < 1 ∨ 99 < numV l)))
    (hz : RowF k (takeT (numL l) [111, 102]) o2 z) : PolR (k + 1) l odd (z.1, z.2.1, .mk 0 (numV l) z.2.2) := by
  have e := pol_num (k := k) ha hb
  have hl := numL_len l
  have ht := takeT_len (numL l) [111, 102]
  obtain ⟨h1, h2, h3, h4⟩ := hz
  cases hn : numT (bare l) with
  | none =>
    have := (num_none hn odd).2.1
    rw [hq] at this
    cases this
  | some x =>
    obtain ⟨v, r⟩ := x
    rw [hn] at e
    obtain ⟨q1, q2, q3⟩ := num_some hn odd
    rw [q1] at hof hl ht h1 h3 h4
    rw [hq, q3, Bool.false_or] at ho
    dsimp only at e
    rw [if_pos hof] at e
    have e2 : takeT r [111, 102] = (bare r).drop 2 := takeT_yes hof
    rw [e2] at h3 h4
    by_cases hv : 1 ≤ v ∧ v ≤ 99
    · rw [if_pos hv] at e
      have ho2 : o2 = false := by rw [ho]; exact decide_eq_false (by omega)
      refine ⟨(by simp only; omega), fun h => (by rw [h0] at h; cases h), fun _ hn2 => ?_, fun _ x hx => ?_⟩
      · cases hr : rowT (polT k) ((bare r).drop 2) with
        | none => exact h3 ho2 hr
        | some x => rw [e, hr] at hn2; cases hn2
      · cases hr : rowT (polT k) ((bare r).drop 2) with
        | none => rw [e, hr] at hx; cases hx
        | some q =>
          rw [e, hr] at hx
          cases hx
          obtain ⟨r1, r2, r3⟩ := h4 ho2 q hr
          exact ⟨r1, (by simp only [r2]), (by simp only [r3, q3])⟩
    · rw [if_neg hv] at e
      have ho2 : o2 = true := by rw [ho]; exact decide_eq_true (by omega)
      exact ⟨(by simp only; omega), fun h => (by rw [h0] at h; cases h), fun _ _ => h2 ho2, fun _ x hx => (by rw [e] at hx; cases hx)⟩
end
end Go.Proofs.YtickdhjljpnlpaaGreatDoor.A
/-
  Policies' texts: rows and policies, read by the program.
-/
namespace Go.Proofs.YtickdhjljpnlpaaGreatDoor.A
open Go.RowKit

section
variable {l wd : Txt} {odd : Bool} {p : Nat} {es er : Value} {k : Nat} {d : Int}
theorem row_less {o o2 : Bool} {a b : Nat} (ho : o = false) (h : o2 = true ∨ a < b) : (if o2 = true then 0 else a + 1) < if o = true then 0 else b + 1 := by
  subst ho
  rcases h with rfl | h
  · simp
  · simp only [Bool.false_eq_true, if_false]
    split <;> omega
theorem pol0_s (hl : l.length ≤ 1000) : Spec Tryz.prog 118 [ptr p, int 11] (.blk p 158 (psA (l) odd) :: globs es er) (fun z : {z : Txt × Bool × Frm // PolR 0 l odd z} => [.blk p 158 (psA z.1.1 z.1.2.1)]) (fun z => .agg z.1.2.2.abs) := by
 refine spec_of Tryz.func118 rfl Tryz.ntmps118 rfl fun G w => ?_
 refine SC.seq (SC.region ?_)
 refine SL.eff (Eff.alloc tabOk rfl) rfl rfl ?_
 rintro _ _ ⟨b4, rfl, rfl⟩
 refine SL.nil (SE.seq ?_)
 refine SC.seq ?_
 refine SC.seq (SC.region ?_)
 refine SL.val (Val.move rfl) rfl rfl ?_
 refine SL.val (Val.gtI rfl rfl) rfl rfl ?_
 refine SL.nil (SE.seq ?_)
 refine SC.condP rfl ?_ (by intro hc8; exfalso; omega)
 intro hc8
 refine SC.region ?_
 refine SL.val (Val.move rfl) rfl rfl ?_
 refine SL.val (Val.nilCheck rfl) rfl rfl ?_
 refine SL.val (Val.fieldAddr tabOk rfl rfl rfl rfl rfl) rfl rfl ?_
 refine SL.eff (Eff.store (L' := psA l true) tabOk rfl rfl rfl (by repeat first|assumption|exact Upd.here|apply Upd.there) rfl (lb_ (by rfl)) rfl (by rfl)) rfl rfl ?_
 rintro _ _ ⟨rfl, rfl⟩
 refine SL.nil (SE.seq ?_)
 refine SC.seq ?_
 refine SC.seq (SC.region ?_)
 refine SL.val (Val.move rfl) rfl rfl ?_
 refine SL.val (Val.nilCheck rfl) rfl rfl ?_
 refine SL.val (Val.fieldAddr tabOk rfl rfl rfl rfl rfl) rfl rfl ?_
 refine SL.val (Val.load1 tabOk rfl rfl (by repeat first|assumption|exact o0_|exact o1_|apply o2_) List.not_mem_nil (by rfl)) rfl rfl ?_
 refine SL.nil (SE.seq ?_)
 refine SC.cond rfl ?_ (by intro hc15; exfalso; cases hc15)
 intro hc15
 refine SC.seq (SC.region ?_)
 refine SL.val (Val.buildS tabOk rfl rfl rfl rfl) rfl rfl ?_
 refine SL.eff (Eff.store tabOk rfl rfl rfl (by repeat first|assumption|exact Upd.here|apply Upd.there) (by rfl) (lb_ (by rfl)) (by rfl) (by rfl)) rfl rfl ?_
 rintro _ _ ⟨rfl, rfl⟩
 refine SL.nil (SE.seq ?_)
 refine SC.ret ?_
 refine SE.then_ nofun ?_
 refine SE.finC (rs := [.cell 4 130]) rfl (RV.cell rfl (RV.cellA tabOk rfl rfl (by repeat first|assumption|exact o0_|exact o1_|apply o2_) (by rfl)) RV.nil) (Casts.cons (cast_agg (Casts.keep (Casts.keep (Casts.nils (s := 3) Casts.refl)))) Casts.refl) (⟨(l, true, .mk 0 0 []), PolR.deep⟩) (by repeat first|exact s0_ _|exact s1_ _|apply s2_|apply s3_) (by simp [It.rids]) ?_
 first
  | exact congrArg Abs.agg (Frm.abs_mk _ _ _).symm
  | rfl
set_option maxHeartbeats 1000000 in
theorem trow_s (he : isIf es) (hr : isIf er) (hd : 0 ≤ d ∧ d ≤ 100) (hp : ∀ (l : Txt) (odd : Bool), l.length ≤ 1000 → Spec Tryz.prog 118 [ptr p, int (d + 1)] (.blk p 158 (psA (l) odd) :: globs es er) (fun z : {z : Txt × Bool × Frm // PolR k l odd z} => [.blk p 158 (psA z.1.1 z.1.2.1)]) (fun z => .agg z.1.2.2.abs)) (hl : l.length ≤ 1000) : Spec Tryz.prog 137 [ptr p, int d] (.blk p 158 (psA (l) odd) :: globs es er) (fun z : {z : Txt × Bool × List Frm // RowF k l odd z} => [.blk p 158 (psA z.1.1 z.1.2.1)]) (fun z => .sl 3 (z.1.2.2.map Frm.abs)) := by
 refine spec_of Tryz.func137 rfl Tryz.ntmps137 rfl fun G w => ?_
 refine SC.seq (SC.region ?_)
 refine SL.val (Val.assign rfl) rfl rfl ?_
 refine SL.nil (SE.seq ?_)
 refine SC.cutS (ι := Txt × Bool) (fun z => (.blk p 158 (psA (z.1) z.2) :: globs es er)) (fun z => [(0, ptr p), (1, int d)]) (fun z => RowI k l odd (z.1, z.2, [])) ?_ ?_
 ·skip
  refine SC.seq (SC.region ?_)
  refine SL.val (Val.move rfl) rfl rfl ?_
  refine SL.call (take_s (p := p) (l := l) (odd := odd) (wd := [40])) Casts.refl (by kernel_rfl) rfl rfl rfl ?_
  refine After.one rfl (by repeat first|assumption|exact m0_|apply m1_) (fun _ => rfl) ?_
  intro _
  refine ⟨_, (by repeat first|assumption|exact Upd.here|apply Upd.there), ?_⟩
  refine SL.val (Val.notB rfl) rfl rfl ?_
  refine SL.nil (SE.seq ?_)
  refine SC.cond rfl ?_ ?_
  rotate_left
  ·intro hc8
   refine SC.skip ?_
   refine SE.meet (takeT l [40], odd) (RowI.start (by simpa using hc8)) (by exact ⟨rfl, rfl, trivial⟩) (by repeat first|exact s0_ _|exact s1_ _|apply s2_|apply s3_)
  intro hc8
  refine SC.region ?_
  refine SL.val (Val.move rfl) rfl rfl ?_
  refine SL.val (Val.nilCheck rfl) rfl rfl ?_
  refine SL.val (Val.fieldAddr tabOk rfl rfl rfl rfl rfl) rfl rfl ?_
  refine SL.eff (Eff.store (L' := psA (takeT l [40]) true) tabOk rfl rfl rfl (by repeat first|assumption|exact Upd.here|apply Upd.there) rfl (lb_ (by rfl)) rfl (by rfl)) rfl rfl ?_
  rintro _ _ ⟨rfl, rfl⟩
  refine SL.nil ?_
  refine SE.meet (takeT l [40], true) (RowI.odd_ (by simpa using hc8)) (by exact ⟨rfl, rfl, trivial⟩) (by repeat first|exact s0_ _|exact s1_ _|apply s2_|apply s3_)
 ·intro z hz
  refine SC.seq (SC.region ?_)
  refine SL.val (Val.assign rfl) rfl rfl ?_
  refine SL.nil (SE.seq ?_)
  refine SC.seq ?_
  refine SC.block ?_
  refine SC.own0 130 3 ?_
  refine SC.loop (ι := Txt × Bool × List Frm × Value) (fun z => own 130 3 z.2.2.2 (z.2.2.1.map Frm.abs) :: (.blk p 158 (psA (z.1) z.2.1) :: globs es er)) (fun z => [(0, ptr p), (1, int d), (5, .v z.2.2.2)]) (fun z => RowI k l odd (z.1, z.2.1, z.2.2.1)) (fun z => if z.2.1 = true then 0 else z.1.length + 1) (z.1, z.2, [], .slice none 0 0) (hz) (by exact ⟨rfl, rfl, rfl, trivial⟩) (by repeat first|exact s0_ _|exact s1_ _|apply s2_|apply s3_) ?_
  intro z hz
  refine SC.seq ?_
  refine SC.seq (SC.region ?_)
  refine SL.val (Val.move rfl) rfl rfl ?_
  refine SL.val (Val.nilCheck rfl) rfl rfl ?_
  refine SL.val (Val.fieldAddr tabOk rfl rfl rfl rfl rfl) rfl rfl ?_
  refine SL.val (Val.load1 tabOk rfl rfl (by repeat first|assumption|exact o0_|exact o1_|apply o2_) List.not_mem_nil (by rfl)) rfl rfl ?_
  refine SL.val (Val.notB rfl) rfl rfl ?_
  refine SL.nil (SE.seq ?_)
  refine SC.cond rfl ?_ ?_
  rotate_left
  ·intro hc16
   have hod : z.2.1 = true := by simpa using hc16
   refine SC.exit ?_
   refine SE.then_ nofun ?_
   refine SE.then_ nofun ?_
   refine SE.exit ?_
   refine SE.seq ?_
   refine SC.seq (SC.region ?_)
   refine SL.val (Val.move rfl) rfl rfl ?_
   refine SL.val (Val.assign rfl) rfl rfl ?_
   refine SL.nil (SE.seq ?_)
   refine SC.ret ?_
   refine SE.freeze [] (t := 4) rfl rfl ?_
   refine SE.fin (rs := [.tmp 4]) rfl (RV.tmp rfl RV.nil) (⟨(z.1, z.2.1, z.2.2.1), hz.done hod⟩) (by repeat first|exact s0_ _|exact s1_ _|apply s2_|apply s3_) (by simp [It.rids]) ?_
   exact rfl
  intro hc16
  have hod : z.2.1 = false := by simpa using hc16
  have hzl : z.1.length ≤ l.length := hz.len
  have hzf : z.2.2.1.length ≤ l.length + 2 := Nat.le_trans (Nat.le_add_right _ _) hz.few
  refine SC.skip ?_
  refine SE.seq ?_
  refine SC.block ?_
  refine SC.seq (SC.region ?_)
  iterate 3 refine SL.val (Val.move rfl) rfl rfl ?_
  first
   | refine SL.val (Val.addI rfl rfl (by simp only [InR, lo, hi]; omega)) rfl rfl ?_
   | refine SL.val (Val.addW rfl rfl) rfl rfl ?_
  refine SL.call (hp z.1 z.2.1 (by omega)) Casts.refl (by kernel_rfl) rfl rfl rfl ?_
  refine After.oneR (ys := globs es er) rfl (by repeat first|assumption|exact m0_|apply m1_) (by intro y hy; simp only [globs, List.mem_cons, List.not_mem_nil, or_false] at hy; rcases hy with rfl | rfl | rfl <;> exact ⟨by repeat first|assumption|exact m0_|apply m1_, by intro h; cases h⟩) rfl (fun _ => rfl) ?_
  intro y
  refine ⟨_, (by repeat first|assumption|exact Upd.here|apply Upd.there), ?_⟩
  refine SL.eff (Eff.buildSl tabOk Tryz.underlying128 rfl rfl rfl (elems_one (Frm.abs_len _)) rfl rfl rfl) rfl rfl ?_
  rintro _ _ ⟨rfl, rfl⟩
  refine SL.eff (Eff.appendE (zs := (z.2.2.1 ++ [y.1.2.2]).map Frm.abs) tabOk [] (by rw [List.map_append]; rfl) Tryz.underlying128 rfl rfl rfl rfl rfl rfl (by intro c hc; rw [List.mem_singleton] at hc; subst hc; exact Frm.abs_ones _) (by unfold maxLen; simp only [List.length_map, List.length_cons, List.length_nil]; omega) (by rw [show Tryz.prog.bytesOf 130 = 40 by kernel_rfl]; simp only [List.length_map, List.length_cons, List.length_nil]; omega)) rfl rfl ?_
  rintro _ _ ⟨r23, rfl, rfl⟩
  refine SL.val (Val.assign rfl) rfl rfl ?_
  refine SL.nil (SE.seq ?_)
  refine SC.seq ?_
  refine SC.seq (SC.region ?_)
  refine SL.val (Val.move rfl) rfl rfl ?_
  refine SL.call (take_s (p := p) (l := y.1.1) (odd := y.1.2.1) (wd := [41])) Casts.refl (by kernel_rfl) rfl rfl rfl ?_
  refine After.one rfl (by repeat first|assumption|exact m0_|apply m1_) (fun _ => rfl) ?_
  intro _
  refine ⟨_, (by repeat first|assumption|exact Upd.here|apply Upd.there), ?_⟩
  refine SL.nil (SE.seq ?_)
  refine SC.cond rfl ?_ ?_
  ·intro hc25
   refine SC.exit ?_
   refine SE.then_ nofun ?_
   refine SE.exit_ rfl ?_
   refine SE.then_ nofun ?_
   refine SE.exit ?_
   refine SE.seq ?_
   refine SC.seq (SC.region ?_)
   refine SL.val (Val.move rfl) rfl rfl ?_
   refine SL.val (Val.assign rfl) rfl rfl ?_
   refine SL.nil (SE.seq ?_)
   refine SC.ret ?_
   refine SE.freeze [] (t := 4) rfl rfl ?_
   refine SE.fin (rs := [.tmp 4]) rfl (RV.tmp rfl RV.nil) (⟨(takeT y.1.1 [41], y.1.2.1, z.2.2.1 ++ [y.1.2.2]), (hz.step hod y.2).1 hc25⟩) (by repeat first|exact s0_ _|exact s1_ _|apply s2_|apply s3_) (by simp [It.rids]) ?_
   exact rfl
  intro hc25
  refine SC.skip ?_
  refine SE.seq ?_
  refine SC.seq (SC.region ?_)
  refine SL.val (Val.move rfl) rfl rfl ?_
  refine SL.call (take_s (p := p) (l := takeT y.1.1 [41]) (odd := y.1.2.1) (wd := [44])) Casts.refl (by kernel_rfl) rfl rfl rfl ?_
  refine After.one rfl (by repeat first|assumption|exact m0_|apply m1_) (fun _ => rfl) ?_
  intro _
  refine ⟨_, (by repeat first|assumption|exact Upd.here|apply Upd.there), ?_⟩
  refine SL.val (Val.notB rfl) rfl rfl ?_
  refine SL.nil (SE.seq ?_)
  refine SC.cond rfl ?_ ?_
  rotate_left
  ·intro hc28
   refine SC.skip ?_
   refine SE.inBlock ?_
   have hst := (hz.step hod y.2).2.1 (by rw [hc25]; decide) (by simpa using hc28)
   refine SE.round (takeT (takeT y.1.1 [41]) [44], y.1.2.1, z.2.2.1 ++ [y.1.2.2], r23) (row_less hod hst.2) (hst.1) (by exact ⟨rfl, rfl, rfl, trivial⟩) (by repeat first|exact s0_ _|exact s1_ _|apply s2_|apply s3_)
  intro hc28
  refine SC.region ?_
  refine SL.val (Val.move rfl) rfl rfl ?_
  refine SL.val (Val.nilCheck rfl) rfl rfl ?_
  refine SL.val (Val.fieldAddr tabOk rfl rfl rfl rfl rfl) rfl rfl ?_
  refine SL.eff (Eff.store (L' := psA (takeT (takeT y.1.1 [41]) [44]) true) tabOk rfl rfl rfl (by repeat first|assumption|exact Upd.here|apply Upd.there) rfl (lb_ (by rfl)) rfl (by rfl)) rfl rfl ?_
  rintro _ _ ⟨rfl, rfl⟩
  refine SL.nil ?_
  refine SE.inBlock ?_
  refine SE.round (takeT (takeT y.1.1 [41]) [44], true, z.2.2.1 ++ [y.1.2.2], r23) (by simp [hod]) ((hz.step hod y.2).2.2 (by rw [hc25]; decide) (by simpa using hc28)) (by exact ⟨rfl, rfl, rfl, trivial⟩) (by repeat first|exact s0_ _|exact s1_ _|apply s2_|apply s3_)
set_option maxHeartbeats 2000000 in
theorem pol_step (he : isIf es) (hr : isIf er) (hd : 1 ≤ d ∧ d ≤ 10) (hp : ∀ (l : Txt) (odd : Bool), l.length ≤ 1000 → Spec Tryz.prog 118 [ptr p, int (d + 1)] (.blk p 158 (psA (l) odd) :: globs es er) (fun z : {z : Txt × Bool × Frm // PolR k l odd z} => [.blk p 158 (psA z.1.1 z.1.2.1)]) (fun z => .agg z.1.2.2.abs)) (hl : l.length ≤ 1000) : Spec Tryz.prog 118 [ptr p, int d] (.blk p 158 (psA (l) odd) :: globs es er) (fun z : {z : Txt × Bool × Frm // PolR (k + 1) l odd z} => [.blk p 158 (psA z.1.1 z.1.2.1)]) (fun z => .agg z.1.2.2.abs) := by
 have hbl := bare_len l
 have hl1 := takeT_len l [97, 108, 108]
 have hl2 := takeT_len (takeT l [97, 108, 108]) [97, 110, 121]
 have hl3 := numL_len l
 have hl4 := takeT_len (numL l) [111, 102]
 refine spec_of Tryz.func118 rfl Tryz.ntmps118 rfl fun G w => ?_
 refine SC.seq (SC.region ?_)
 refine SL.eff (Eff.alloc tabOk rfl) rfl rfl ?_
 rintro _ _ ⟨b4, rfl, rfl⟩
 refine SL.nil (SE.seq ?_)
 refine SC.seq ?_
 refine SC.seq (SC.region ?_)
 refine SL.val (Val.move rfl) rfl rfl ?_
 refine SL.val (Val.gtI rfl rfl) rfl rfl ?_
 refine SL.nil (SE.seq ?_)
 refine SC.condP rfl (by intro hc8; exfalso; omega) ?_
 intro hc8
 refine SC.skip ?_
 refine SE.seq ?_
 refine SC.seq ?_
 refine SC.seq (SC.region ?_)
 refine SL.val (Val.move rfl) rfl rfl ?_
 refine SL.val (Val.nilCheck rfl) rfl rfl ?_
 refine SL.val (Val.fieldAddr tabOk rfl rfl rfl rfl rfl) rfl rfl ?_
 refine SL.val (Val.load1 tabOk rfl rfl (by repeat first|assumption|exact o0_|exact o1_|apply o2_) List.not_mem_nil (by rfl)) rfl rfl ?_
 refine SL.nil (SE.seq ?_)
 refine SC.cond rfl ?_ ?_
 ·intro hc15
  refine SC.seq (SC.region ?_)
  refine SL.val (Val.buildS tabOk rfl rfl rfl rfl) rfl rfl ?_
  refine SL.eff (Eff.store tabOk rfl rfl rfl (by repeat first|assumption|exact Upd.here|apply Upd.there) (by rfl) (lb_ (by rfl)) (by rfl) (by rfl)) rfl rfl ?_
  rintro _ _ ⟨rfl, rfl⟩
  refine SL.nil (SE.seq ?_)
  refine SC.ret ?_
  refine SE.then_ nofun ?_
  refine SE.finC (rs := [.cell 4 130]) rfl (RV.cell rfl (RV.cellA tabOk rfl rfl (by repeat first|assumption|exact o0_|exact o1_|apply o2_) (by rfl)) RV.nil) (Casts.cons (cast_agg (Casts.keep (Casts.keep (Casts.nils (s := 3) Casts.refl)))) Casts.refl) (⟨(l, odd, .mk 0 0 []), PolR.was hc15 _⟩) (by repeat first|exact s0_ _|exact s1_ _|apply s2_|apply s3_) (by simp [It.rids]) ?_
  first
   | exact congrArg Abs.agg (Frm.abs_mk _ _ _).symm
   | rfl
 intro hc15
 refine SC.skip ?_
 refine SE.seq ?_
 refine SC.seq ?_
 refine SC.block ?_
 refine SC.seq (SC.region ?_)
 refine SL.val (Val.move rfl) rfl rfl ?_
 refine SL.call (take_s (p := p) (l := l) (odd := odd) (wd := [97, 108, 108])) Casts.refl (by kernel_rfl) rfl rfl rfl ?_
 refine After.one rfl (by repeat first|assumption|exact m0_|apply m1_) (fun _ => rfl) ?_
 intro _
 refine ⟨_, (by repeat first|assumption|exact Upd.here|apply Upd.there), ?_⟩
 refine SL.val (Val.assign rfl) rfl rfl ?_
 refine SL.nil (SE.seq ?_)
 refine SC.cond rfl ?_ ?_
 ·intro hc17
  refine SC.seq (SC.region ?_)
  iterate 2 refine SL.val (Val.move rfl) rfl rfl ?_
  refine SL.call (trow_s (p := p) (l := takeT l [97, 108, 108]) (odd := odd) he hr (by omega) hp (by omega)) Casts.refl (by kernel_rfl) rfl rfl rfl ?_
  refine After.oneR (ys := globs es er) rfl (by repeat first|assumption|exact m0_|apply m1_) (by intro y hy; simp only [globs, List.mem_cons, List.not_mem_nil, or_false] at hy; rcases hy with rfl | rfl | rfl <;> exact ⟨by repeat first|assumption|exact m0_|apply m1_, by intro h; cases h⟩) rfl (fun _ => rfl) ?_
  intro y
  refine ⟨_, (by repeat first|assumption|exact Upd.here|apply Upd.there), ?_⟩
  refine SL.val (Val.assign rfl) rfl rfl ?_
  refine SL.nil (SE.seq ?_)
  refine SC.seq (SC.region ?_)
  refine SL.val (Val.move rfl) rfl rfl ?_
  first
   | refine SL.val (Val.lenSl rfl Tryz.underlying128 (List.length_map _)) rfl rfl ?_
   | refine SL.val (Val.lenOwn rfl (by repeat first|assumption|exact m0_|apply m1_) Tryz.underlying128 (List.length_map _)) rfl rfl ?_
   | refine SL.val (Val.lenNil rfl Tryz.underlying128) rfl rfl ?_
  refine SL.val (Val.move rfl) rfl rfl ?_
  refine SL.val (Val.buildS tabOk rfl rfl rfl rfl) rfl rfl ?_
  refine SL.eff (Eff.store tabOk rfl rfl rfl (by repeat first|assumption|exact Upd.here|apply Upd.there) (by rfl) (lb_ (by rfl)) (by rfl) (by rfl)) rfl rfl ?_
  rintro _ _ ⟨rfl, rfl⟩
  refine SL.nil (SE.seq ?_)
  refine SC.ret ?_
  refine SE.ret ?_
  refine SE.then_ nofun ?_
  refine SE.fin (rs := [.cell 4 130]) rfl (RV.cell rfl (RV.cellA tabOk rfl rfl (by repeat first|assumption|exact o0_|exact o1_|apply o2_) (by rfl)) RV.nil) (⟨(y.1.1, y.1.2.1, .mk 0 y.1.2.2.length y.1.2.2), PolR.all hc15 hc17 y.2⟩) (by repeat first|exact s0_ _|exact s1_ _|apply s2_|apply s3_) (by simp [It.rids]) ?_
  first
   | exact congrArg Abs.agg (Frm.abs_mk _ _ _).symm
   | rfl
 intro hc17
 have ha : ¬ begins (bare l) [97, 108, 108] = true := by rw [hc17]; decide
 refine SC.seq (SC.region ?_)
 refine SL.val (Val.move rfl) rfl rfl ?_
 refine SL.call (take_s (p := p) (l := takeT l [97, 108, 108]) (odd := odd) (wd := [97, 110, 121])) Casts.refl (by kernel_rfl) rfl rfl rfl ?_
 refine After.one rfl (by repeat first|assumption|exact m0_|apply m1_) (fun _ => rfl) ?_
 intro _
 refine ⟨_, (by repeat first|assumption|exact Upd.here|apply Upd.there), ?_⟩
 refine SL.val (Val.assign rfl) rfl rfl ?_
 refine SL.nil (SE.seq ?_)
 refine SC.cond rfl ?_ ?_
 ·intro hc27
  have hb : begins (bare l) [97, 110, 121] = true := by
   have h9 := hc27
   rw [takeT_no ha, bare_bare] at h9
   exact h9
  refine SC.seq (SC.region ?_)
  iterate 2 refine SL.val (Val.move rfl) rfl rfl ?_
  refine SL.call (trow_s (p := p) (l := takeT (takeT l [97, 108, 108]) [97, 110, 121]) (odd := odd) he hr (by omega) hp (by omega)) Casts.refl (by kernel_rfl) rfl rfl rfl ?_
  refine After.oneR (ys := globs es er) rfl (by repeat first|assumption|exact m0_|apply m1_) (by intro y hy; simp only [globs, List.mem_cons, List.not_mem_nil, or_false] at hy; rcases hy with rfl | rfl | rfl <;> exact ⟨by repeat first|assumption|exact m0_|apply m1_, by intro h; cases h⟩) rfl (fun _ => rfl) ?_
  intro y
  refine ⟨_, (by repeat first|assumption|exact Upd.here|apply Upd.there), ?_⟩
  refine SL.val (Val.buildS tabOk rfl rfl rfl rfl) rfl rfl ?_
  refine SL.eff (Eff.store tabOk rfl rfl rfl (by repeat first|assumption|exact Upd.here|apply Upd.there) (by rfl) (lb_ (by rfl)) (by rfl) (by rfl)) rfl rfl ?_
  rintro _ _ ⟨rfl, rfl⟩
  refine SL.nil (SE.seq ?_)
  refine SC.ret ?_
  refine SE.ret ?_
  refine SE.then_ nofun ?_
  refine SE.fin (rs := [.cell 4 130]) rfl (RV.cell rfl (RV.cellA tabOk rfl rfl (by repeat first|assumption|exact o0_|exact o1_|apply o2_) (by rfl)) RV.nil) (⟨(y.1.1, y.1.2.1, .mk 0 1 y.1.2.2), PolR.any hc15 ha hb y.2⟩) (by repeat first|exact s0_ _|exact s1_ _|apply s2_|apply s3_) (by simp [It.rids]) ?_
  first
   | exact congrArg Abs.agg (Frm.abs_mk _ _ _).symm
   | rfl
 intro hc27
 have hb2 : ¬ begins (bare (takeT l [97, 108, 108])) [97, 110, 121] = true := by rw [hc27]; decide
 have hb : ¬ begins (bare l) [97, 110, 121] = true := by
  have h9 := hb2
  rw [takeT_no ha, bare_bare] at h9
  exact h9
 rw [two_no ha hb2]
 refine SC.skip ?_
 refine SE.inBlock ?_
 refine SE.seq ?_
 refine SC.seq (SC.region ?_)
 refine SL.val (Val.move rfl) rfl rfl ?_
 refine SL.call (tnum_s (p := p) (l := bare l) (odd := odd) he hr (by omega)) Casts.refl (by kernel_rfl) rfl rfl rfl ?_
 refine After.oneR (ys := globs es er) rfl (by repeat first|assumption|exact m0_|apply m1_) (by intro y hy; simp only [globs, List.mem_cons, List.not_mem_nil, or_false] at hy; rcases hy with rfl | rfl | rfl <;> exact ⟨by repeat first|assumption|exact m0_|apply m1_, by intro h; cases h⟩) rfl (fun _ => rfl) ?_
 intro _
 refine ⟨_, (by repeat first|assumption|exact Upd.here|apply Upd.there), ?_⟩
 rw [(numL_bare l odd).1, (numL_bare l odd).2.1, (numL_bare l odd).2.2]
 refine SL.val (Val.assign rfl) rfl rfl ?_
 refine SL.nil (SE.seq ?_)
 refine SC.seq ?_
 refine SC.seq (SC.region ?_)
 refine SL.val (Val.move rfl) rfl rfl ?_
 refine SL.val (Val.nilCheck rfl) rfl rfl ?_
 refine SL.val (Val.fieldAddr tabOk rfl rfl rfl rfl rfl) rfl rfl ?_
 refine SL.val (Val.load1 tabOk rfl rfl (by repeat first|assumption|exact o0_|exact o1_|apply o2_) List.not_mem_nil (by rfl)) rfl rfl ?_
 refine SL.val (Val.move rfl) rfl rfl ?_
 refine SL.both (t := 40) rfl ?_ ?_
 ·intro hc40
  iterate 3 refine SL.skip rfl rfl ?_
  refine SL.val (Val.pickT rfl rfl) rfl rfl ?_
  refine SL.nil (SE.seq ?_)
  refine SC.condT rfl ?_
  refine SC.seq (SC.region ?_)
  refine SL.val (Val.move rfl) rfl rfl ?_
  refine SL.val (Val.buildS tabOk rfl rfl rfl rfl) rfl rfl ?_
  refine SL.eff (Eff.store tabOk rfl rfl rfl (by repeat first|assumption|exact Upd.here|apply Upd.there) (by rfl) (lb_ (by rfl)) (by rfl) (by rfl)) rfl rfl ?_
  rintro _ _ ⟨rfl, rfl⟩
  refine SL.nil (SE.seq ?_)
  refine SC.ret ?_
  refine SE.then_ nofun ?_
  refine SE.finC (rs := [.cell 4 130]) rfl (RV.cell rfl (RV.cellA tabOk rfl rfl (by repeat first|assumption|exact o0_|exact o1_|apply o2_) (by rfl)) RV.nil) (Casts.cons (cast_agg (Casts.keep (Casts.keep (Casts.nils (s := 3) Casts.refl)))) Casts.refl) (⟨(numL l, numO l odd, .mk (numV l) 0 []), PolR.org hc15 ha hb (fun h => by rw [hc40] at h; cases h.1) _ (.inl rfl)⟩) (by repeat first|exact s0_ _|exact s1_ _|apply s2_|apply s3_) (by simp [It.rids]) ?_
  first
   | exact congrArg Abs.agg (Frm.abs_mk _ _ _).symm
   | rfl
 intro hc40
 refine SL.val (Val.move rfl) rfl rfl ?_
 refine SL.call (take_s (p := p) (l := numL l) (odd := numO l odd) (wd := [111, 102])) Casts.refl (by kernel_rfl) rfl rfl rfl ?_
 refine After.one rfl (by repeat first|assumption|exact m0_|apply m1_) (fun _ => rfl) ?_
 intro _
 refine ⟨_, (by repeat first|assumption|exact Upd.here|apply Upd.there), ?_⟩
 refine SL.val (Val.notB rfl) rfl rfl ?_
 refine SL.val (Val.pickF rfl rfl) rfl rfl ?_
 refine SL.nil (SE.seq ?_)
 refine SC.cond rfl ?_ ?_
 ·intro hc44
  have hof : ¬ begins (bare (numL l)) [111, 102] = true := by simpa using hc44
  refine SC.seq (SC.region ?_)
  refine SL.val (Val.move rfl) rfl rfl ?_
  refine SL.val (Val.buildS tabOk rfl rfl rfl rfl) rfl rfl ?_
  refine SL.eff (Eff.store tabOk rfl rfl rfl (by repeat first|assumption|exact Upd.here|apply Upd.there) (by rfl) (lb_ (by rfl)) (by rfl) (by rfl)) rfl rfl ?_
  rintro _ _ ⟨rfl, rfl⟩
  refine SL.nil (SE.seq ?_)
  refine SC.ret ?_
  refine SE.then_ nofun ?_
  refine SE.finC (rs := [.cell 4 130]) rfl (RV.cell rfl (RV.cellA tabOk rfl rfl (by repeat first|assumption|exact o0_|exact o1_|apply o2_) (by rfl)) RV.nil) (Casts.cons (cast_agg (Casts.keep (Casts.keep (Casts.nils (s := 3) Casts.refl)))) Casts.refl) (⟨(takeT (numL l) [111, 102], numO l odd, .mk (numV l) 0 []), PolR.org hc15 ha hb (fun h => hof h.2) _ (.inr (takeT_no hof))⟩) (by repeat first|exact s0_ _|exact s1_ _|apply s2_|apply s3_) (by simp [It.rids]) ?_
  first
   | exact congrArg Abs.agg (Frm.abs_mk _ _ _).symm
   | rfl
 intro hc44
 have hof : begins (bare (numL l)) [111, 102] = true := by simpa using hc44
 refine SC.skip ?_
 refine SE.seq ?_
 refine SC.cutS (ι := Bool) (fun z => (.blk b4 130 (zabs [.int .i64 0, .int .i64 0, .slice none 0 0]) :: (.blk p 158 (psA (takeT (numL l) [111, 102]) z) :: globs es er))) (fun z => [(0, ptr p), (1, int d), (4, ptr b4), (6, int (numV l))]) (fun z => z = (numO l odd || decide (numV l < 1 ∨ 99 < numV l))) ?_ ?_
 ·skip
  refine SC.seq (SC.region ?_)
  refine SL.val (Val.move rfl) rfl rfl ?_
  refine SL.val (Val.ltI rfl rfl) rfl rfl ?_
  refine SL.val (Val.move rfl) rfl rfl ?_
  refine SL.bothP (t := 49) rfl ?_ ?_
  ·intro hc49
   iterate 2 refine SL.skip rfl rfl ?_
   refine SL.val (Val.pickT rfl rfl) rfl rfl ?_
   refine SL.nil (SE.seq ?_)
   refine SC.condT rfl ?_
   refine SC.region ?_
   refine SL.val (Val.move rfl) rfl rfl ?_
   refine SL.val (Val.nilCheck rfl) rfl rfl ?_
   refine SL.val (Val.fieldAddr tabOk rfl rfl rfl rfl rfl) rfl rfl ?_
   refine SL.eff (Eff.store (L' := psA (takeT (numL l) [111, 102]) true) tabOk rfl rfl rfl (by repeat first|assumption|exact Upd.here|apply Upd.there) rfl (lb_ (by rfl)) rfl (by rfl)) rfl rfl ?_
   rintro _ _ ⟨rfl, rfl⟩
   refine SL.nil ?_
   refine SE.meet (true) (by rw [decide_eq_true (show numV l < 1 ∨ 99 < numV l by omega), Bool.or_true]) (by exact ⟨rfl, rfl, rfl, rfl, trivial⟩) (by repeat first|exact s0_ _|exact s1_ _|apply s2_|apply s3_)
  intro hc49
  refine SL.val (Val.move rfl) rfl rfl ?_
  refine SL.val (Val.gtI rfl rfl) rfl rfl ?_
  refine SL.val (Val.pickF rfl rfl) rfl rfl ?_
  refine SL.nil (SE.seq ?_)
  refine SC.condP rfl ?_ ?_
  rotate_left
  ·intro hc52
   refine SC.skip ?_
   refine SE.meet (numO l odd) (by rw [decide_eq_false (show ¬ (numV l < 1 ∨ 99 < numV l) by omega), Bool.or_false]) (by exact ⟨rfl, rfl, rfl, rfl, trivial⟩) (by repeat first|exact s0_ _|exact s1_ _|apply s2_|apply s3_)
  intro hc52
  refine SC.region ?_
  refine SL.val (Val.move rfl) rfl rfl ?_
  refine SL.val (Val.nilCheck rfl) rfl rfl ?_
  refine SL.val (Val.fieldAddr tabOk rfl rfl rfl rfl rfl) rfl rfl ?_
  refine SL.eff (Eff.store (L' := psA (takeT (numL l) [111, 102]) true) tabOk rfl rfl rfl (by repeat first|assumption|exact Upd.here|apply Upd.there) rfl (lb_ (by rfl)) rfl (by rfl)) rfl rfl ?_
  rintro _ _ ⟨rfl, rfl⟩
  refine SL.nil ?_
  refine SE.meet (true) (by rw [decide_eq_true (show numV l < 1 ∨ 99 < numV l by omega), Bool.or_true]) (by exact ⟨rfl, rfl, rfl, rfl, trivial⟩) (by repeat first|exact s0_ _|exact s1_ _|apply s2_|apply s3_)
 ·intro z hz
  refine SC.seq (SC.region ?_)
  iterate 3 refine SL.val (Val.move rfl) rfl rfl ?_
  refine SL.call (trow_s (p := p) (l := takeT (numL l) [111, 102]) (odd := z) he hr (by omega) hp (by omega)) Casts.refl (by kernel_rfl) rfl rfl rfl ?_
  refine After.oneR (ys := globs es er) rfl (by repeat first|assumption|exact m0_|apply m1_) (by intro y hy; simp only [globs, List.mem_cons, List.not_mem_nil, or_false] at hy; rcases hy with rfl | rfl | rfl <;> exact ⟨by repeat first|assumption|exact m0_|apply m1_, by intro h; cases h⟩) rfl (fun _ => rfl) ?_
  intro y
  refine ⟨_, (by repeat first|assumption|exact Upd.here|apply Upd.there), ?_⟩
  refine SL.val (Val.buildS tabOk rfl rfl rfl rfl) rfl rfl ?_
  refine SL.eff (Eff.store tabOk rfl rfl rfl (by repeat first|assumption|exact Upd.here|apply Upd.there) (by rfl) (lb_ (by rfl)) (by rfl) (by rfl)) rfl rfl ?_
  rintro _ _ ⟨rfl, rfl⟩
  refine SL.nil (SE.seq ?_)
  refine SC.ret ?_
  refine SE.fin (rs := [.cell 4 130]) rfl (RV.cell rfl (RV.cellA tabOk rfl rfl (by repeat first|assumption|exact o0_|exact o1_|apply o2_) (by rfl)) RV.nil) (⟨(y.1.1, y.1.2.1, .mk 0 (numV l) y.1.2.2), PolR.of hc15 ha hb hc40 hof hz y.2⟩) (by repeat first|exact s0_ _|exact s1_ _|apply s2_|apply s3_) (by simp [It.rids]) ?_
  first
   | exact congrArg Abs.agg (Frm.abs_mk _ _ _).symm
   | rfl
theorem pol_s (he : isIf es) (hr : isIf er) : ∀ k : Nat, k ≤ 10 → ∀ (l : Txt) (odd : Bool), l.length ≤ 1000 → Spec Tryz.prog 118 [ptr p, int (11 - (k : Int))] (.blk p 158 (psA (l) odd) :: globs es er) (fun z : {z : Txt × Bool × Frm // PolR k l odd z} => [.blk p 158 (psA z.1.1 z.1.2.1)]) (fun z => .agg z.1.2.2.abs)
  | 0, _, l, odd, hl => pol0_s (p := p) (es := es) (er := er) (odd := odd) hl
  | k + 1, hk, l, odd, hl => pol_step he hr (by omega) (by
      rw [show (11 - ((k + 1 : Nat) : Int)) + 1 = 11 - (k : Int) by omega]
      exact pol_s he hr k (by omega)) hl
end
end Go.Proofs.YtickdhjljpnlpaaGreatDoor.A
/-
  Policies' texts, plain: how many nodes, and what the whole text tells.
-/
namespace Go.Proofs.YtickdhjljpnlpaaGreatDoor.A
open Go.RowKit

theorem rowL_nodes {p : Txt → Option (Frm × Txt)} (hp : ∀ t f r, p t = some (f, r) → f.nodes + r.length ≤ t.length) : ∀ (n : Nat) (t : Txt) (acc l : List Frm) (r : Txt), rowL p n t acc = some (l, r) → Frm.nodess l + r.length ≤ Frm.nodess acc + t.length
  | 0, t, acc, l, r, h => by cases h
  | n + 1, t, acc, l, r, h => by
    unfold rowL at h
    cases hq : p t with
    | none => rw [hq] at h; cases h
    | some x =>
      obtain ⟨f, r1⟩ := x
      rw [hq] at h
      have h1 := hp t f r1 hq
      have h2 := bare_len r1
      have h4 : Frm.nodess (acc ++ [f]) = Frm.nodess acc + f.nodes := by rw [Frm.nodess_app, Frm.nodess_one]
      dsimp only at h
      split at h
      · cases h
        rw [List.length_drop]
        omega
      · split at h
        · have h3 := rowL_nodes hp n _ _ _ _ h
          rw [List.length_drop] at h3
          omega
        · cases h
theorem rowT_nodes {p : Txt → Option (Frm × Txt)} (hp : ∀ t f r, p t = some (f, r) → f.nodes + r.length ≤ t.length) {t : Txt} {l : List Frm} {r : Txt} (h : rowT p t = some (l, r)) : Frm.nodess l + r.length + 1 ≤ t.length := by
  unfold rowT at h
  split at h
  · next hb =>
    have h1 := rowL_nodes hp _ _ _ _ _ h
    have h2 := bare_len t
    have h3 := begins_len hb
    have h4 : Frm.nodess [] = 0 := rfl
    simp only [List.length_singleton] at h3
    rw [List.length_drop] at h1
    omega
  · cases h
theorem polT_nodes : ∀ k t f r, polT k t = some (f, r) → f.nodes + r.length ≤ t.length
  | 0, t, f, r, h => by cases h
  | k + 1, t, f, r, h => by
    have hb := bare_len t
    have hnn : Frm.nodess [] = 0 := rfl
    unfold polT at h
    split at h
    · next hs =>
      have hs3 := begins_len hs
      simp only [List.length_cons, List.length_nil] at hs3
      cases hr : rowT (polT k) ((bare t).drop 3) with
      | none => rw [hr] at h; cases h
      | some x =>
        rw [hr] at h
        cases h
        have h1 := rowT_nodes (polT_nodes k) hr
        rw [List.length_drop] at h1
        rw [Frm.nodes_mk]
        omega
    · split at h
      · next hs =>
        have hs3 := begins_len hs
        simp only [List.length_cons, List.length_nil] at hs3
        cases hr : rowT (polT k) ((bare t).drop 3) with
        | none => rw [hr] at h; cases h
        | some x =>
          rw [hr] at h
          cases h
          have h1 := rowT_nodes (polT_nodes k) hr
          rw [List.length_drop] at h1
          rw [Frm.nodes_mk]
          omega
      · cases hn : numT (bare t) with
        | none => rw [hn] at h; cases h
        | some x =>
          obtain ⟨v, r1⟩ := x
          rw [hn] at h
          dsimp only at h
          have h1 := numT_short hn
          have h2 := bare_len r1
          split at h
          · split at h
            · cases hr : rowT (polT k) ((bare r1).drop 2) with
              | none => rw [hr] at h; cases h
              | some x =>
                rw [hr] at h
                cases h
                have h3 := rowT_nodes (polT_nodes k) hr
                rw [List.length_drop] at h3
                rw [Frm.nodes_mk]
                omega
            · cases h
          · cases h
            rw [Frm.nodes_mk]
            omega
section
variable {l : Txt} {n : Int} {y : Txt × Bool × Frm}
theorem parse_long (h : 200 < l.length) : parseF l n = (.mk 0 0 [], 3) := if_pos h
theorem parse_odd (h : ¬ 200 < l.length) (hy : PolR 10 l false y) (ho : y.2.1 = true ∨ ¬ bare y.1 = []) : parseF l n = (.mk 0 0 [], 2) := by
  obtain ⟨_, _, h3, h4⟩ := hy
  unfold parseF
  rw [if_neg h]
  cases hp : polT 10 l with
  | none => rfl
  | some x =>
    obtain ⟨f, r⟩ := x
    obtain ⟨q1, q2, q3⟩ := h4 rfl _ hp
    dsimp only at q2 ⊢
    rcases ho with ho | ho
    · rw [q1] at ho; cases ho
    · rw [← q2, if_pos ho]
/-- A text that is read to its end. -/
theorem parse_end (h : ¬ 200 < l.length) (hy : PolR 10 l false y) (ho : y.2.1 = false) (hb : bare y.1 = []) : y.2.2.nodes ≤ l.length ∧ parseF l n = if y.2.2.check n ≠ 0 then (.mk 0 0 [], y.2.2.check n) else (y.2.2, 0) := by
  obtain ⟨_, _, h3, h4⟩ := hy
  unfold parseF
  rw [if_neg h]
  cases hp : polT 10 l with
  | none => have := h3 rfl hp; rw [ho] at this; cases this
  | some x =>
    obtain ⟨f, r⟩ := x
    obtain ⟨q1, q2, q3⟩ := h4 rfl _ hp
    have hn := polT_nodes 10 l f r hp
    dsimp only at q2 q3 ⊢
    rw [q3]
    refine ⟨by omega, ?_⟩
    rw [if_neg (by rw [← q2, hb]; simp)]
end
end Go.Proofs.YtickdhjljpnlpaaGreatDoor.A
/-
  Policies' texts: the program's Parse.
-/
namespace Go.Proofs.YtickdhjljpnlpaaGreatDoor.A
open Go.RowKit

section
variable {l wd : Txt} {odd : Bool} {p : Nat} {es er : Value} {n : Int}
theorem pol1_s (he : isIf es) (hr : isIf er) (hl : l.length ≤ 1000) : Spec Tryz.prog 118 [ptr p, int 1] (.blk p 158 (psA (l) odd) :: globs es er) (fun z : {z : Txt × Bool × Frm // PolR 10 l odd z} => [.blk p 158 (psA z.1.1 z.1.2.1)]) (fun z => .agg z.1.2.2.abs) := pol_s he hr 10 (Nat.le_refl _) l odd hl
set_option maxHeartbeats 2000000 in
theorem parse_s (he : isIf es) (hr : isIf er) : Spec Tryz.prog 100 [stA l, int n] (globs es er) (fun _ : Unit => []) (fun _ => .tup [.agg (parseF l n).1.abs, int (parseF l n).2]) := by
 refine spec_of Tryz.func100 rfl Tryz.ntmps100 rfl fun G w => ?_
 refine SC.seq (SC.region ?_)
 refine SL.eff (Eff.alloc tabOk rfl) rfl rfl ?_
 rintro _ _ ⟨b4, rfl, rfl⟩
 refine SL.val (Val.assign rfl) rfl rfl ?_
 refine SL.nil (SE.seq ?_)
 refine SC.seq ?_
 refine SC.seq (SC.region ?_)
 refine SL.val (Val.move rfl) rfl rfl ?_
 refine SL.val (Val.to (C := int ((l.length : Nat) : Int)) (Val.lenSt rfl Tryz.underlying9) rfl) rfl rfl ?_
 refine SL.val (Val.gtI rfl rfl) rfl rfl ?_
 refine SL.nil (SE.seq ?_)
 refine SC.condP rfl ?_ ?_
 ·intro hc11
  have hl2 : 200 < l.length := by omega
  refine SC.seq (SC.region ?_)
  refine SL.val (Val.buildS tabOk rfl rfl rfl rfl) rfl rfl ?_
  refine SL.eff (Eff.store tabOk rfl rfl rfl (by repeat first|assumption|exact Upd.here|apply Upd.there) (by rfl) (lb_ (by rfl)) (by rfl) (by rfl)) rfl rfl ?_
  rintro _ _ ⟨rfl, rfl⟩
  refine SL.val (Val.assign rfl) rfl rfl ?_
  refine SL.nil (SE.seq ?_)
  refine SC.ret ?_
  refine SE.then_ nofun ?_
  refine SE.finC (rs := [.cell 4 130, .tmp 5]) rfl (RV.cell rfl (RV.cellA tabOk rfl rfl (by repeat first|assumption|exact o0_|exact o1_|apply o2_) (by rfl)) (RV.tmp rfl RV.nil)) (Casts.cons (cast_agg (Casts.keep (Casts.keep (Casts.nils (s := 3) Casts.refl)))) Casts.refl) (()) (by repeat first|exact s0_ _|exact s1_ _|apply s2_|apply s3_) (by simp [It.rids]) ?_
  rw [parse_long hl2]
  rw [Frm.abs_mk]
  rfl
 intro hc11
 have hl2 : ¬ 200 < l.length := by omega
 refine SC.skip ?_
 refine SE.seq ?_
 refine SC.seq (SC.region ?_)
 refine SL.val (Val.move rfl) rfl rfl ?_
 refine SL.val (Val.buildS tabOk rfl rfl rfl rfl) rfl rfl ?_
 refine SL.eff (Eff.boxA (cs := psA l false) rfl) rfl rfl ?_
 rintro _ _ ⟨b15, rfl, rfl⟩
 refine SL.val (Val.assign rfl) rfl rfl ?_
 refine SL.nil (SE.seq ?_)
 refine SC.seq (SC.region ?_)
 refine SL.val (Val.move rfl) rfl rfl ?_
 refine SL.call (pol1_s (p := b15) (l := l) (odd := false) he hr (by omega)) Casts.refl (by kernel_rfl) rfl rfl rfl ?_
 refine After.oneR (ys := globs es er) rfl (by repeat first|assumption|exact m0_|apply m1_) (by intro y hy; simp only [globs, List.mem_cons, List.not_mem_nil, or_false] at hy; rcases hy with rfl | rfl | rfl <;> exact ⟨by repeat first|assumption|exact m0_|apply m1_, by intro h; cases h⟩) rfl (fun _ => rfl) ?_
 intro y
 refine ⟨_, (by repeat first|assumption|exact Upd.here|apply Upd.there), ?_⟩
 refine SL.eff (Eff.alloc tabOk rfl) rfl rfl ?_
 rintro _ _ ⟨b7, rfl, rfl⟩
 refine SL.eff (Eff.store (L' := y.1.2.2.abs) tabOk rfl rfl rfl (by repeat first|assumption|exact Upd.here|apply Upd.there) (by exact Frm.abs_len _) (lb_ (by rfl)) (by exact Frm.abs_ones _) (putL_whole (by exact Frm.abs_len _))) rfl rfl ?_
 rintro _ _ ⟨rfl, rfl⟩
 refine SL.nil (SE.seq ?_)
 refine SC.seq ?_
 refine SC.seq (SC.region ?_)
 refine SL.val (Val.move rfl) rfl rfl ?_
 refine SL.call (blanks_s (p := b15) (l := y.1.1) (odd := y.1.2.1)) Casts.refl (by kernel_rfl) rfl rfl rfl ?_
 refine After.one rfl (by repeat first|assumption|exact m0_|apply m1_) (fun _ => rfl) ?_
 intro _
 refine ⟨_, (by repeat first|assumption|exact Upd.here|apply Upd.there), ?_⟩
 refine SL.nil (SE.seq ?_)
 refine SC.seq (SC.region ?_)
 refine SL.val (Val.move rfl) rfl rfl ?_
 refine SL.val (Val.nilCheck rfl) rfl rfl ?_
 refine SL.val (Val.fieldAddr tabOk rfl rfl rfl rfl rfl) rfl rfl ?_
 refine SL.val (Val.load1 tabOk rfl rfl (by repeat first|assumption|exact o0_|exact o1_|apply o2_) List.not_mem_nil (by rfl)) rfl rfl ?_
 refine SL.val (Val.move rfl) rfl rfl ?_
 refine SL.both (t := 24) rfl ?_ ?_
 ·intro hc24
  iterate 5 refine SL.skip rfl rfl ?_
  refine SL.val (Val.pickT rfl rfl) rfl rfl ?_
  refine SL.nil (SE.seq ?_)
  refine SC.condT rfl ?_
  refine SC.seq (SC.region ?_)
  refine SL.val (Val.buildS tabOk rfl rfl rfl rfl) rfl rfl ?_
  refine SL.eff (Eff.store tabOk rfl rfl rfl (by repeat first|assumption|exact Upd.here|apply Upd.there) (by rfl) (lb_ (by rfl)) (by rfl) (by rfl)) rfl rfl ?_
  rintro _ _ ⟨rfl, rfl⟩
  refine SL.val (Val.assign rfl) rfl rfl ?_
  refine SL.nil (SE.seq ?_)
  refine SC.ret ?_
  refine SE.then_ nofun ?_
  refine SE.finC (rs := [.cell 4 130, .tmp 5]) rfl (RV.cell rfl (RV.cellA tabOk rfl rfl (by repeat first|assumption|exact o0_|exact o1_|apply o2_) (by rfl)) (RV.tmp rfl RV.nil)) (Casts.cons (cast_agg (Casts.keep (Casts.keep (Casts.nils (s := 3) Casts.refl)))) Casts.refl) (()) (by repeat first|exact s0_ _|exact s1_ _|apply s2_|apply s3_) (by simp [It.rids]) ?_
  rw [parse_odd hl2 y.2 (.inl hc24)]
  rw [Frm.abs_mk]
  rfl
 intro hc24
 refine SL.val (Val.move rfl) rfl rfl ?_
 refine SL.val (Val.nilCheck rfl) rfl rfl ?_
 refine SL.val (Val.fieldAddr tabOk rfl rfl rfl rfl rfl) rfl rfl ?_
 refine SL.val (Val.load1 tabOk rfl rfl (by repeat first|assumption|exact o0_|exact o1_|apply o2_) List.not_mem_nil (by rfl)) rfl rfl ?_
 refine SL.val (Val.to (C := boo (decide (¬ bare y.1.1 = []))) (Val.neS rfl rfl) (congrArg (fun b => Abs.v (Value.bool b)) (decide_eq_decide.2 (not_congr st_eq)))) rfl rfl ?_
 refine SL.val (Val.pickF rfl rfl) rfl rfl ?_
 refine SL.nil (SE.seq ?_)
 refine SC.condP rfl ?_ ?_
 ·intro hc30
  refine SC.seq (SC.region ?_)
  refine SL.val (Val.buildS tabOk rfl rfl rfl rfl) rfl rfl ?_
  refine SL.eff (Eff.store tabOk rfl rfl rfl (by repeat first|assumption|exact Upd.here|apply Upd.there) (by rfl) (lb_ (by rfl)) (by rfl) (by rfl)) rfl rfl ?_
  rintro _ _ ⟨rfl, rfl⟩
  refine SL.val (Val.assign rfl) rfl rfl ?_
  refine SL.nil (SE.seq ?_)
  refine SC.ret ?_
  refine SE.then_ nofun ?_
  refine SE.finC (rs := [.cell 4 130, .tmp 5]) rfl (RV.cell rfl (RV.cellA tabOk rfl rfl (by repeat first|assumption|exact o0_|exact o1_|apply o2_) (by rfl)) (RV.tmp rfl RV.nil)) (Casts.cons (cast_agg (Casts.keep (Casts.keep (Casts.nils (s := 3) Casts.refl)))) Casts.refl) (()) (by repeat first|exact s0_ _|exact s1_ _|apply s2_|apply s3_) (by simp [It.rids]) ?_
  rw [parse_odd hl2 y.2 (.inr hc30)]
  rw [Frm.abs_mk]
  rfl
 intro hc30
 have hpe := parse_end (n := n) hl2 y.2 hc24 (Classical.byContradiction hc30)
 refine SC.skip ?_
 refine SE.seq ?_
 refine SC.seq ?_
 refine SC.seq (SC.region ?_)
 refine SL.val (Val.loadA tabOk rfl rfl rfl (by repeat first|assumption|exact o0_|exact o1_|apply o2_) List.not_mem_nil (Frm.abs_len _)) rfl rfl ?_
 refine SL.val (Val.move rfl) rfl rfl ?_
 refine SL.call (fcheck_s (f := y.1.2.2) (n := n) (by have := hpe.1; omega)) Casts.refl (by kernel_rfl) rfl rfl rfl ?_
 refine ap_ ?_
 intro _
 refine SL.val (Val.assign rfl) rfl rfl ?_
 refine SL.nil (SE.seq ?_)
 refine SC.seq (SC.region ?_)
 refine SL.val (Val.move rfl) rfl rfl ?_
 refine SL.val (Val.neI rfl rfl) rfl rfl ?_
 refine SL.nil (SE.seq ?_)
 refine SC.condP rfl ?_ ?_
 rotate_left
 ·intro hc36
  refine SC.skip ?_
  refine SE.seq ?_
  refine SC.seq (SC.region ?_)
  refine SL.val (Val.loadA tabOk rfl rfl rfl (by repeat first|assumption|exact o0_|exact o1_|apply o2_) List.not_mem_nil (Frm.abs_len _)) rfl rfl ?_
  refine SL.eff (Eff.store (L' := y.1.2.2.abs) tabOk rfl rfl rfl (by repeat first|assumption|exact Upd.here|apply Upd.there) (by exact Frm.abs_len _) (lb_ (by rfl)) (by exact Frm.abs_ones _) (putL_whole (by exact Frm.abs_len _))) rfl rfl ?_
  rintro _ _ ⟨rfl, rfl⟩
  refine SL.val (Val.assign rfl) rfl rfl ?_
  refine SL.nil (SE.seq ?_)
  refine SC.ret ?_
  refine SE.fin (rs := [.cell 4 130, .tmp 5]) rfl (RV.cell rfl (RV.cellA tabOk rfl rfl (by repeat first|assumption|exact o0_|exact o1_|apply o2_) (by exact Frm.abs_len _)) (RV.tmp rfl RV.nil)) (()) (by repeat first|exact s0_ _|exact s1_ _|apply s2_|apply s3_) (by simp [It.rids]) ?_
  rw [hpe.2, if_neg hc36]
  rfl
 intro hc36
 refine SC.seq (SC.region ?_)
 refine SL.val (Val.buildS tabOk rfl rfl rfl rfl) rfl rfl ?_
 refine SL.val (Val.move rfl) rfl rfl ?_
 refine SL.eff (Eff.store tabOk rfl rfl rfl (by repeat first|assumption|exact Upd.here|apply Upd.there) (by rfl) (lb_ (by rfl)) (by rfl) (by rfl)) rfl rfl ?_
 rintro _ _ ⟨rfl, rfl⟩
 refine SL.val (Val.assign rfl) rfl rfl ?_
 refine SL.nil (SE.seq ?_)
 refine SC.ret ?_
 refine SE.then_ nofun ?_
 refine SE.finC (rs := [.cell 4 130, .tmp 5]) rfl (RV.cell rfl (RV.cellA tabOk rfl rfl (by repeat first|assumption|exact o0_|exact o1_|apply o2_) (by rfl)) (RV.tmp rfl RV.nil)) (Casts.cons (cast_agg (Casts.keep (Casts.keep (Casts.nils (s := 3) Casts.refl)))) Casts.refl) (()) (by repeat first|exact s0_ _|exact s1_ _|apply s2_|apply s3_) (by simp [It.rids]) ?_
 rw [hpe.2, if_pos hc36]
 rw [Frm.abs_mk]
 rfl
end
end Go.Proofs.YtickdhjljpnlpaaGreatDoor.A
