/-
  Packed out of the texts: C7, C8.
-/
import Derived.Test.YtdbeinbgekdnmaaQ10
/-
  Changes out of bytes: rows of proofs, over the second engine.
-/
set_option maxRecDepth 100000
set_option linter.unusedSimpArgs false
set_option linter.unusedVariables false
namespace Go.Proofs.Ytdbeinbgekdnmaa.A
open Go.RowKit

/-- A proof that is read: its head, and its batch's bytes. -/
def Rd.pr1 (s : Rd) : Rd := s.fixed 8
def Rd.pr2 (s : Rd) : Rd := (s.fixed 8).fixed 8
def Rd.prOut (s : Rd) (room : Int) : List UInt8 := (Rd.pr2 s).rowOut room
/-- Rows of proofs as the program reads them. -/
def Rd.prfs (n room : Int) : Nat → Rd → List Prf → Bool → List Prf × Bool × Rd
  | 0, s, acc, o => (acc, o, s)
  | k + 1, s, acc, o => Rd.prfs n room k ((Rd.pr2 s).row room) (acc ++ [⟨sg (s.num 8), sg ((Rd.pr1 s).num 8), (parseS (Rd.prOut s room) n).1⟩]) (o || decide ((parseS (Rd.prOut s room) n).2 ≠ 0))
/-- And as the document does. -/
def Rd.rprfs : Nat → Rd → List Prf → Bool → List Prf × Bool × Rd
  | 0, s, acc, o => (acc, o, s)
  | k + 1, s, acc, o => if s.e ≠ 0 then (acc, o, s) else Rd.rprfs k ((Rd.pr2 s).row 1048576) (acc ++ [⟨sg (s.num 8), sg ((Rd.pr1 s).num 8), (Rd.ens (Rd.of (Rd.prOut s 1048576))).1⟩])
      (o && (Rd.ens (Rd.of (Rd.prOut s 1048576))).2.1 && decide ((Rd.ens (Rd.of (Rd.prOut s 1048576))).2.2.end_ = 0))
theorem Rd.count_length (s : Rd) (most : Int) : (s.count most).l.length ≤ s.l.length := by
  unfold Rd.count
  have := s.fixed_length 2
  split
  · exact this
  · exact this
theorem Rd.countN_lt (s : Rd) (most : Int) : s.countN most < 65536 := by
  unfold Rd.countN
  split
  · omega
  · exact s.num_lt (n := 2) (k := 2) (Nat.le_refl _)
section
variable {p : Nat} {s : Rd} {n room most : Int}
set_option maxHeartbeats 2000000 in
theorem readp_s (hl : s.l.length ≤ 10000000) (hr : 0 ≤ room ∧ room ≤ 9223372036854775807) : Spec Try.prog 104 [ptr p, int n, int most, int room] [rdA TR p s] (fun _ : Unit => [rdA TR p (Rd.prfs n room (s.countN most) (s.count most) [] false).2.2]) (fun _ => .tup [prfsA (Rd.prfs n room (s.countN most) (s.count most) [] false).1, boo (Rd.prfs n room (s.countN most) (s.count most) [] false).2.1]) := by
  have hL : lots = 100000000000 := rfl
  have hcl := Rd.count_length s most
  have hcn := Rd.countN_lt s most
  refine spec_of Try.func104 rfl Try.ntmps104 rfl fun G w => ?_
  refine SC.seq ?_
  refine SC.region ?_
  refine SL.val (Val.assign rfl) rfl rfl ?_
  refine SL.val (Val.assign rfl) rfl rfl ?_
  refine SL.nil ?_
  refine SE.seq ?_
  refine SC.seq ?_
  refine SC.seq ?_
  refine SC.region ?_
  refine SL.val (Val.move rfl) rfl rfl ?_
  refine SL.val (Val.move rfl) rfl rfl ?_
  refine SL.call (count_s (s := s) (n := most) (by omega)) Casts.refl (by kernel_rfl) rfl rfl rfl ?_
  refine After.one rfl (by repeat (first | assumption | exact List.mem_cons_self | apply List.mem_cons_of_mem)) (fun _ => rfl) ?_
  intro _
  refine ⟨_, (by repeat (first | assumption | exact Upd.here | apply Upd.there)), ?_⟩
  refine SL.val (Val.move rfl) rfl rfl ?_
  refine SL.nil ?_
  refine SE.seq ?_
  refine SC.block ?_
  refine SC.own0 133 3 ?_
  refine SC.loop (ι := Rd × List Prf × Bool × Nat × Value) (fun z => [own 133 3 z.2.2.2.2 (z.2.1.map Prf.abs), rdA TR p z.1]) (fun z => [(0, ptr p), (1, int n), (3, int room), (8, .v z.2.2.2.2), (9, boo z.2.2.1), (15, int ((s.countN most) : Nat)), (16, int (z.2.2.2.1 : Nat))]) (fun z => z.2.2.2.1 ≤ (s.countN most) ∧ z.1.l.length ≤ s.l.length ∧ z.2.1.length = z.2.2.2.1 ∧ Rd.prfs n room ((s.countN most) - z.2.2.2.1) z.1 z.2.1 z.2.2.1 = Rd.prfs n room (s.countN most) (s.count most) [] false) (fun z => (s.countN most) - z.2.2.2.1) (s.count most, [], false, 0, .slice none 0 0) (⟨Nat.zero_le _, hcl, rfl, rfl⟩) (by exact ⟨rfl, rfl, rfl, rfl, rfl, rfl, rfl, trivial⟩) (by repeat (first | exact List.nil_sublist _ | exact List.Sublist.refl _ | apply List.Sublist.cons_cons | apply List.Sublist.cons)) ?_
  intro z hz
  refine SC.seq ?_
  refine SC.region ?_
  refine SL.val (Val.ltI rfl rfl) rfl rfl ?_
  refine SL.nil ?_
  refine SE.seq ?_
  refine SC.seq ?_
  refine SC.condP rfl ?_ ?_
  · intro hc17
    have n1 := z.1.fixed_length 8
    have n2 := (z.1.fixed 8).fixed_length 8
    have n3 : (Rd.prOut z.1 room).length ≤ (z.1.fixed 8 |>.fixed 8).l.length := Rd.rowOut_length _ _
    have n4 := Rd.row_length ((z.1.fixed 8).fixed 8) room
    refine SC.skip ?_
    refine SE.seq ?_
    refine SC.seq ?_
    refine SC.block ?_
    refine SC.seq ?_
    refine SC.region ?_
    refine SL.val (Val.move rfl) rfl rfl ?_
    refine SL.call (number_s (s := z.1) (n := 8) (by omega) rfl) Casts.refl (by kernel_rfl) rfl rfl rfl ?_
    refine After.one rfl (by repeat (first | assumption | exact List.mem_cons_self | apply List.mem_cons_of_mem)) (fun _ => rfl) ?_
    intro _
    refine ⟨_, (by repeat (first | assumption | exact Upd.here | apply Upd.there)), ?_⟩
    first
      | refine SL.val (Val.convI rfl Try.underlying2 (by kernel_rfl) (by simp only [InR, lo, hi]; omega)) rfl rfl ?_
      | refine SL.val (Val.convW rfl Try.underlying2 (by kernel_rfl)) rfl rfl ?_
    refine SL.val (Val.move rfl) rfl rfl ?_
    refine SL.call (number_s (s := (Rd.pr1 z.1)) (n := 8) (by unfold Rd.pr1; omega) rfl) Casts.refl (by kernel_rfl) rfl rfl rfl ?_
    refine After.one rfl (by repeat (first | assumption | exact List.mem_cons_self | apply List.mem_cons_of_mem)) (fun _ => rfl) ?_
    intro _
    refine ⟨_, (by repeat (first | assumption | exact Upd.here | apply Upd.there)), ?_⟩
    first
      | refine SL.val (Val.convI rfl Try.underlying2 (by kernel_rfl) (by simp only [InR, lo, hi]; omega)) rfl rfl ?_
      | refine SL.val (Val.convW rfl Try.underlying2 (by kernel_rfl)) rfl rfl ?_
    refine SL.val (Val.buildS tabOk rfl rfl rfl rfl) rfl rfl ?_
    refine SL.eff (Eff.alloc tabOk rfl) rfl rfl ?_
    rintro _ _ ⟨b10, rfl, rfl⟩
    refine SL.eff (Eff.store tabOk rfl rfl rfl (by repeat (first | assumption | exact Upd.here | apply Upd.there)) (by rfl) (Nat.le_of_ble_eq_true (by rfl)) (by rfl) (by rfl)) rfl rfl ?_
    rintro _ _ ⟨rfl, rfl⟩
    refine SL.nil ?_
    refine SE.seq ?_
    refine SC.seq ?_
    refine SC.region ?_
    refine SL.val (Val.move rfl) rfl rfl ?_
    refine SL.val (Val.move rfl) rfl rfl ?_
    refine SL.call (rowr_s (s := (Rd.pr2 z.1)) (n := room) (by unfold Rd.pr2; omega) hr) Casts.refl (by kernel_rfl) rfl rfl rfl ?_
    refine After.one rfl (by repeat (first | assumption | exact List.mem_cons_self | apply List.mem_cons_of_mem)) (fun _ => rfl) ?_
    intro _
    refine ⟨_, (by repeat (first | assumption | exact Upd.here | apply Upd.there)), ?_⟩
    refine SL.val (Val.move rfl) rfl rfl ?_
    refine SL.call (bparse_s (l := (Rd.prOut z.1 room)) (n := n) (by omega)) Casts.refl (by kernel_rfl) rfl rfl rfl ?_
    refine After.pure (by repeat (first | exact Reads.nil | refine Reads.blk (by repeat (first | assumption | exact List.mem_cons_self | apply List.mem_cons_of_mem)) ?_ | refine Reads.rd (by repeat (first | assumption | exact List.mem_cons_self | apply List.mem_cons_of_mem)) ?_ | refine Reads.pc (by repeat (first | assumption | exact List.mem_cons_self | apply List.mem_cons_of_mem)) ?_ | refine Reads.rdpc (by repeat (first | assumption | exact List.mem_cons_self | apply List.mem_cons_of_mem)) ?_)) (fun _ => rfl) ?_
    intro _
    refine SL.val (Val.move rfl) rfl rfl ?_
    refine SL.val (Val.extract rfl rfl) rfl rfl ?_
    refine SL.val (Val.extract rfl rfl) rfl rfl ?_
    refine SL.val (Val.assign rfl) rfl rfl ?_
    refine SL.val (Val.assign rfl) rfl rfl ?_
    refine SL.nil ?_
    refine SE.seq ?_
    refine SC.seq ?_
    refine SC.region ?_
    refine SL.val (Val.move rfl) rfl rfl ?_
    refine SL.val (Val.fieldAddr tabOk rfl rfl rfl rfl rfl) rfl rfl ?_
    first
      | refine SL.eff (Eff.store tabOk rfl rfl rfl (by repeat (first | assumption | exact Upd.here | apply Upd.there)) (by rfl) (Nat.le_of_ble_eq_true (by rfl)) (by rfl) (by rfl)) rfl rfl ?_
      | refine SL.eff (Eff.storeOwn tabOk rfl rfl rfl rfl (by repeat (first | assumption | exact List.mem_cons_self | apply List.mem_cons_of_mem)) (by repeat (first | assumption | exact Upd.here | apply Upd.there)) rfl (by rfl)) rfl rfl ?_
    rintro _ _ ⟨rfl, rfl⟩
    refine SL.nil ?_
    refine SE.seq ?_
    refine SC.seq ?_
    refine SC.region ?_
    refine SL.val (Val.move rfl) rfl rfl ?_
    refine SL.val (Val.move rfl) rfl rfl ?_
    refine SL.both (t := 36) rfl ?_ ?_
    · intro hc36
      refine SL.skip rfl rfl ?_
      refine SL.skip rfl rfl ?_
      refine SL.val (Val.pickT rfl rfl) rfl rfl ?_
      refine SL.val (Val.assign rfl) rfl rfl ?_
      refine SL.nil ?_
      refine SE.seq ?_
      refine SC.region ?_
      refine SL.val (Val.move rfl) rfl rfl ?_
      first
        | refine SL.val (Val.loadA tabOk rfl rfl rfl (by first | (apply Or.inl; (repeat (first | assumption | exact List.mem_cons_self | apply List.mem_cons_of_mem)); done) | (apply Or.inr; (repeat (first | assumption | exact List.mem_cons_self | apply List.mem_cons_of_mem)); done)) List.not_mem_nil (by rfl)) rfl rfl ?_
        | refine SL.val (Val.loadP tabOk rfl rfl rfl (by first | (apply Or.inl; (repeat (first | assumption | exact List.mem_cons_self | apply List.mem_cons_of_mem)); done) | (apply Or.inr; (repeat (first | assumption | exact List.mem_cons_self | apply List.mem_cons_of_mem)); done)) List.not_mem_nil (Nat.le_of_ble_eq_true (by rfl))) rfl rfl ?_
      refine SL.eff (Eff.buildSl tabOk Try.underlying78 rfl rfl rfl rfl rfl rfl rfl) rfl rfl ?_
      rintro _ _ ⟨rfl, rfl⟩
      refine SL.eff (Eff.appendE (zs := (z.2.1 ++ [(⟨sg (z.1.num 8), sg ((Rd.pr1 z.1).num 8), (parseS (Rd.prOut z.1 room) n).1⟩ : Prf)]).map Prf.abs) tabOk [_] (by rw [List.map_append]; rfl) Try.underlying78 rfl rfl rfl rfl rfl rfl (by intro c hc; rw [List.mem_singleton] at hc; subst hc; rfl) (by unfold maxLen; simp only [List.length_map, List.length_cons, List.length_nil]; omega) (by rw [show Try.prog.bytesOf 133 = 40 by kernel_rfl]; simp only [List.length_map, List.length_cons, List.length_nil]; omega)) rfl rfl ?_
      rintro _ _ ⟨r43, rfl, rfl⟩
      refine SL.val (Val.assign rfl) rfl rfl ?_
      refine SL.nil ?_
      refine SE.inBlock ?_
      refine SE.seq ?_
      refine SC.region ?_
      first
        | refine SL.val (Val.addI rfl rfl (by simp only [InR, lo, hi]; omega)) rfl rfl ?_
        | refine SL.val (Val.addW rfl rfl) rfl rfl ?_
      refine SL.val (Val.move rfl) rfl rfl ?_
      refine SL.nil ?_
      refine SE.round (((Rd.pr2 z.1).row room, z.2.1 ++ [(⟨sg (z.1.num 8), sg ((Rd.pr1 z.1).num 8), (parseS (Rd.prOut z.1 room) n).1⟩ : Prf)], z.2.2.1 || decide ((parseS (Rd.prOut z.1 room) n).2 ≠ 0), z.2.2.2.1 + 1, r43)) (by first | omega | (dsimp only; omega)) (⟨by dsimp only; omega, by dsimp only [Rd.pr2]; omega, by dsimp only; rw [List.length_append, hz.2.2.1]; rfl, by
        rw [← hz.2.2.2]
        obtain ⟨j, hj⟩ : ∃ j, (s.countN most) - z.2.2.2.1 = j + 1 := ⟨(s.countN most) - z.2.2.2.1 - 1, by omega⟩
        rw [hj]
        show Rd.prfs n room ((s.countN most) - (z.2.2.2.1 + 1)) _ _ _ = Rd.prfs n room (j + 1) _ _ _
        rw [show (s.countN most) - (z.2.2.2.1 + 1) = j by omega]
        rfl⟩) ⟨rfl, rfl, rfl, rfl, by show some (boo true) = some (boo (_ || _)); rw [hc36]; rfl, rfl, rfl, trivial⟩ (by repeat (first | exact List.nil_sublist _ | exact List.Sublist.refl _ | apply List.Sublist.cons_cons | apply List.Sublist.cons))
    · intro hc36
      refine SL.val (Val.move rfl) rfl rfl ?_
      refine SL.val (Val.neI rfl rfl) rfl rfl ?_
      refine SL.val (Val.pickF rfl rfl) rfl rfl ?_
      refine SL.val (Val.assign rfl) rfl rfl ?_
      refine SL.nil ?_
      refine SE.seq ?_
      refine SC.region ?_
      refine SL.val (Val.move rfl) rfl rfl ?_
      first
        | refine SL.val (Val.loadA tabOk rfl rfl rfl (by first | (apply Or.inl; (repeat (first | assumption | exact List.mem_cons_self | apply List.mem_cons_of_mem)); done) | (apply Or.inr; (repeat (first | assumption | exact List.mem_cons_self | apply List.mem_cons_of_mem)); done)) List.not_mem_nil (by rfl)) rfl rfl ?_
        | refine SL.val (Val.loadP tabOk rfl rfl rfl (by first | (apply Or.inl; (repeat (first | assumption | exact List.mem_cons_self | apply List.mem_cons_of_mem)); done) | (apply Or.inr; (repeat (first | assumption | exact List.mem_cons_self | apply List.mem_cons_of_mem)); done)) List.not_mem_nil (Nat.le_of_ble_eq_true (by rfl))) rfl rfl ?_
      refine SL.eff (Eff.buildSl tabOk Try.underlying78 rfl rfl rfl rfl rfl rfl rfl) rfl rfl ?_
      rintro _ _ ⟨rfl, rfl⟩
      refine SL.eff (Eff.appendE (zs := (z.2.1 ++ [(⟨sg (z.1.num 8), sg ((Rd.pr1 z.1).num 8), (parseS (Rd.prOut z.1 room) n).1⟩ : Prf)]).map Prf.abs) tabOk [_] (by rw [List.map_append]; rfl) Try.underlying78 rfl rfl rfl rfl rfl rfl (by intro c hc; rw [List.mem_singleton] at hc; subst hc; rfl) (by unfold maxLen; simp only [List.length_map, List.length_cons, List.length_nil]; omega) (by rw [show Try.prog.bytesOf 133 = 40 by kernel_rfl]; simp only [List.length_map, List.length_cons, List.length_nil]; omega)) rfl rfl ?_
      rintro _ _ ⟨r43, rfl, rfl⟩
      refine SL.val (Val.assign rfl) rfl rfl ?_
      refine SL.nil ?_
      refine SE.inBlock ?_
      refine SE.seq ?_
      refine SC.region ?_
      first
        | refine SL.val (Val.addI rfl rfl (by simp only [InR, lo, hi]; omega)) rfl rfl ?_
        | refine SL.val (Val.addW rfl rfl) rfl rfl ?_
      refine SL.val (Val.move rfl) rfl rfl ?_
      refine SL.nil ?_
      refine SE.round (((Rd.pr2 z.1).row room, z.2.1 ++ [(⟨sg (z.1.num 8), sg ((Rd.pr1 z.1).num 8), (parseS (Rd.prOut z.1 room) n).1⟩ : Prf)], z.2.2.1 || decide ((parseS (Rd.prOut z.1 room) n).2 ≠ 0), z.2.2.2.1 + 1, r43)) (by first | omega | (dsimp only; omega)) (⟨by dsimp only; omega, by dsimp only [Rd.pr2]; omega, by dsimp only; rw [List.length_append, hz.2.2.1]; rfl, by
        rw [← hz.2.2.2]
        obtain ⟨j, hj⟩ : ∃ j, (s.countN most) - z.2.2.2.1 = j + 1 := ⟨(s.countN most) - z.2.2.2.1 - 1, by omega⟩
        rw [hj]
        show Rd.prfs n room ((s.countN most) - (z.2.2.2.1 + 1)) _ _ _ = Rd.prfs n room (j + 1) _ _ _
        rw [show (s.countN most) - (z.2.2.2.1 + 1) = j by omega]
        rfl⟩) ⟨rfl, rfl, rfl, rfl, by show some (boo (decide _)) = some (boo (_ || _)); rw [hc36, Bool.false_or], rfl, rfl, trivial⟩ (by repeat (first | exact List.nil_sublist _ | exact List.Sublist.refl _ | apply List.Sublist.cons_cons | apply List.Sublist.cons))
  · intro hc17
    refine SC.exit ?_
    refine SE.then_ (by intro h; cases h) ?_
    refine SE.then_ (by intro h; cases h) ?_
    refine SE.exit ?_
    refine SE.seq ?_
    refine SC.seq ?_
    refine SC.region ?_
    refine SL.val (Val.move rfl) rfl rfl ?_
    refine SL.val (Val.move rfl) rfl rfl ?_
    refine SL.val (Val.assign rfl) rfl rfl ?_
    refine SL.val (Val.assign rfl) rfl rfl ?_
    refine SL.nil ?_
    refine SE.seq ?_
    refine SC.ret ?_
    have e0 : Rd.prfs n room (s.countN most) (s.count most) [] false = (z.2.1, z.2.2.1, z.1) := by
      rw [← hz.2.2.2, show (s.countN most) - z.2.2.2.1 = 0 by omega]
      rfl
    refine SE.freeze [] (t := 8) rfl rfl ?_
    rw [e0]
    refine SE.fin (rs := [.tmp 8, .tmp 9]) rfl (RV.tmp rfl (RV.tmp rfl RV.nil)) (()) (by repeat (first | exact List.nil_sublist _ | exact List.Sublist.refl _ | apply List.Sublist.cons_cons | apply List.Sublist.cons)) (by simp [It.rids]) ?_
    exact rfl
theorem rprfs_stop {s : Rd} {acc : List Prf} {o : Bool} (h : s.e ≠ 0) : ∀ k, Rd.rprfs k s acc o = (acc, o, s)
  | 0 => rfl
  | k + 1 => by show (if s.e ≠ 0 then _ else _) = _; rw [if_pos h]
set_option maxHeartbeats 2000000 in
theorem rreadp_s (hl : s.l.length ≤ 900000) : Spec Try.prog 110 [ptr p, int most] [rdA RR p s] (fun _ : Unit => [rdA RR p (Rd.rprfs (s.countN most) (s.count most) [] true).2.2]) (fun _ => .tup [prfsA (Rd.rprfs (s.countN most) (s.count most) [] true).1, boo (Rd.rprfs (s.countN most) (s.count most) [] true).2.1]) := by
  have hL : lots = 100000000000 := rfl
  have hcl := Rd.count_length s most
  have hcn := Rd.countN_lt s most
  refine spec_of Try.func110 rfl Try.ntmps110 rfl fun G w => ?_
  refine SC.seq ?_
  refine SC.region ?_
  refine SL.val (Val.assign rfl) rfl rfl ?_
  refine SL.val (Val.assign rfl) rfl rfl ?_
  refine SL.nil ?_
  refine SE.seq ?_
  refine SC.seq ?_
  refine SC.region ?_
  refine SL.val (Val.assign rfl) rfl rfl ?_
  refine SL.nil ?_
  refine SE.seq ?_
  refine SC.seq ?_
  refine SC.region ?_
  refine SL.val (Val.assign rfl) rfl rfl ?_
  refine SL.nil ?_
  refine SE.seq ?_
  refine SC.seq ?_
  refine SC.seq ?_
  refine SC.region ?_
  refine SL.val (Val.move rfl) rfl rfl ?_
  refine SL.val (Val.move rfl) rfl rfl ?_
  refine SL.call (rcount_s (s := s) (n := most) (by omega)) Casts.refl (by kernel_rfl) rfl rfl rfl ?_
  refine After.one rfl (by repeat (first | assumption | exact List.mem_cons_self | apply List.mem_cons_of_mem)) (fun _ => rfl) ?_
  intro _
  refine ⟨_, (by repeat (first | assumption | exact Upd.here | apply Upd.there)), ?_⟩
  refine SL.val (Val.assign rfl) rfl rfl ?_
  refine SL.nil ?_
  refine SE.seq ?_
  refine SC.block ?_
  refine SC.own0 133 3 ?_
  refine SC.loop (ι := Rd × List Prf × Bool × Nat × Value) (fun z => [own 133 3 z.2.2.2.2 (z.2.1.map Prf.abs), rdA RR p z.1]) (fun z => [(0, ptr p), (6, .v z.2.2.2.2), (7, boo z.2.2.1), (8, int (z.2.2.2.1 : Nat))]) (fun z => z.1.l.length ≤ s.l.length ∧ z.2.1.length + z.2.2.2.1 = (s.countN most) ∧ Rd.rprfs z.2.2.2.1 z.1 z.2.1 z.2.2.1 = Rd.rprfs (s.countN most) (s.count most) [] true) (fun z => z.2.2.2.1) (s.count most, [], true, (s.countN most), .slice none 0 0) (⟨hcl, Nat.zero_add _, rfl⟩) (by exact ⟨rfl, rfl, rfl, rfl, trivial⟩) (by repeat (first | exact List.nil_sublist _ | exact List.Sublist.refl _ | apply List.Sublist.cons_cons | apply List.Sublist.cons)) ?_
  intro z hz
  refine SC.seq ?_
  refine SC.seq ?_
  refine SC.region ?_
  refine SL.val (Val.move rfl) rfl rfl ?_
  refine SL.val (Val.gtI rfl rfl) rfl rfl ?_
  refine SL.val (Val.move rfl) rfl rfl ?_
  refine SL.bothP (t := 18) rfl ?_ ?_
  · intro hc18
    refine SL.val (Val.move rfl) rfl rfl ?_
    refine SL.val (Val.nilCheck rfl) rfl rfl ?_
    refine SL.val (Val.fieldAddr tabOk rfl rfl rfl rfl rfl) rfl rfl ?_
    refine SL.val (Val.load1 tabOk rfl rfl (by first | (apply Or.inl; (repeat (first | assumption | exact List.mem_cons_self | apply List.mem_cons_of_mem)); done) | (apply Or.inr; (repeat (first | assumption | exact List.mem_cons_self | apply List.mem_cons_of_mem)); done)) List.not_mem_nil (by rfl)) rfl rfl ?_
    refine SL.val (Val.eqI rfl rfl) rfl rfl ?_
    refine SL.val (Val.pickT rfl rfl) rfl rfl ?_
    refine SL.nil ?_
    refine SE.seq ?_
    refine SC.condP rfl ?_ ?_
    · intro hc24
      have n1 := z.1.fixed_length 8
      have n2 := (z.1.fixed 8).fixed_length 8
      have n3 : (Rd.prOut z.1 1048576).length ≤ (z.1.fixed 8 |>.fixed 8).l.length := Rd.rowOut_length _ _
      have n4 := Rd.row_length ((z.1.fixed 8).fixed 8) 1048576
      refine SC.skip ?_
      refine SE.seq ?_
      refine SC.seq ?_
      refine SC.block ?_
      refine SC.seq ?_
      refine SC.region ?_
      refine SL.val (Val.move rfl) rfl rfl ?_
      refine SL.call (rnumber_s (s := z.1) (n := 8) (by omega) rfl) Casts.refl (by kernel_rfl) rfl rfl rfl ?_
      refine After.one rfl (by repeat (first | assumption | exact List.mem_cons_self | apply List.mem_cons_of_mem)) (fun _ => rfl) ?_
      intro _
      refine ⟨_, (by repeat (first | assumption | exact Upd.here | apply Upd.there)), ?_⟩
      first
        | refine SL.val (Val.convI rfl Try.underlying2 (by kernel_rfl) (by simp only [InR, lo, hi]; omega)) rfl rfl ?_
        | refine SL.val (Val.convW rfl Try.underlying2 (by kernel_rfl)) rfl rfl ?_
      refine SL.val (Val.move rfl) rfl rfl ?_
      refine SL.call (rnumber_s (s := (Rd.pr1 z.1)) (n := 8) (by unfold Rd.pr1; omega) rfl) Casts.refl (by kernel_rfl) rfl rfl rfl ?_
      refine After.one rfl (by repeat (first | assumption | exact List.mem_cons_self | apply List.mem_cons_of_mem)) (fun _ => rfl) ?_
      intro _
      refine ⟨_, (by repeat (first | assumption | exact Upd.here | apply Upd.there)), ?_⟩
      first
        | refine SL.val (Val.convI rfl Try.underlying2 (by kernel_rfl) (by simp only [InR, lo, hi]; omega)) rfl rfl ?_
        | refine SL.val (Val.convW rfl Try.underlying2 (by kernel_rfl)) rfl rfl ?_
      refine SL.val (Val.buildS tabOk rfl rfl rfl rfl) rfl rfl ?_
      refine SL.eff (Eff.alloc tabOk rfl) rfl rfl ?_
      rintro _ _ ⟨b9, rfl, rfl⟩
      refine SL.eff (Eff.store tabOk rfl rfl rfl (by repeat (first | assumption | exact Upd.here | apply Upd.there)) (by rfl) (Nat.le_of_ble_eq_true (by rfl)) (by rfl) (by rfl)) rfl rfl ?_
      rintro _ _ ⟨rfl, rfl⟩
      refine SL.nil ?_
      refine SE.seq ?_
      refine SC.seq ?_
      refine SC.region ?_
      refine SL.val (Val.move rfl) rfl rfl ?_
      refine SL.call (rrowr_s (s := (Rd.pr2 z.1)) (n := 1048576) (by unfold Rd.pr2; omega) (by omega)) Casts.refl (by kernel_rfl) rfl rfl rfl ?_
      refine After.one rfl (by repeat (first | assumption | exact List.mem_cons_self | apply List.mem_cons_of_mem)) (fun _ => rfl) ?_
      intro _
      refine ⟨_, (by repeat (first | assumption | exact Upd.here | apply Upd.there)), ?_⟩
      refine SL.val (Val.buildS tabOk rfl rfl rfl rfl) rfl rfl ?_
      refine SL.eff (Eff.boxA rfl) rfl rfl ?_
      rintro _ _ ⟨b37, rfl, rfl⟩
      refine SL.val (Val.assign rfl) rfl rfl ?_
      refine SL.nil ?_
      refine SE.seq ?_
      refine SC.seq ?_
      refine SC.region ?_
      refine SL.val (Val.move rfl) rfl rfl ?_
      refine SL.call (rbread_s (s := Rd.of (Rd.prOut z.1 1048576)) (by show (Rd.prOut z.1 1048576).length ≤ lots; omega)) Casts.refl (by kernel_rfl) rfl rfl rfl ?_
      refine After.one rfl (by repeat (first | assumption | exact List.mem_cons_self | apply List.mem_cons_of_mem)) (fun _ => rfl) ?_
      intro _
      refine ⟨_, (by repeat (first | assumption | exact Upd.here | apply Upd.there)), ?_⟩
      refine SL.val (Val.move rfl) rfl rfl ?_
      refine SL.val (Val.extract rfl rfl) rfl rfl ?_
      refine SL.val (Val.extract rfl rfl) rfl rfl ?_
      refine SL.val (Val.assign rfl) rfl rfl ?_
      refine SL.val (Val.assign rfl) rfl rfl ?_
      refine SL.nil ?_
      refine SE.seq ?_
      refine SC.seq ?_
      refine SC.region ?_
      refine SL.val (Val.move rfl) rfl rfl ?_
      refine SL.val (Val.move rfl) rfl rfl ?_
      refine SL.both (t := 44) rfl ?_ ?_
      · intro hc44
        refine SL.val (Val.move rfl) rfl rfl ?_
        refine SL.val (Val.pickT rfl rfl) rfl rfl ?_
        refine SL.val (Val.move rfl) rfl rfl ?_
        refine SL.both (t := 47) rfl ?_ ?_
        · intro hc47
          refine SL.val (Val.move rfl) rfl rfl ?_
          refine SL.call (rend_s (s := (Rd.ens (Rd.of (Rd.prOut z.1 1048576))).2.2)) Casts.refl (by kernel_rfl) rfl rfl rfl ?_
          refine After.one rfl (by repeat (first | assumption | exact List.mem_cons_self | apply List.mem_cons_of_mem)) (fun _ => rfl) ?_
          intro _
          refine ⟨_, (by repeat (first | assumption | exact Upd.here | apply Upd.there)), ?_⟩
          refine SL.val (Val.eqI rfl rfl) rfl rfl ?_
          refine SL.val (Val.pickT rfl rfl) rfl rfl ?_
          refine SL.val (Val.assign rfl) rfl rfl ?_
          refine SL.nil ?_
          refine SE.seq ?_
          refine SC.seq ?_
          refine SC.region ?_
          refine SL.val (Val.move rfl) rfl rfl ?_
          refine SL.val (Val.fieldAddr tabOk rfl rfl rfl rfl rfl) rfl rfl ?_
          first
            | refine SL.eff (Eff.store tabOk rfl rfl rfl (by repeat (first | assumption | exact Upd.here | apply Upd.there)) (by rfl) (Nat.le_of_ble_eq_true (by rfl)) (by rfl) (by rfl)) rfl rfl ?_
            | refine SL.eff (Eff.storeOwn tabOk rfl rfl rfl rfl (by repeat (first | assumption | exact List.mem_cons_self | apply List.mem_cons_of_mem)) (by repeat (first | assumption | exact Upd.here | apply Upd.there)) rfl (by rfl)) rfl rfl ?_
          rintro _ _ ⟨rfl, rfl⟩
          refine SL.nil ?_
          refine SE.seq ?_
          refine SC.region ?_
          refine SL.val (Val.move rfl) rfl rfl ?_
          first
            | refine SL.val (Val.loadA tabOk rfl rfl rfl (by first | (apply Or.inl; (repeat (first | assumption | exact List.mem_cons_self | apply List.mem_cons_of_mem)); done) | (apply Or.inr; (repeat (first | assumption | exact List.mem_cons_self | apply List.mem_cons_of_mem)); done)) List.not_mem_nil (by rfl)) rfl rfl ?_
            | refine SL.val (Val.loadP tabOk rfl rfl rfl (by first | (apply Or.inl; (repeat (first | assumption | exact List.mem_cons_self | apply List.mem_cons_of_mem)); done) | (apply Or.inr; (repeat (first | assumption | exact List.mem_cons_self | apply List.mem_cons_of_mem)); done)) List.not_mem_nil (Nat.le_of_ble_eq_true (by rfl))) rfl rfl ?_
          refine SL.eff (Eff.buildSl tabOk Try.underlying78 rfl rfl rfl rfl rfl rfl rfl) rfl rfl ?_
          rintro _ _ ⟨rfl, rfl⟩
          refine SL.eff (Eff.appendE (zs := (z.2.1 ++ [(⟨sg (z.1.num 8), sg ((Rd.pr1 z.1).num 8), (Rd.ens (Rd.of (Rd.prOut z.1 1048576))).1⟩ : Prf)]).map Prf.abs) tabOk [_, _] (by rw [List.map_append]; rfl) Try.underlying78 rfl rfl rfl rfl rfl rfl (by intro c hc; rw [List.mem_singleton] at hc; subst hc; rfl) (by unfold maxLen; simp only [List.length_map, List.length_cons, List.length_nil]; omega) (by rw [show Try.prog.bytesOf 133 = 40 by kernel_rfl]; simp only [List.length_map, List.length_cons, List.length_nil]; omega)) rfl rfl ?_
          rintro _ _ ⟨r57, rfl, rfl⟩
          refine SL.val (Val.assign rfl) rfl rfl ?_
          refine SL.nil ?_
          refine SE.inBlock ?_
          refine SE.seq ?_
          refine SC.region ?_
          refine SL.val (Val.move rfl) rfl rfl ?_
          first
            | refine SL.val (Val.subI rfl rfl (by simp only [InR, lo, hi]; omega)) rfl rfl ?_
            | refine SL.val (Val.subW rfl rfl) rfl rfl ?_
          refine SL.val (Val.assign rfl) rfl rfl ?_
          refine SL.nil ?_
          refine SE.round (((Rd.pr2 z.1).row 1048576, z.2.1 ++ [(⟨sg (z.1.num 8), sg ((Rd.pr1 z.1).num 8), (Rd.ens (Rd.of (Rd.prOut z.1 1048576))).1⟩ : Prf)], z.2.2.1 && (Rd.ens (Rd.of (Rd.prOut z.1 1048576))).2.1 && decide ((Rd.ens (Rd.of (Rd.prOut z.1 1048576))).2.2.end_ = 0), z.2.2.2.1 - 1, r57)) (by first | omega | (dsimp only; omega)) (⟨by dsimp only [Rd.pr2]; omega, by dsimp only; rw [List.length_append, List.length_singleton]; omega, by
            rw [← hz.2.2]
            obtain ⟨j, hj⟩ : ∃ j, z.2.2.2.1 = j + 1 := ⟨z.2.2.2.1 - 1, by omega⟩
            show Rd.rprfs (z.2.2.2.1 - 1) _ _ _ = Rd.rprfs z.2.2.2.1 _ _ _
            rw [hj, Nat.add_sub_cancel]
            show _ = (if z.1.e ≠ 0 then _ else _)
            rw [if_neg (by simpa using hc24)]⟩) ⟨rfl, rfl, (by show some (boo (decide _)) = some (boo (_ && _ && _)); rw [hc44, hc47, Bool.true_and, Bool.true_and]), (by show some (Abs.v (Value.int _ ((z.2.2.2.1 : Int) - 1))) = some (Abs.v (Value.int _ ((z.2.2.2.1 - 1 : Nat) : Int))); congr 3; omega), trivial⟩ (by repeat (first | exact List.nil_sublist _ | exact List.Sublist.refl _ | apply List.Sublist.cons_cons | apply List.Sublist.cons))
        · intro hc47
          refine SL.skip rfl rfl ?_
          refine SL.skip rfl rfl ?_
          refine SL.skip rfl rfl ?_
          refine SL.val (Val.pickF rfl rfl) rfl rfl ?_
          refine SL.val (Val.assign rfl) rfl rfl ?_
          refine SL.nil ?_
          refine SE.seq ?_
          refine SC.seq ?_
          refine SC.region ?_
          refine SL.val (Val.move rfl) rfl rfl ?_
          refine SL.val (Val.fieldAddr tabOk rfl rfl rfl rfl rfl) rfl rfl ?_
          first
            | refine SL.eff (Eff.store tabOk rfl rfl rfl (by repeat (first | assumption | exact Upd.here | apply Upd.there)) (by rfl) (Nat.le_of_ble_eq_true (by rfl)) (by rfl) (by rfl)) rfl rfl ?_
            | refine SL.eff (Eff.storeOwn tabOk rfl rfl rfl rfl (by repeat (first | assumption | exact List.mem_cons_self | apply List.mem_cons_of_mem)) (by repeat (first | assumption | exact Upd.here | apply Upd.there)) rfl (by rfl)) rfl rfl ?_
          rintro _ _ ⟨rfl, rfl⟩
          refine SL.nil ?_
          refine SE.seq ?_
          refine SC.region ?_
          refine SL.val (Val.move rfl) rfl rfl ?_
          first
            | refine SL.val (Val.loadA tabOk rfl rfl rfl (by first | (apply Or.inl; (repeat (first | assumption | exact List.mem_cons_self | apply List.mem_cons_of_mem)); done) | (apply Or.inr; (repeat (first | assumption | exact List.mem_cons_self | apply List.mem_cons_of_mem)); done)) List.not_mem_nil (by rfl)) rfl rfl ?_
            | refine SL.val (Val.loadP tabOk rfl rfl rfl (by first | (apply Or.inl; (repeat (first | assumption | exact List.mem_cons_self | apply List.mem_cons_of_mem)); done) | (apply Or.inr; (repeat (first | assumption | exact List.mem_cons_self | apply List.mem_cons_of_mem)); done)) List.not_mem_nil (Nat.le_of_ble_eq_true (by rfl))) rfl rfl ?_
          refine SL.eff (Eff.buildSl tabOk Try.underlying78 rfl rfl rfl rfl rfl rfl rfl) rfl rfl ?_
          rintro _ _ ⟨rfl, rfl⟩
          refine SL.eff (Eff.appendE (zs := (z.2.1 ++ [(⟨sg (z.1.num 8), sg ((Rd.pr1 z.1).num 8), (Rd.ens (Rd.of (Rd.prOut z.1 1048576))).1⟩ : Prf)]).map Prf.abs) tabOk [_, _] (by rw [List.map_append]; rfl) Try.underlying78 rfl rfl rfl rfl rfl rfl (by intro c hc; rw [List.mem_singleton] at hc; subst hc; rfl) (by unfold maxLen; simp only [List.length_map, List.length_cons, List.length_nil]; omega) (by rw [show Try.prog.bytesOf 133 = 40 by kernel_rfl]; simp only [List.length_map, List.length_cons, List.length_nil]; omega)) rfl rfl ?_
          rintro _ _ ⟨r57, rfl, rfl⟩
          refine SL.val (Val.assign rfl) rfl rfl ?_
          refine SL.nil ?_
          refine SE.inBlock ?_
          refine SE.seq ?_
          refine SC.region ?_
          refine SL.val (Val.move rfl) rfl rfl ?_
          first
            | refine SL.val (Val.subI rfl rfl (by simp only [InR, lo, hi]; omega)) rfl rfl ?_
            | refine SL.val (Val.subW rfl rfl) rfl rfl ?_
          refine SL.val (Val.assign rfl) rfl rfl ?_
          refine SL.nil ?_
          refine SE.round (((Rd.pr2 z.1).row 1048576, z.2.1 ++ [(⟨sg (z.1.num 8), sg ((Rd.pr1 z.1).num 8), (Rd.ens (Rd.of (Rd.prOut z.1 1048576))).1⟩ : Prf)], z.2.2.1 && (Rd.ens (Rd.of (Rd.prOut z.1 1048576))).2.1 && decide ((Rd.ens (Rd.of (Rd.prOut z.1 1048576))).2.2.end_ = 0), z.2.2.2.1 - 1, r57)) (by first | omega | (dsimp only; omega)) (⟨by dsimp only [Rd.pr2]; omega, by dsimp only; rw [List.length_append, List.length_singleton]; omega, by
            rw [← hz.2.2]
            obtain ⟨j, hj⟩ : ∃ j, z.2.2.2.1 = j + 1 := ⟨z.2.2.2.1 - 1, by omega⟩
            show Rd.rprfs (z.2.2.2.1 - 1) _ _ _ = Rd.rprfs z.2.2.2.1 _ _ _
            rw [hj, Nat.add_sub_cancel]
            show _ = (if z.1.e ≠ 0 then _ else _)
            rw [if_neg (by simpa using hc24)]⟩) ⟨rfl, rfl, (by show some (boo false) = some (boo (_ && _ && _)); rw [hc44, hc47]; rfl), (by show some (Abs.v (Value.int _ ((z.2.2.2.1 : Int) - 1))) = some (Abs.v (Value.int _ ((z.2.2.2.1 - 1 : Nat) : Int))); congr 3; omega), trivial⟩ (by repeat (first | exact List.nil_sublist _ | exact List.Sublist.refl _ | apply List.Sublist.cons_cons | apply List.Sublist.cons))
      · intro hc44
        refine SL.skip rfl rfl ?_
        refine SL.val (Val.pickF rfl rfl) rfl rfl ?_
        refine SL.val (Val.move rfl) rfl rfl ?_
        refine SL.skip rfl rfl ?_
        refine SL.skip rfl rfl ?_
        refine SL.skip rfl rfl ?_
        refine SL.val (Val.pickF rfl rfl) rfl rfl ?_
        refine SL.val (Val.assign rfl) rfl rfl ?_
        refine SL.nil ?_
        refine SE.seq ?_
        refine SC.seq ?_
        refine SC.region ?_
        refine SL.val (Val.move rfl) rfl rfl ?_
        refine SL.val (Val.fieldAddr tabOk rfl rfl rfl rfl rfl) rfl rfl ?_
        first
          | refine SL.eff (Eff.store tabOk rfl rfl rfl (by repeat (first | assumption | exact Upd.here | apply Upd.there)) (by rfl) (Nat.le_of_ble_eq_true (by rfl)) (by rfl) (by rfl)) rfl rfl ?_
          | refine SL.eff (Eff.storeOwn tabOk rfl rfl rfl rfl (by repeat (first | assumption | exact List.mem_cons_self | apply List.mem_cons_of_mem)) (by repeat (first | assumption | exact Upd.here | apply Upd.there)) rfl (by rfl)) rfl rfl ?_
        rintro _ _ ⟨rfl, rfl⟩
        refine SL.nil ?_
        refine SE.seq ?_
        refine SC.region ?_
        refine SL.val (Val.move rfl) rfl rfl ?_
        first
          | refine SL.val (Val.loadA tabOk rfl rfl rfl (by first | (apply Or.inl; (repeat (first | assumption | exact List.mem_cons_self | apply List.mem_cons_of_mem)); done) | (apply Or.inr; (repeat (first | assumption | exact List.mem_cons_self | apply List.mem_cons_of_mem)); done)) List.not_mem_nil (by rfl)) rfl rfl ?_
          | refine SL.val (Val.loadP tabOk rfl rfl rfl (by first | (apply Or.inl; (repeat (first | assumption | exact List.mem_cons_self | apply List.mem_cons_of_mem)); done) | (apply Or.inr; (repeat (first | assumption | exact List.mem_cons_self | apply List.mem_cons_of_mem)); done)) List.not_mem_nil (Nat.le_of_ble_eq_true (by rfl))) rfl rfl ?_
        refine SL.eff (Eff.buildSl tabOk Try.underlying78 rfl rfl rfl rfl rfl rfl rfl) rfl rfl ?_
        rintro _ _ ⟨rfl, rfl⟩
        refine SL.eff (Eff.appendE (zs := (z.2.1 ++ [(⟨sg (z.1.num 8), sg ((Rd.pr1 z.1).num 8), (Rd.ens (Rd.of (Rd.prOut z.1 1048576))).1⟩ : Prf)]).map Prf.abs) tabOk [_, _] (by rw [List.map_append]; rfl) Try.underlying78 rfl rfl rfl rfl rfl rfl (by intro c hc; rw [List.mem_singleton] at hc; subst hc; rfl) (by unfold maxLen; simp only [List.length_map, List.length_cons, List.length_nil]; omega) (by rw [show Try.prog.bytesOf 133 = 40 by kernel_rfl]; simp only [List.length_map, List.length_cons, List.length_nil]; omega)) rfl rfl ?_
        rintro _ _ ⟨r57, rfl, rfl⟩
        refine SL.val (Val.assign rfl) rfl rfl ?_
        refine SL.nil ?_
        refine SE.inBlock ?_
        refine SE.seq ?_
        refine SC.region ?_
        refine SL.val (Val.move rfl) rfl rfl ?_
        first
          | refine SL.val (Val.subI rfl rfl (by simp only [InR, lo, hi]; omega)) rfl rfl ?_
          | refine SL.val (Val.subW rfl rfl) rfl rfl ?_
        refine SL.val (Val.assign rfl) rfl rfl ?_
        refine SL.nil ?_
        refine SE.round (((Rd.pr2 z.1).row 1048576, z.2.1 ++ [(⟨sg (z.1.num 8), sg ((Rd.pr1 z.1).num 8), (Rd.ens (Rd.of (Rd.prOut z.1 1048576))).1⟩ : Prf)], z.2.2.1 && (Rd.ens (Rd.of (Rd.prOut z.1 1048576))).2.1 && decide ((Rd.ens (Rd.of (Rd.prOut z.1 1048576))).2.2.end_ = 0), z.2.2.2.1 - 1, r57)) (by first | omega | (dsimp only; omega)) (⟨by dsimp only [Rd.pr2]; omega, by dsimp only; rw [List.length_append, List.length_singleton]; omega, by
          rw [← hz.2.2]
          obtain ⟨j, hj⟩ : ∃ j, z.2.2.2.1 = j + 1 := ⟨z.2.2.2.1 - 1, by omega⟩
          show Rd.rprfs (z.2.2.2.1 - 1) _ _ _ = Rd.rprfs z.2.2.2.1 _ _ _
          rw [hj, Nat.add_sub_cancel]
          show _ = (if z.1.e ≠ 0 then _ else _)
          rw [if_neg (by simpa using hc24)]⟩) ⟨rfl, rfl, (by show some (boo false) = some (boo (_ && _ && _)); rw [hc44]; rfl), (by show some (Abs.v (Value.int _ ((z.2.2.2.1 : Int) - 1))) = some (Abs.v (Value.int _ ((z.2.2.2.1 - 1 : Nat) : Int))); congr 3; omega), trivial⟩ (by repeat (first | exact List.nil_sublist _ | exact List.Sublist.refl _ | apply List.Sublist.cons_cons | apply List.Sublist.cons))
    · intro hc24
      refine SC.exit ?_
      refine SE.then_ (by intro h; cases h) ?_
      refine SE.then_ (by intro h; cases h) ?_
      refine SE.exit ?_
      refine SE.seq ?_
      refine SC.seq ?_
      refine SC.region ?_
      refine SL.val (Val.move rfl) rfl rfl ?_
      refine SL.val (Val.move rfl) rfl rfl ?_
      refine SL.val (Val.assign rfl) rfl rfl ?_
      refine SL.val (Val.assign rfl) rfl rfl ?_
      refine SL.nil ?_
      refine SE.seq ?_
      refine SC.ret ?_
      have e0 : Rd.rprfs (s.countN most) (s.count most) [] true = (z.2.1, z.2.2.1, z.1) := by
        rw [← hz.2.2]
        first
          | (rw [show z.2.2.2.1 = 0 by omega]; rfl)
          | exact rprfs_stop (by simpa using hc24) _
      refine SE.freeze [] (t := 4) rfl rfl ?_
      rw [e0]
      refine SE.fin (rs := [.tmp 4, .tmp 5]) rfl (RV.tmp rfl (RV.tmp rfl RV.nil)) (()) (by repeat (first | exact List.nil_sublist _ | exact List.Sublist.refl _ | apply List.Sublist.cons_cons | apply List.Sublist.cons)) (by simp [It.rids]) ?_
      exact rfl
  · intro hc18
    refine SL.skip rfl rfl ?_
    refine SL.skip rfl rfl ?_
    refine SL.skip rfl rfl ?_
    refine SL.skip rfl rfl ?_
    refine SL.skip rfl rfl ?_
    refine SL.val (Val.pickF rfl rfl) rfl rfl ?_
    refine SL.nil ?_
    refine SE.seq ?_
    refine SC.condF rfl ?_
    refine SC.exit ?_
    refine SE.then_ (by intro h; cases h) ?_
    refine SE.then_ (by intro h; cases h) ?_
    refine SE.exit ?_
    refine SE.seq ?_
    refine SC.seq ?_
    refine SC.region ?_
    refine SL.val (Val.move rfl) rfl rfl ?_
    refine SL.val (Val.move rfl) rfl rfl ?_
    refine SL.val (Val.assign rfl) rfl rfl ?_
    refine SL.val (Val.assign rfl) rfl rfl ?_
    refine SL.nil ?_
    refine SE.seq ?_
    refine SC.ret ?_
    have e0 : Rd.rprfs (s.countN most) (s.count most) [] true = (z.2.1, z.2.2.1, z.1) := by
      rw [← hz.2.2]
      first
        | (rw [show z.2.2.2.1 = 0 by omega]; rfl)
        | exact rprfs_stop (by simpa using hc24) _
    refine SE.freeze [] (t := 4) rfl rfl ?_
    rw [e0]
    refine SE.fin (rs := [.tmp 4, .tmp 5]) rfl (RV.tmp rfl (RV.tmp rfl RV.nil)) (()) (by repeat (first | exact List.nil_sublist _ | exact List.Sublist.refl _ | apply List.Sublist.cons_cons | apply List.Sublist.cons)) (by simp [It.rids]) ?_
    exact rfl
end
end Go.Proofs.Ytdbeinbgekdnmaa.A
/-
  Changes out of bytes: Parse, over the second engine.
-/
set_option maxRecDepth 100000
set_option linter.unusedSimpArgs false
set_option linter.unusedVariables false
namespace Go.Proofs.Ytdbeinbgekdnmaa.A
open Go.RowKit

/-- A digest out of bytes that were read: 32 of them, or none. -/
def pad32 (m : List UInt8) (z : Nat) : List UInt8 := m.take z ++ List.replicate (32 - z) 0
theorem pad32_length {m : List UInt8} {z : Nat} (h : z ≤ m.length) (h2 : z ≤ 32) : (pad32 m z).length = 32 := by
  simp [pad32]; omega
def pad (m : List UInt8) : List UInt8 := pad32 m (min m.length 32)
theorem pad_length (m : List UInt8) : (pad m).length = 32 := pad32_length (by omega) (by omega)
theorem pad_all {m : List UInt8} (h : m.length = 32) : pad m = m := by
  have : m.take 32 = m := List.take_of_length_le (by omega)
  simp [pad, pad32, h, this]
theorem dig_put {m : List UInt8} {z : Nat} (h : z < m.length) (h2 : m.length ≤ 32) : putL (digA (pad32 m z)) (0 + z * 1) [.v (bc m[z])] = digA (pad32 m (z + 1)) := by
  rw [Nat.zero_add, Nat.mul_one, putL_eq _ _ _ (by simp [digA, pad32]; omega)]
  unfold pad32 digA
  rw [List.take_succ_eq_append_getElem h]
  obtain ⟨j, hj⟩ : ∃ j, 32 - z = j + 1 := ⟨32 - z - 1, by omega⟩
  rw [hj, show 32 - (z + 1) = j by omega, List.replicate_succ]
  have e1 : (m.take z).length = z := by simp; omega
  simp only [List.map_append, List.map_cons, List.map_nil, List.take_append, List.drop_append, List.length_map, e1, List.length_singleton]
  rw [List.take_of_length_le (by simp; omega), List.drop_of_length_le (by simp; omega)]
  simp
theorem Rd.out32 (s : Rd) : (s.out 32).length ≤ 32 := s.out_length 32
def Pnt.mk' (x : Int) (m : List UInt8) : Pnt := ⟨x, pad m, pad_length m⟩
/-- Checkpoints as the program reads them. -/
def Rd.pnts : Nat → Rd → List Pnt → List Pnt × Rd
  | 0, s, acc => (acc, s)
  | k + 1, s, acc => Rd.pnts k ((s.fixed 8).fixed 32) (acc ++ [Pnt.mk' (sg (s.num 8)) ((s.fixed 8).out 32)])
def Rd.rpnts : Nat → Rd → List Pnt → List Pnt × Rd
  | 0, s, acc => (acc, s)
  | k + 1, s, acc => if s.e ≠ 0 then (acc, s) else Rd.rpnts k ((s.fixed 8).fixed 32) (acc ++ [Pnt.mk' (sg (s.num 8)) ((s.fixed 8).out 32)])
theorem rpnts_stop {s : Rd} {acc : List Pnt} (h : s.e ≠ 0) : ∀ k, Rd.rpnts k s acc = (acc, s)
  | 0 => rfl
  | k + 1 => by show (if s.e ≠ 0 then _ else _) = _; rw [if_pos h]
section
variable {p : Nat} {s : Rd} {n : Int} {l : List UInt8}
theorem rreaddig_s (hl : s.l.length ≤ lots) : Spec Try.prog 109 [ptr p] [rdA RR p s] (fun _ : Unit => [rdA RR p (s.fixed 32)]) (fun _ => .agg (digA (pad (s.out 32)))) := by
  have h32 := Rd.out32 s
  refine spec_of Try.func109 rfl Try.ntmps109 rfl fun G w => ?_
  refine SC.seq ?_
  refine SC.region ?_
  refine SL.eff (Eff.alloc tabOk rfl) rfl rfl ?_
  rintro _ _ ⟨b2, rfl, rfl⟩
  refine SL.nil ?_
  refine SE.seq ?_
  refine SC.seq ?_
  refine SC.region ?_
  refine SL.eff (Eff.alloc tabOk rfl) rfl rfl ?_
  rintro _ _ ⟨b3, rfl, rfl⟩
  refine SL.nil ?_
  refine SE.seq ?_
  refine SC.seq ?_
  refine SC.seq ?_
  refine SC.region ?_
  refine SL.val (Val.move rfl) rfl rfl ?_
  refine SL.call (rfixed_s (s := s) (n := 32) hl) Casts.refl (by kernel_rfl) rfl rfl rfl ?_
  refine After.one rfl (by repeat (first | assumption | exact List.mem_cons_self | apply List.mem_cons_of_mem)) (fun _ => rfl) ?_
  intro _
  refine ⟨_, (by repeat (first | assumption | exact Upd.here | apply Upd.there)), ?_⟩
  first
    | refine SL.val (Val.lenSl rfl Try.underlying34 (List.length_map _)) rfl rfl ?_
    | refine SL.val (Val.lenOwn rfl (by repeat (first | assumption | exact List.mem_cons_self | apply List.mem_cons_of_mem)) Try.underlying34 (List.length_map _)) rfl rfl ?_
    | refine SL.val (Val.lenNil rfl Try.underlying34) rfl rfl ?_
  refine SL.val (Val.move rfl) rfl rfl ?_
  refine SL.nil ?_
  refine SE.seq ?_
  refine SC.block ?_
  refine SC.loop (ι := Nat) (fun z => [.blk b3 46 (digA (pad32 (s.out 32) z)), .blk b2 46 (zabs (List.replicate 32 (.int .u8 0))), rdA RR p (s.fixed 32)]) (fun z => [(2, ptr b2), (3, ptr b3), (7, byt (s.out 32)), (8, int ((s.out 32).length : Nat)), (9, int (z : Nat))]) (fun z => z ≤ (s.out 32).length) (fun z => (s.out 32).length - z) (0) (Nat.zero_le _) (by exact ⟨rfl, rfl, rfl, rfl, rfl, trivial⟩) (by repeat (first | exact List.nil_sublist _ | exact List.Sublist.refl _ | apply List.Sublist.cons_cons | apply List.Sublist.cons)) ?_
  intro z hz
  refine SC.seq ?_
  refine SC.region ?_
  refine SL.val (Val.ltI rfl rfl) rfl rfl ?_
  refine SL.nil ?_
  refine SE.seq ?_
  refine SC.seq ?_
  refine SC.condP rfl ?_ ?_
  · intro hc10
    have hlt : z < (s.out 32).length := by omega
    refine SC.skip ?_
    refine SE.seq ?_
    refine SC.seq ?_
    refine SC.block ?_
    refine SC.seq ?_
    refine SC.region ?_
    refine SL.val (Val.move rfl) rfl rfl ?_
    refine SL.val (Val.indexSl tabOk Try.underlying34 rfl rfl rfl rfl (at_map (by omega)) rfl rfl) rfl rfl ?_
    refine SL.val (Val.load1R tabOk rfl rfl rfl) rfl rfl ?_
    refine SL.val (Val.assign rfl) rfl rfl ?_
    refine SL.val (Val.assign rfl) rfl rfl ?_
    refine SL.nil ?_
    refine SE.seq ?_
    refine SC.region ?_
    refine SL.val (Val.move rfl) rfl rfl ?_
    refine SL.val (Val.move rfl) rfl rfl ?_
    refine SL.val (Val.indexArP (q := z) tabOk Try.underlying46 rfl rfl rfl rfl (by omega) rfl) rfl rfl ?_
    refine SL.eff (Eff.store (L' := digA (pad32 (s.out 32) (z + 1))) tabOk rfl rfl rfl (by repeat (first | assumption | exact Upd.here | apply Upd.there)) rfl (by simp only [digA, List.length_map]; rw [pad32_length (by omega) (by omega)]; show 0 + z * 1 + 1 ≤ 32; omega) rfl (dig_put hlt h32)) rfl rfl ?_
    rintro _ _ ⟨rfl, rfl⟩
    refine SL.nil ?_
    refine SE.inBlock ?_
    refine SE.seq ?_
    refine SC.region ?_
    first
      | refine SL.val (Val.addI rfl rfl (by simp only [InR, lo, hi]; omega)) rfl rfl ?_
      | refine SL.val (Val.addW rfl rfl) rfl rfl ?_
    refine SL.val (Val.move rfl) rfl rfl ?_
    refine SL.nil ?_
    refine SE.round (z + 1) (by first | omega | (dsimp only; omega)) (by first | omega | (dsimp only; omega)) (by exact ⟨rfl, rfl, rfl, rfl, rfl, trivial⟩) (by repeat (first | exact List.nil_sublist _ | exact List.Sublist.refl _ | apply List.Sublist.cons_cons | apply List.Sublist.cons))
  · intro hc10
    refine SC.exit ?_
    refine SE.then_ (by intro h; cases h) ?_
    refine SE.then_ (by intro h; cases h) ?_
    refine SE.exit ?_
    refine SE.seq ?_
    refine SC.seq ?_
    refine SC.region ?_
    refine SL.val (Val.loadA tabOk rfl rfl rfl (by first | (apply Or.inl; (repeat (first | assumption | exact List.mem_cons_self | apply List.mem_cons_of_mem)); done) | (apply Or.inr; (repeat (first | assumption | exact List.mem_cons_self | apply List.mem_cons_of_mem)); done)) List.not_mem_nil (by simp only [digA, List.length_map]; rw [pad32_length (by omega) (by omega)])) rfl rfl ?_
    refine SL.eff (Eff.store (L' := digA (pad32 (s.out 32) z)) tabOk rfl rfl rfl (by repeat (first | assumption | exact Upd.here | apply Upd.there)) (by simp only [cellsA, digA, List.length_map]; rw [pad32_length (by omega) (by omega)]) (Nat.le_of_ble_eq_true (by rfl)) (by show ones (digA _) = true; rw [ones_iff]; intro a ha; obtain ⟨b, _, rfl⟩ := List.mem_map.1 ha; rfl) (by exact putL_all (by simp only [cellsA, digA, List.length_map]; rw [pad32_length (by omega) (by omega)]; rfl))) rfl rfl ?_
    rintro _ _ ⟨rfl, rfl⟩
    refine SL.nil ?_
    refine SE.seq ?_
    refine SC.ret ?_
    refine SE.fin (rs := [.cell 2 46]) rfl (RV.cell rfl (RV.cellA tabOk rfl rfl (by first | (apply Or.inl; (repeat (first | assumption | exact List.mem_cons_self | apply List.mem_cons_of_mem)); done) | (apply Or.inr; (repeat (first | assumption | exact List.mem_cons_self | apply List.mem_cons_of_mem)); done)) (by simp only [digA, List.length_map]; rw [pad32_length (by omega) (by omega)])) RV.nil) () (by repeat (first | exact List.nil_sublist _ | exact List.Sublist.refl _ | apply List.Sublist.cons_cons | apply List.Sublist.cons)) (by simp [It.rids]) ?_
    show Abs.agg (digA (pad32 (s.out 32) z)) = .agg (digA (pad (s.out 32)))
    rw [pad, show min (s.out 32).length 32 = z by omega]
def Chg.zero : Chg := ⟨0, 0, [], [], []⟩
/-- What the program reads, whether an odd one was there, and what is left. -/
def Rd.chgHead (l : List UInt8) : Rd := ((Rd.of l).fixed 8).fixed 8
def Rd.chgPts (l : List UInt8) : List Pnt × Rd := Rd.pnts ((Rd.chgHead l).countN 4) ((Rd.chgHead l).count 4) []
def Rd.chgPre (l : List UInt8) (n : Int) : List Prf × Bool × Rd := Rd.prfs n l.length ((Rd.chgPts l).2.countN 8) ((Rd.chgPts l).2.count 8) [] false
def Rd.chgPro (l : List UInt8) (n : Int) : List Prf × Bool × Rd := Rd.prfs n l.length ((Rd.chgPre l n).2.2.countN 64) ((Rd.chgPre l n).2.2.count 64) [] false
def Rd.chg (l : List UInt8) (n : Int) : Chg := ⟨sg ((Rd.of l).num 8), sg (((Rd.of l).fixed 8).num 8), (Rd.chgPts l).1, (Rd.chgPre l n).1, (Rd.chgPro l n).1⟩
noncomputable def parseC (l : List UInt8) (n : Int) : Chg × Int :=
  if n < 1 ∨ 7 < n then (Chg.zero, 1) else
  if (Rd.chgPro l n).2.2.end_ ≠ 0 ∨ (Rd.chgPre l n).2.1 = true ∨ (Rd.chgPro l n).2.1 = true ∨ (Rd.chg l n).check n ≠ 0 then (Chg.zero, 2) else (Rd.chg l n, 0)
theorem pnt_copy {x : Int} {m : List UInt8} (h : m.length ≤ 32) : putL (int x :: List.replicate 32 (.v (.int .u8 0))) 1 ((bys m).take 32).flatten = (Pnt.mk' x m).abs := by
  have e1 : ((bys m).take 32).flatten = digA m := by
    rw [List.take_of_length_le (by simpa using h)]
    induction m with
    | nil => rfl
    | cons b m ih =>
      have := ih (by simp at h; omega)
      simp only [bys, digA, List.map_cons, List.flatten_cons] at this ⊢
      rw [this]; rfl
  rw [e1]
  show int x :: putL (List.replicate 32 (.v (.int .u8 0))) 0 (digA m) = int x :: digA (pad m)
  congr 1
  rw [putL_eq _ _ _ (Nat.zero_le _)]
  have e2 : (digA m).length = m.length := by simp [digA]
  unfold pad pad32
  rw [show min m.length 32 = m.length by omega, List.take_of_length_le (Nat.le_refl _)]
  rw [Nat.zero_add, e2, List.take_zero, List.nil_append, List.drop_replicate]
  unfold digA
  rw [List.map_append, List.map_replicate]
  rfl
theorem pnts_left : ∀ (k : Nat) (s : Rd) (acc : List Pnt), (Rd.pnts k s acc).1.length = acc.length + k ∧ (Rd.pnts k s acc).2.l.length ≤ s.l.length
  | 0, s, acc => ⟨rfl, Nat.le_refl _⟩
  | k + 1, s, acc => by
    have h1 := pnts_left k ((s.fixed 8).fixed 32) (acc ++ [Pnt.mk' (sg (s.num 8)) ((s.fixed 8).out 32)])
    have h2 := s.fixed_length 8
    have h3 := (s.fixed 8).fixed_length 32
    rw [List.length_append, List.length_singleton] at h1
    unfold Rd.pnts
    omega
theorem prfs_left (n room : Int) : ∀ (k : Nat) (s : Rd) (acc : List Prf) (o : Bool), (Rd.prfs n room k s acc o).1.length = acc.length + k ∧ (Rd.prfs n room k s acc o).2.2.l.length ≤ s.l.length
  | 0, s, acc, o => ⟨rfl, Nat.le_refl _⟩
  | k + 1, s, acc, o => by
    have h1 := prfs_left n room k ((Rd.pr2 s).row room) (acc ++ [⟨sg (s.num 8), sg ((Rd.pr1 s).num 8), (parseS (Rd.prOut s room) n).1⟩]) (o || decide ((parseS (Rd.prOut s room) n).2 ≠ 0))
    have h2 := s.fixed_length 8
    have h3 := (s.fixed 8).fixed_length 8
    have h4 := Rd.row_length (Rd.pr2 s) room
    rw [List.length_append, List.length_singleton] at h1
    unfold Rd.pr2 at h1 h4
    unfold Rd.prfs Rd.pr2
    omega
theorem ents_len {most : Int} : ∀ (m : Nat) (s : Rd) (acc : List Ent) (es : List Ent) (t : Rd), s.ents most m acc = some (es, t) → es.length = acc.length + m
  | 0, s, acc, es, t, h => by
    simp only [Rd.ents, Option.some.injEq, Prod.mk.injEq] at h
    rw [← h.1]; rfl
  | m + 1, s, acc, es, t, h => by
    simp only [Rd.ents] at h
    split at h
    · cases h
    · have := ents_len m _ _ _ _ h
      rw [List.length_append, List.length_singleton] at this
      omega
theorem parseS_few {l : List UInt8} {n : Int} : (parseS l n).1.length ≤ 1000000 := by
  unfold parseS
  have h9 : manyOf l ≤ (Rd.of l).num 2 := Nat.min_le_left _ _
  have h8 := (Rd.of l).num_lt (n := 2) (k := 2) (Nat.le_refl _)
  cases h : Rd.ents l.length (manyOf l) ((Rd.of l).fixed 2) [] with
  | none => simp [parse2]
  | some x =>
    obtain ⟨es, t⟩ := x
    have h7 := ents_len _ _ _ _ _ h
    simp only [List.length_nil] at h7
    simp only [parse2]
    split
    · simp
    · split
      · simp
      · show es.length ≤ 1000000
        omega
theorem elems_one {s i : Nat} {cs : List Abs} (h : cs.length = s) : elems s [(i, .agg cs)] = some [cs] := by simp [elems, cellsA, h]
theorem prfs_all (Q : Prf → Prop) {n room : Int} {B : Nat} (hQ : ∀ (a b : Int) (l : List UInt8), l.length ≤ B → Q ⟨a, b, (parseS l n).1⟩) : ∀ (k : Nat) (s : Rd) (acc : List Prf) (o : Bool), s.l.length ≤ B → (∀ p ∈ acc, Q p) → ∀ p ∈ (Rd.prfs n room k s acc o).1, Q p
  | 0, _, _, _, _, h => h
  | k + 1, s, acc, o, hB, h => by
    have h2 := s.fixed_length 8
    have h3 := (s.fixed 8).fixed_length 8
    have h4 := Rd.row_length (Rd.pr2 s) room
    have h5 : (Rd.prOut s room).length ≤ (Rd.pr2 s).l.length := Rd.rowOut_length _ _
    unfold Rd.pr2 at h4 h5
    refine prfs_all Q hQ k _ _ _ (by unfold Rd.pr2; omega) fun p hp => ?_
    rcases List.mem_append.1 hp with hp | hp
    · exact h p hp
    · rw [List.mem_singleton] at hp; subst hp; exact hQ _ _ _ (by omega)
set_option maxHeartbeats 4000000 in
theorem parse_s (hl : l.length ≤ 10000000) : Spec Try.prog 63 [byt l, int n] [] (fun _ : Unit => []) (fun _ => .tup [.agg (parseC l n).1.abs, int (parseC l n).2]) := by
  have hL : lots = 100000000000 := rfl
  have hof : (Rd.of l).l = l := rfl
  have q1 := (Rd.of l).fixed_length 8
  have q2 := ((Rd.of l).fixed 8).fixed_length 8
  have q3 := Rd.count_length (Rd.chgHead l) 4
  have q4 := Rd.countN_lt (Rd.chgHead l) 4
  unfold Rd.chgHead at q3
  rw [hof] at q1
  refine spec_of Try.func63 rfl Try.ntmps63 rfl fun G w => ?_
  refine SC.seq ?_
  refine SC.region ?_
  refine SL.eff (Eff.alloc tabOk rfl) rfl rfl ?_
  rintro _ _ ⟨b4, rfl, rfl⟩
  refine SL.val (Val.assign rfl) rfl rfl ?_
  refine SL.nil ?_
  refine SE.seq ?_
  refine SC.seq ?_
  refine SC.seq ?_
  refine SC.region ?_
  refine SL.val (Val.move rfl) rfl rfl ?_
  refine SL.val (Val.ltI rfl rfl) rfl rfl ?_
  refine SL.val (Val.move rfl) rfl rfl ?_
  refine SL.bothP (t := 13) rfl ?_ ?_
  · intro hc13
    refine SL.skip rfl rfl ?_
    refine SL.skip rfl rfl ?_
    refine SL.val (Val.pickT rfl rfl) rfl rfl ?_
    refine SL.nil ?_
    refine SE.seq ?_
    refine SC.condT rfl ?_
    refine SC.seq ?_
    refine SC.region ?_
    refine SL.val (Val.buildS tabOk rfl rfl rfl rfl) rfl rfl ?_
    refine SL.eff (Eff.store tabOk rfl rfl rfl (by repeat (first | assumption | exact Upd.here | apply Upd.there)) (by rfl) (Nat.le_of_ble_eq_true (by rfl)) (by rfl) (by rfl)) rfl rfl ?_
    rintro _ _ ⟨rfl, rfl⟩
    refine SL.val (Val.assign rfl) rfl rfl ?_
    refine SL.nil ?_
    refine SE.seq ?_
    refine SC.ret ?_
    refine SE.then_ (by intro h; cases h) ?_
    refine SE.finC (rs := [.cell 4 80, .tmp 5]) rfl (RV.cell rfl (RV.cellA tabOk rfl rfl (by first | (apply Or.inl; (repeat (first | assumption | exact List.mem_cons_self | apply List.mem_cons_of_mem)); done) | (apply Or.inr; (repeat (first | assumption | exact List.mem_cons_self | apply List.mem_cons_of_mem)); done)) (by rfl)) (RV.tmp rfl RV.nil)) (Casts.cons (cast_agg (Casts.keep (Casts.keep (Casts.nils (s := 33) (Casts.nils (s := 3) (Casts.nils (s := 3) Casts.refl)))))) Casts.refl) (()) (by repeat (first | exact List.nil_sublist _ | exact List.Sublist.refl _ | apply List.Sublist.cons_cons | apply List.Sublist.cons)) (by simp [It.rids]) ?_
    have e : parseC l n = (Chg.zero, 1) := by
      unfold parseC
      rw [if_pos (by omega)]
    rw [e]
    rfl
  · intro hc13
    refine SL.val (Val.move rfl) rfl rfl ?_
    refine SL.val (Val.gtI rfl rfl) rfl rfl ?_
    refine SL.val (Val.pickF rfl rfl) rfl rfl ?_
    refine SL.nil ?_
    refine SE.seq ?_
    refine SC.condP rfl ?_ ?_
    · intro hc16
      refine SC.seq ?_
      refine SC.region ?_
      refine SL.val (Val.buildS tabOk rfl rfl rfl rfl) rfl rfl ?_
      refine SL.eff (Eff.store tabOk rfl rfl rfl (by repeat (first | assumption | exact Upd.here | apply Upd.there)) (by rfl) (Nat.le_of_ble_eq_true (by rfl)) (by rfl) (by rfl)) rfl rfl ?_
      rintro _ _ ⟨rfl, rfl⟩
      refine SL.val (Val.assign rfl) rfl rfl ?_
      refine SL.nil ?_
      refine SE.seq ?_
      refine SC.ret ?_
      refine SE.then_ (by intro h; cases h) ?_
      refine SE.finC (rs := [.cell 4 80, .tmp 5]) rfl (RV.cell rfl (RV.cellA tabOk rfl rfl (by first | (apply Or.inl; (repeat (first | assumption | exact List.mem_cons_self | apply List.mem_cons_of_mem)); done) | (apply Or.inr; (repeat (first | assumption | exact List.mem_cons_self | apply List.mem_cons_of_mem)); done)) (by rfl)) (RV.tmp rfl RV.nil)) (Casts.cons (cast_agg (Casts.keep (Casts.keep (Casts.nils (s := 33) (Casts.nils (s := 3) (Casts.nils (s := 3) Casts.refl)))))) Casts.refl) (()) (by repeat (first | exact List.nil_sublist _ | exact List.Sublist.refl _ | apply List.Sublist.cons_cons | apply List.Sublist.cons)) (by simp [It.rids]) ?_
      have e : parseC l n = (Chg.zero, 1) := by
        unfold parseC
        rw [if_pos (by omega)]
      rw [e]
      rfl
    · intro hc16
      refine SC.skip ?_
      refine SE.seq ?_
      refine SC.seq ?_
      refine SC.region ?_
      refine SL.val (Val.move rfl) rfl rfl ?_
      refine SL.call (read_s (l := l) (by omega)) Casts.refl (by kernel_rfl) rfl rfl rfl ?_
      refine After.make (by repeat (first | exact Reads.nil | refine Reads.blk (by repeat (first | assumption | exact List.mem_cons_self | apply List.mem_cons_of_mem)) ?_ | refine Reads.rd (by repeat (first | assumption | exact List.mem_cons_self | apply List.mem_cons_of_mem)) ?_ | refine Reads.pc (by repeat (first | assumption | exact List.mem_cons_self | apply List.mem_cons_of_mem)) ?_ | refine Reads.rdpc (by repeat (first | assumption | exact List.mem_cons_self | apply List.mem_cons_of_mem)) ?_)) (fun _ => rfl) ?_
      intro p6
      refine SL.val (Val.assign rfl) rfl rfl ?_
      refine SL.nil ?_
      refine SE.seq ?_
      refine SC.seq ?_
      refine SC.region ?_
      refine SL.val (Val.move rfl) rfl rfl ?_
      refine SL.call (number_s (s := Rd.of l) (n := 8) (by show l.length ≤ _; omega) rfl) Casts.refl (by kernel_rfl) rfl rfl rfl ?_
      refine After.one rfl (by repeat (first | assumption | exact List.mem_cons_self | apply List.mem_cons_of_mem)) (fun _ => rfl) ?_
      intro _
      refine ⟨_, (by repeat (first | assumption | exact Upd.here | apply Upd.there)), ?_⟩
      first
        | refine SL.val (Val.convI rfl Try.underlying2 (by kernel_rfl) (by simp only [InR, lo, hi]; omega)) rfl rfl ?_
        | refine SL.val (Val.convW rfl Try.underlying2 (by kernel_rfl)) rfl rfl ?_
      refine SL.val (Val.move rfl) rfl rfl ?_
      refine SL.call (number_s (s := (Rd.of l).fixed 8) (n := 8) (by omega) rfl) Casts.refl (by kernel_rfl) rfl rfl rfl ?_
      refine After.one rfl (by repeat (first | assumption | exact List.mem_cons_self | apply List.mem_cons_of_mem)) (fun _ => rfl) ?_
      intro _
      refine ⟨_, (by repeat (first | assumption | exact Upd.here | apply Upd.there)), ?_⟩
      first
        | refine SL.val (Val.convI rfl Try.underlying2 (by kernel_rfl) (by simp only [InR, lo, hi]; omega)) rfl rfl ?_
        | refine SL.val (Val.convW rfl Try.underlying2 (by kernel_rfl)) rfl rfl ?_
      refine SL.val (Val.buildS tabOk rfl rfl rfl rfl) rfl rfl ?_
      refine SL.eff (Eff.alloc tabOk rfl) rfl rfl ?_
      rintro _ _ ⟨b7, rfl, rfl⟩
      refine SL.eff (Eff.store tabOk rfl rfl rfl (by repeat (first | assumption | exact Upd.here | apply Upd.there)) (by rfl) (Nat.le_of_ble_eq_true (by rfl)) (by rfl) (by rfl)) rfl rfl ?_
      rintro _ _ ⟨rfl, rfl⟩
      refine SL.nil ?_
      refine SE.seq ?_
      refine SC.seq ?_
      refine SC.seq ?_
      refine SC.region ?_
      refine SL.val (Val.move rfl) rfl rfl ?_
      refine SL.call (count_s (s := Rd.chgHead l) (n := 4) (by unfold Rd.chgHead; omega)) Casts.refl (by kernel_rfl) rfl rfl rfl ?_
      refine After.one rfl (by repeat (first | assumption | exact List.mem_cons_self | apply List.mem_cons_of_mem)) (fun _ => rfl) ?_
      intro _
      refine ⟨_, (by repeat (first | assumption | exact Upd.here | apply Upd.there)), ?_⟩
      refine SL.val (Val.move rfl) rfl rfl ?_
      refine SL.nil ?_
      refine SE.seq ?_
      refine SC.block ?_
      refine SC.own0 131 33 ?_
      refine SC.loop (ι := Rd × List Pnt × Nat × Value) (fun z => [own 131 33 z.2.2.2 (z.2.1.map Pnt.abs), .blk b7 80 [int (IntKind.i64.wrap ((Rd.of l).num 8 : Nat)), int (IntKind.i64.wrap (((Rd.of l).fixed 8).num 8 : Nat)), .v z.2.2.2, .v (.slice none 0 0), .v (.slice none 0 0)], rdA TR p6 z.1, .blk b4 80 (zabs [.int .i64 0, .int .i64 0, .slice none 0 0, .slice none 0 0, .slice none 0 0])]) (fun z => [(0, byt l), (1, int n), (4, ptr b4), (6, ptr p6), (7, ptr b7), (28, int (((Rd.chgHead l).countN 4) : Nat)), (29, int (z.2.2.1 : Nat))]) (fun z => z.2.2.1 ≤ ((Rd.chgHead l).countN 4) ∧ z.1.l.length ≤ l.length ∧ z.2.1.length = z.2.2.1 ∧ Rd.pnts (((Rd.chgHead l).countN 4) - z.2.2.1) z.1 z.2.1 = Rd.pnts ((Rd.chgHead l).countN 4) ((Rd.chgHead l).count 4) []) (fun z => ((Rd.chgHead l).countN 4) - z.2.2.1) ((Rd.chgHead l).count 4, [], 0, .slice none 0 0) (⟨Nat.zero_le _, by dsimp only; unfold Rd.chgHead; omega, rfl, rfl⟩) (by exact ⟨rfl, rfl, rfl, rfl, rfl, rfl, rfl, trivial⟩) (by repeat (first | exact List.nil_sublist _ | exact List.Sublist.refl _ | apply List.Sublist.cons_cons | apply List.Sublist.cons)) ?_
      intro z hz
      refine SC.seq ?_
      refine SC.region ?_
      refine SL.val (Val.ltI rfl rfl) rfl rfl ?_
      refine SL.nil ?_
      refine SE.seq ?_
      refine SC.seq ?_
      refine SC.condP rfl ?_ ?_
      · intro hc30
        have n1 := z.1.fixed_length 8
        have n2 := (z.1.fixed 8).fixed_length 32
        have n3 := Rd.out32 (z.1.fixed 8)
        refine SC.skip ?_
        refine SE.seq ?_
        refine SC.seq ?_
        refine SC.block ?_
        refine SC.seq ?_
        refine SC.region ?_
        refine SL.val (Val.move rfl) rfl rfl ?_
        refine SL.call (number_s (s := z.1) (n := 8) (by omega) rfl) Casts.refl (by kernel_rfl) rfl rfl rfl ?_
        refine After.one rfl (by repeat (first | assumption | exact List.mem_cons_self | apply List.mem_cons_of_mem)) (fun _ => rfl) ?_
        intro _
        refine ⟨_, (by repeat (first | assumption | exact Upd.here | apply Upd.there)), ?_⟩
        first
          | refine SL.val (Val.convI rfl Try.underlying2 (by kernel_rfl) (by simp only [InR, lo, hi]; omega)) rfl rfl ?_
          | refine SL.val (Val.convW rfl Try.underlying2 (by kernel_rfl)) rfl rfl ?_
        refine SL.val (Val.buildS tabOk rfl rfl rfl rfl) rfl rfl ?_
        refine SL.eff (Eff.alloc tabOk rfl) rfl rfl ?_
        rintro _ _ ⟨b8, rfl, rfl⟩
        refine SL.eff (Eff.store tabOk rfl rfl rfl (by repeat (first | assumption | exact Upd.here | apply Upd.there)) (by rfl) (Nat.le_of_ble_eq_true (by rfl)) (by rfl) (by rfl)) rfl rfl ?_
        rintro _ _ ⟨rfl, rfl⟩
        refine SL.nil ?_
        refine SE.seq ?_
        refine SC.seq ?_
        refine SC.draw [b8, p6] (.q 0 (.q 1 (.q 2 (.e 3 (.e 4 .nil))))) (by kernel_rfl) (by kernel_rfl) ?_
        refine SX.val rfl (Val.fieldAddr tabOk rfl rfl rfl rfl rfl) (by first | (simp [mids, It.mids, ownPc]; done) | (intro k hk; simp [mids, It.mids, ownPc] at hk ⊢; grind)) rfl rfl ?_
        refine SX.val rfl (Val.sliceArr tabOk Try.underlying46 rfl rfl) (by first | (simp [mids, It.mids, ownPc]; done) | (intro k hk; simp [mids, It.mids, ownPc] at hk ⊢; grind)) rfl rfl ?_
        refine SX.val rfl (Val.move rfl) (by first | (simp [mids, It.mids, ownPc]; done) | (intro k hk; simp [mids, It.mids, ownPc] at hk ⊢; grind)) rfl rfl ?_
        refine SX.call rfl (fixed_s (s := (z.1.fixed 8)) (n := 32) (by omega)) (by simp [mids, It.mids]) Casts.refl (by kernel_rfl) rfl rfl rfl ?_
        refine After.one rfl (by repeat (first | assumption | exact List.mem_cons_self | apply List.mem_cons_of_mem)) (fun _ => rfl) ?_
        intro _
        refine ⟨_, (by repeat (first | assumption | exact Upd.here | apply Upd.there)), ?_⟩
        refine SX.effX [] rfl (Eff.copy (L' := (Pnt.mk' (sg (z.1.num 8)) ((z.1.fixed 8).out 32)).abs) Try.underlying34 (by kernel_rfl) rfl rfl (by repeat (first | assumption | exact Upd.here | apply Upd.there)) (by have : min (List.map (fun b => [Abs.v (bc b)]) ((z.1.fixed 8).out 32)).length 32 ≤ 32 := Nat.min_le_right _ _; show 1 + min (List.map (fun b => [Abs.v (bc b)]) ((z.1.fixed 8).out 32)).length 32 ≤ 33; omega) (bys_ones _) (by exact pnt_copy n3)) (by simp) (by simp) rfl rfl ?_
        rintro _ _ ⟨rfl, rfl⟩
        refine SX.nil ?_
        refine SE.seq ?_
        refine SC.region ?_
        refine SL.val (Val.fieldAddr tabOk rfl rfl rfl rfl rfl) rfl rfl ?_
        refine SL.val (Val.load1 tabOk rfl rfl (by first | (apply Or.inl; (repeat (first | assumption | exact List.mem_cons_self | apply List.mem_cons_of_mem)); done) | (apply Or.inr; (repeat (first | assumption | exact List.mem_cons_self | apply List.mem_cons_of_mem)); done)) List.not_mem_nil (by rfl)) rfl rfl ?_
        refine SL.val (Val.loadA tabOk rfl rfl rfl (by first | (apply Or.inl; (repeat (first | assumption | exact List.mem_cons_self | apply List.mem_cons_of_mem)); done) | (apply Or.inr; (repeat (first | assumption | exact List.mem_cons_self | apply List.mem_cons_of_mem)); done)) List.not_mem_nil (Pnt.size _)) rfl rfl ?_
        refine SL.eff (Eff.buildSl tabOk Try.underlying77 rfl rfl rfl (elems_one (Pnt.size _)) rfl rfl rfl) rfl rfl ?_
        rintro _ _ ⟨rfl, rfl⟩
        refine SL.eff (Eff.appendE (zs := (z.2.1 ++ [Pnt.mk' (sg (z.1.num 8)) ((z.1.fixed 8).out 32)]).map Pnt.abs) tabOk [_] (by rw [List.map_append]; rfl) Try.underlying77 rfl rfl rfl rfl rfl rfl (by intro c hc; rw [List.mem_singleton] at hc; subst hc; exact Pnt.ones _) (by unfold maxLen; simp only [List.length_map, List.length_cons, List.length_nil]; omega) (by rw [show Try.prog.bytesOf 131 = 40 by kernel_rfl]; simp only [List.length_map, List.length_cons, List.length_nil]; omega)) rfl rfl ?_
        rintro _ _ ⟨r44, rfl, rfl⟩
        refine SL.val (Val.fieldAddr tabOk rfl rfl rfl rfl rfl) rfl rfl ?_
        first
          | refine SL.eff (Eff.store tabOk rfl rfl rfl (by repeat (first | assumption | exact Upd.here | apply Upd.there)) (by rfl) (Nat.le_of_ble_eq_true (by rfl)) (by rfl) (by rfl)) rfl rfl ?_
          | refine SL.eff (Eff.storeOwn tabOk rfl rfl rfl rfl (by repeat (first | assumption | exact List.mem_cons_self | apply List.mem_cons_of_mem)) (by repeat (first | assumption | exact Upd.here | apply Upd.there)) rfl (by rfl)) rfl rfl ?_
        rintro _ _ ⟨rfl, rfl⟩
        refine SL.nil ?_
        refine SE.inBlock ?_
        refine SE.seq ?_
        refine SC.region ?_
        first
          | refine SL.val (Val.addI rfl rfl (by simp only [InR, lo, hi]; omega)) rfl rfl ?_
          | refine SL.val (Val.addW rfl rfl) rfl rfl ?_
        refine SL.val (Val.move rfl) rfl rfl ?_
        refine SL.nil ?_
        refine SE.round (((z.1.fixed 8).fixed 32), z.2.1 ++ [Pnt.mk' (sg (z.1.num 8)) ((z.1.fixed 8).out 32)], z.2.2.1 + 1, r44) (by first | omega | (dsimp only; omega)) (⟨by dsimp only; omega, by dsimp only; omega, by dsimp only; rw [List.length_append, hz.2.2.1]; rfl, by
          rw [← hz.2.2.2]
          obtain ⟨j, hj⟩ : ∃ j, ((Rd.chgHead l).countN 4) - z.2.2.1 = j + 1 := ⟨((Rd.chgHead l).countN 4) - z.2.2.1 - 1, by omega⟩
          rw [hj]
          show Rd.pnts (((Rd.chgHead l).countN 4) - (z.2.2.1 + 1)) _ _ = Rd.pnts (j + 1) _ _
          rw [show ((Rd.chgHead l).countN 4) - (z.2.2.1 + 1) = j by omega]
          rfl⟩) (by exact ⟨rfl, rfl, rfl, rfl, rfl, rfl, rfl, trivial⟩) (by repeat (first | exact List.nil_sublist _ | exact List.Sublist.refl _ | apply List.Sublist.cons_cons | apply List.Sublist.cons))
      · intro hc30
        refine SC.exit ?_
        refine SE.then_ (by intro h; cases h) ?_
        refine SE.then_ (by intro h; cases h) ?_
        refine SE.exit ?_
        refine SE.seq ?_
        refine SC.seq ?_
        have hzz : (z.2.1, z.1) = Rd.chgPts l := by
          unfold Rd.chgPts
          rw [← hz.2.2.2, show ((Rd.chgHead l).countN 4) - z.2.2.1 = 0 by omega]
          rfl
        have hzA := congrArg Prod.fst hzz
        have hzS := congrArg Prod.snd hzz
        dsimp only at hzA hzS
        refine SC.freezeC [] 2 rfl (by repeat (first | assumption | exact Upd.here | apply Upd.there)) rfl ?_
        rw [hzA, hzS]
        have w1 := pnts_left ((Rd.chgHead l).countN 4) ((Rd.chgHead l).count 4) []
        have w2 : (Rd.chgPts l).2.l.length ≤ l.length := by unfold Rd.chgPts; unfold Rd.chgHead at w1 ⊢; omega
        have w3 := prfs_left n l.length ((Rd.chgPts l).2.countN 8) ((Rd.chgPts l).2.count 8) [] false
        have w4 := Rd.count_length (Rd.chgPts l).2 8
        have w5 : (Rd.chgPre l n).2.2.l.length ≤ l.length := by unfold Rd.chgPre; omega
        have w6 := prfs_left n l.length ((Rd.chgPre l n).2.2.countN 64) ((Rd.chgPre l n).2.2.count 64) [] false
        have w7 := Rd.countN_lt (Rd.chgPts l).2 8
        have w8 := Rd.countN_lt (Rd.chgPre l n).2.2 64
        have w9 := Rd.count_length (Rd.chgPre l n).2.2 64
        have hg3 : (Rd.chg l n).points.length < 9223372036854775807 := by show (Rd.chgPts l).1.length < _; unfold Rd.chgPts; rw [w1.1, List.length_nil]; omega
        have hg1 : Long (Rd.chg l n).prepared := by
          refine ⟨by show (Rd.chgPre l n).1.length < _; unfold Rd.chgPre; rw [w3.1, List.length_nil]; omega, ?_⟩
          exact prfs_all (fun p => p.batch.length ≤ 1000000) (B := 10000000) (fun a b l h => parseS_few) _ _ _ _ (by omega) (by simp)
        have hg2 : Long (Rd.chg l n).proposed := by
          refine ⟨by show (Rd.chgPro l n).1.length < _; unfold Rd.chgPro; rw [w6.1, List.length_nil]; omega, ?_⟩
          exact prfs_all (fun p => p.batch.length ≤ 1000000) (B := 10000000) (fun a b l h => parseS_few) _ _ _ _ (by omega) (by simp)
        refine SC.region ?_
        refine SL.val (Val.assign rfl) rfl rfl ?_
        refine SL.val (Val.assign rfl) rfl rfl ?_
        refine SL.nil ?_
        refine SE.seq ?_
        refine SC.seq ?_
        refine SC.region ?_
        refine SL.val (Val.move rfl) rfl rfl ?_
        refine SL.val (Val.move rfl) rfl rfl ?_
        refine SL.val (Val.move rfl) rfl rfl ?_
        first
          | refine SL.val (Val.lenSl rfl Try.underlying34 (List.length_map _)) rfl rfl ?_
          | refine SL.val (Val.lenOwn rfl (by repeat (first | assumption | exact List.mem_cons_self | apply List.mem_cons_of_mem)) Try.underlying34 (List.length_map _)) rfl rfl ?_
          | refine SL.val (Val.lenNil rfl Try.underlying34) rfl rfl ?_
        refine SL.call (readp_s (s := (Rd.chgPts l).2) (n := n) (most := 8) (room := (l.length : Nat)) (by omega) (by omega)) Casts.refl (by kernel_rfl) rfl rfl rfl ?_
        refine After.one rfl (by repeat (first | assumption | exact List.mem_cons_self | apply List.mem_cons_of_mem)) (fun _ => rfl) ?_
        intro _
        refine ⟨_, (by repeat (first | assumption | exact Upd.here | apply Upd.there)), ?_⟩
        refine SL.val (Val.move rfl) rfl rfl ?_
        refine SL.val (Val.extract rfl rfl) rfl rfl ?_
        refine SL.val (Val.extract rfl rfl) rfl rfl ?_
        refine SL.val (Val.fieldAddr tabOk rfl rfl rfl rfl rfl) rfl rfl ?_
        first
          | refine SL.eff (Eff.store tabOk rfl rfl rfl (by repeat (first | assumption | exact Upd.here | apply Upd.there)) (by rfl) (Nat.le_of_ble_eq_true (by rfl)) (by rfl) (by rfl)) rfl rfl ?_
          | refine SL.eff (Eff.storeOwn tabOk rfl rfl rfl rfl (by repeat (first | assumption | exact List.mem_cons_self | apply List.mem_cons_of_mem)) (by repeat (first | assumption | exact Upd.here | apply Upd.there)) rfl (by rfl)) rfl rfl ?_
        rintro _ _ ⟨rfl, rfl⟩
        refine SL.val (Val.assign rfl) rfl rfl ?_
        refine SL.nil ?_
        refine SE.seq ?_
        refine SC.seq ?_
        refine SC.region ?_
        refine SL.val (Val.move rfl) rfl rfl ?_
        refine SL.val (Val.move rfl) rfl rfl ?_
        refine SL.val (Val.move rfl) rfl rfl ?_
        first
          | refine SL.val (Val.lenSl rfl Try.underlying34 (List.length_map _)) rfl rfl ?_
          | refine SL.val (Val.lenOwn rfl (by repeat (first | assumption | exact List.mem_cons_self | apply List.mem_cons_of_mem)) Try.underlying34 (List.length_map _)) rfl rfl ?_
          | refine SL.val (Val.lenNil rfl Try.underlying34) rfl rfl ?_
        refine SL.call (readp_s (s := (Rd.chgPre l n).2.2) (n := n) (most := 64) (room := (l.length : Nat)) (by omega) (by omega)) Casts.refl (by kernel_rfl) rfl rfl rfl ?_
        refine After.one rfl (by repeat (first | assumption | exact List.mem_cons_self | apply List.mem_cons_of_mem)) (fun _ => rfl) ?_
        intro _
        refine ⟨_, (by repeat (first | assumption | exact Upd.here | apply Upd.there)), ?_⟩
        refine SL.val (Val.move rfl) rfl rfl ?_
        refine SL.val (Val.extract rfl rfl) rfl rfl ?_
        refine SL.val (Val.extract rfl rfl) rfl rfl ?_
        refine SL.val (Val.fieldAddr tabOk rfl rfl rfl rfl rfl) rfl rfl ?_
        first
          | refine SL.eff (Eff.store tabOk rfl rfl rfl (by repeat (first | assumption | exact Upd.here | apply Upd.there)) (by rfl) (Nat.le_of_ble_eq_true (by rfl)) (by rfl) (by rfl)) rfl rfl ?_
          | refine SL.eff (Eff.storeOwn tabOk rfl rfl rfl rfl (by repeat (first | assumption | exact List.mem_cons_self | apply List.mem_cons_of_mem)) (by repeat (first | assumption | exact Upd.here | apply Upd.there)) rfl (by rfl)) rfl rfl ?_
        rintro _ _ ⟨rfl, rfl⟩
        refine SL.val (Val.assign rfl) rfl rfl ?_
        refine SL.nil ?_
        refine SE.seq ?_
        refine SC.seq ?_
        refine SC.seq ?_
        refine SC.region ?_
        refine SL.val (Val.move rfl) rfl rfl ?_
        refine SL.call (end_s (s := (Rd.chgPro l n).2.2)) Casts.refl (by kernel_rfl) rfl rfl rfl ?_
        refine After.one rfl (by repeat (first | assumption | exact List.mem_cons_self | apply List.mem_cons_of_mem)) (fun _ => rfl) ?_
        intro _
        refine ⟨_, (by repeat (first | assumption | exact Upd.here | apply Upd.there)), ?_⟩
        refine SL.val (Val.neI rfl rfl) rfl rfl ?_
        refine SL.val (Val.move rfl) rfl rfl ?_
        refine SL.bothP (t := 68) rfl ?_ ?_
        · intro hc68
          refine SL.skip rfl rfl ?_
          refine SL.val (Val.pickT rfl rfl) rfl rfl ?_
          refine SL.val (Val.move rfl) rfl rfl ?_
          refine SL.skip rfl rfl ?_
          refine SL.val (Val.pickT rfl rfl) rfl rfl ?_
          refine SL.val (Val.move rfl) rfl rfl ?_
          refine SL.skip rfl rfl ?_
          refine SL.skip rfl rfl ?_
          refine SL.skip rfl rfl ?_
          refine SL.skip rfl rfl ?_
          refine SL.val (Val.pickT rfl rfl) rfl rfl ?_
          refine SL.nil ?_
          refine SE.seq ?_
          refine SC.condT rfl ?_
          refine SC.seq ?_
          refine SC.region ?_
          refine SL.val (Val.buildS tabOk rfl rfl rfl rfl) rfl rfl ?_
          refine SL.eff (Eff.store tabOk rfl rfl rfl (by repeat (first | assumption | exact Upd.here | apply Upd.there)) (by rfl) (Nat.le_of_ble_eq_true (by rfl)) (by rfl) (by rfl)) rfl rfl ?_
          rintro _ _ ⟨rfl, rfl⟩
          refine SL.val (Val.assign rfl) rfl rfl ?_
          refine SL.nil ?_
          refine SE.seq ?_
          refine SC.ret ?_
          refine SE.then_ (by intro h; cases h) ?_
          refine SE.finC (rs := [.cell 4 80, .tmp 5]) rfl (RV.cell rfl (RV.cellA tabOk rfl rfl (by first | (apply Or.inl; (repeat (first | assumption | exact List.mem_cons_self | apply List.mem_cons_of_mem)); done) | (apply Or.inr; (repeat (first | assumption | exact List.mem_cons_self | apply List.mem_cons_of_mem)); done)) (by rfl)) (RV.tmp rfl RV.nil)) (Casts.cons (cast_agg (Casts.keep (Casts.keep (Casts.nils (s := 33) (Casts.nils (s := 3) (Casts.nils (s := 3) Casts.refl)))))) Casts.refl) (()) (by repeat (first | exact List.nil_sublist _ | exact List.Sublist.refl _ | apply List.Sublist.cons_cons | apply List.Sublist.cons)) (by simp [It.rids]) ?_
          have e : parseC l n = (Chg.zero, 2) := by
            unfold parseC
            rw [if_neg (by omega), if_pos (by first | exact .inl (by assumption) | exact .inr (.inl (by assumption)) | exact .inr (.inr (.inl (by assumption))) | exact .inr (.inr (.inr (by assumption))))]
          rw [e]
          rfl
        · intro hc68
          refine SL.val (Val.move rfl) rfl rfl ?_
          refine SL.val (Val.pickF rfl rfl) rfl rfl ?_
          refine SL.val (Val.move rfl) rfl rfl ?_
          refine SL.both (t := 71) rfl ?_ ?_
          · intro hc71
            refine SL.skip rfl rfl ?_
            refine SL.val (Val.pickT rfl rfl) rfl rfl ?_
            refine SL.val (Val.move rfl) rfl rfl ?_
            refine SL.skip rfl rfl ?_
            refine SL.skip rfl rfl ?_
            refine SL.skip rfl rfl ?_
            refine SL.skip rfl rfl ?_
            refine SL.val (Val.pickT rfl rfl) rfl rfl ?_
            refine SL.nil ?_
            refine SE.seq ?_
            refine SC.condT rfl ?_
            refine SC.seq ?_
            refine SC.region ?_
            refine SL.val (Val.buildS tabOk rfl rfl rfl rfl) rfl rfl ?_
            refine SL.eff (Eff.store tabOk rfl rfl rfl (by repeat (first | assumption | exact Upd.here | apply Upd.there)) (by rfl) (Nat.le_of_ble_eq_true (by rfl)) (by rfl) (by rfl)) rfl rfl ?_
            rintro _ _ ⟨rfl, rfl⟩
            refine SL.val (Val.assign rfl) rfl rfl ?_
            refine SL.nil ?_
            refine SE.seq ?_
            refine SC.ret ?_
            refine SE.then_ (by intro h; cases h) ?_
            refine SE.finC (rs := [.cell 4 80, .tmp 5]) rfl (RV.cell rfl (RV.cellA tabOk rfl rfl (by first | (apply Or.inl; (repeat (first | assumption | exact List.mem_cons_self | apply List.mem_cons_of_mem)); done) | (apply Or.inr; (repeat (first | assumption | exact List.mem_cons_self | apply List.mem_cons_of_mem)); done)) (by rfl)) (RV.tmp rfl RV.nil)) (Casts.cons (cast_agg (Casts.keep (Casts.keep (Casts.nils (s := 33) (Casts.nils (s := 3) (Casts.nils (s := 3) Casts.refl)))))) Casts.refl) (()) (by repeat (first | exact List.nil_sublist _ | exact List.Sublist.refl _ | apply List.Sublist.cons_cons | apply List.Sublist.cons)) (by simp [It.rids]) ?_
            have e : parseC l n = (Chg.zero, 2) := by
              unfold parseC
              rw [if_neg (by omega), if_pos (by first | exact .inl (by assumption) | exact .inr (.inl (by assumption)) | exact .inr (.inr (.inl (by assumption))) | exact .inr (.inr (.inr (by assumption))))]
            rw [e]
            rfl
          · intro hc71
            refine SL.val (Val.move rfl) rfl rfl ?_
            refine SL.val (Val.pickF rfl rfl) rfl rfl ?_
            refine SL.val (Val.move rfl) rfl rfl ?_
            refine SL.both (t := 74) rfl ?_ ?_
            · intro hc74
              refine SL.skip rfl rfl ?_
              refine SL.skip rfl rfl ?_
              refine SL.skip rfl rfl ?_
              refine SL.skip rfl rfl ?_
              refine SL.val (Val.pickT rfl rfl) rfl rfl ?_
              refine SL.nil ?_
              refine SE.seq ?_
              refine SC.condT rfl ?_
              refine SC.seq ?_
              refine SC.region ?_
              refine SL.val (Val.buildS tabOk rfl rfl rfl rfl) rfl rfl ?_
              refine SL.eff (Eff.store tabOk rfl rfl rfl (by repeat (first | assumption | exact Upd.here | apply Upd.there)) (by rfl) (Nat.le_of_ble_eq_true (by rfl)) (by rfl) (by rfl)) rfl rfl ?_
              rintro _ _ ⟨rfl, rfl⟩
              refine SL.val (Val.assign rfl) rfl rfl ?_
              refine SL.nil ?_
              refine SE.seq ?_
              refine SC.ret ?_
              refine SE.then_ (by intro h; cases h) ?_
              refine SE.finC (rs := [.cell 4 80, .tmp 5]) rfl (RV.cell rfl (RV.cellA tabOk rfl rfl (by first | (apply Or.inl; (repeat (first | assumption | exact List.mem_cons_self | apply List.mem_cons_of_mem)); done) | (apply Or.inr; (repeat (first | assumption | exact List.mem_cons_self | apply List.mem_cons_of_mem)); done)) (by rfl)) (RV.tmp rfl RV.nil)) (Casts.cons (cast_agg (Casts.keep (Casts.keep (Casts.nils (s := 33) (Casts.nils (s := 3) (Casts.nils (s := 3) Casts.refl)))))) Casts.refl) (()) (by repeat (first | exact List.nil_sublist _ | exact List.Sublist.refl _ | apply List.Sublist.cons_cons | apply List.Sublist.cons)) (by simp [It.rids]) ?_
              have e : parseC l n = (Chg.zero, 2) := by
                unfold parseC
                rw [if_neg (by omega), if_pos (by first | exact .inl (by assumption) | exact .inr (.inl (by assumption)) | exact .inr (.inr (.inl (by assumption))) | exact .inr (.inr (.inr (by assumption))))]
              rw [e]
              rfl
            · intro hc74
              first
                | refine SL.val (Val.loadA tabOk rfl rfl rfl (by first | (apply Or.inl; (repeat (first | assumption | exact List.mem_cons_self | apply List.mem_cons_of_mem)); done) | (apply Or.inr; (repeat (first | assumption | exact List.mem_cons_self | apply List.mem_cons_of_mem)); done)) List.not_mem_nil (by rfl)) rfl rfl ?_
                | refine SL.val (Val.loadP tabOk rfl rfl rfl (by first | (apply Or.inl; (repeat (first | assumption | exact List.mem_cons_self | apply List.mem_cons_of_mem)); done) | (apply Or.inr; (repeat (first | assumption | exact List.mem_cons_self | apply List.mem_cons_of_mem)); done)) List.not_mem_nil (Nat.le_of_ble_eq_true (by rfl))) rfl rfl ?_
              refine SL.val (Val.move rfl) rfl rfl ?_
              refine SL.call (check_s (c := Rd.chg l n) (n := n) hg1 hg2 hg3) Casts.refl (by kernel_rfl) rfl rfl rfl ?_
              refine After.pure (by repeat (first | exact Reads.nil | refine Reads.blk (by repeat (first | assumption | exact List.mem_cons_self | apply List.mem_cons_of_mem)) ?_ | refine Reads.rd (by repeat (first | assumption | exact List.mem_cons_self | apply List.mem_cons_of_mem)) ?_ | refine Reads.pc (by repeat (first | assumption | exact List.mem_cons_self | apply List.mem_cons_of_mem)) ?_ | refine Reads.rdpc (by repeat (first | assumption | exact List.mem_cons_self | apply List.mem_cons_of_mem)) ?_)) (fun _ => rfl) ?_
              intro _
              refine SL.val (Val.neI rfl rfl) rfl rfl ?_
              refine SL.val (Val.pickF rfl rfl) rfl rfl ?_
              refine SL.nil ?_
              refine SE.seq ?_
              refine SC.condP rfl ?_ ?_
              · intro hc79
                refine SC.seq ?_
                refine SC.region ?_
                refine SL.val (Val.buildS tabOk rfl rfl rfl rfl) rfl rfl ?_
                refine SL.eff (Eff.store tabOk rfl rfl rfl (by repeat (first | assumption | exact Upd.here | apply Upd.there)) (by rfl) (Nat.le_of_ble_eq_true (by rfl)) (by rfl) (by rfl)) rfl rfl ?_
                rintro _ _ ⟨rfl, rfl⟩
                refine SL.val (Val.assign rfl) rfl rfl ?_
                refine SL.nil ?_
                refine SE.seq ?_
                refine SC.ret ?_
                refine SE.then_ (by intro h; cases h) ?_
                refine SE.finC (rs := [.cell 4 80, .tmp 5]) rfl (RV.cell rfl (RV.cellA tabOk rfl rfl (by first | (apply Or.inl; (repeat (first | assumption | exact List.mem_cons_self | apply List.mem_cons_of_mem)); done) | (apply Or.inr; (repeat (first | assumption | exact List.mem_cons_self | apply List.mem_cons_of_mem)); done)) (by rfl)) (RV.tmp rfl RV.nil)) (Casts.cons (cast_agg (Casts.keep (Casts.keep (Casts.nils (s := 33) (Casts.nils (s := 3) (Casts.nils (s := 3) Casts.refl)))))) Casts.refl) (()) (by repeat (first | exact List.nil_sublist _ | exact List.Sublist.refl _ | apply List.Sublist.cons_cons | apply List.Sublist.cons)) (by simp [It.rids]) ?_
                have e : parseC l n = (Chg.zero, 2) := by
                  unfold parseC
                  rw [if_neg (by omega), if_pos (by first | exact .inl (by assumption) | exact .inr (.inl (by assumption)) | exact .inr (.inr (.inl (by assumption))) | exact .inr (.inr (.inr (by assumption))))]
                rw [e]
                rfl
              · intro hc79
                refine SC.skip ?_
                refine SE.seq ?_
                refine SC.seq ?_
                refine SC.region ?_
                first
                  | refine SL.val (Val.loadA tabOk rfl rfl rfl (by first | (apply Or.inl; (repeat (first | assumption | exact List.mem_cons_self | apply List.mem_cons_of_mem)); done) | (apply Or.inr; (repeat (first | assumption | exact List.mem_cons_self | apply List.mem_cons_of_mem)); done)) List.not_mem_nil (by rfl)) rfl rfl ?_
                  | refine SL.val (Val.loadP tabOk rfl rfl rfl (by first | (apply Or.inl; (repeat (first | assumption | exact List.mem_cons_self | apply List.mem_cons_of_mem)); done) | (apply Or.inr; (repeat (first | assumption | exact List.mem_cons_self | apply List.mem_cons_of_mem)); done)) List.not_mem_nil (Nat.le_of_ble_eq_true (by rfl))) rfl rfl ?_
                refine SL.eff (Eff.store tabOk rfl rfl rfl (by repeat (first | assumption | exact Upd.here | apply Upd.there)) (by rfl) (Nat.le_of_ble_eq_true (by rfl)) (by rfl) (by rfl)) rfl rfl ?_
                rintro _ _ ⟨rfl, rfl⟩
                refine SL.val (Val.assign rfl) rfl rfl ?_
                refine SL.nil ?_
                refine SE.seq ?_
                refine SC.ret ?_
                refine SE.fin (rs := [.cell 4 80, .tmp 5]) rfl (RV.cell rfl (RV.cellA tabOk rfl rfl (by first | (apply Or.inl; (repeat (first | assumption | exact List.mem_cons_self | apply List.mem_cons_of_mem)); done) | (apply Or.inr; (repeat (first | assumption | exact List.mem_cons_self | apply List.mem_cons_of_mem)); done)) (by rfl)) (RV.tmp rfl RV.nil)) (()) (by repeat (first | exact List.nil_sublist _ | exact List.Sublist.refl _ | apply List.Sublist.cons_cons | apply List.Sublist.cons)) (by simp [It.rids]) ?_
                have e : parseC l n = (Rd.chg l n, 0) := by
                  unfold parseC
                  rw [if_neg (by omega), if_neg (by
                    intro h
                    rcases h with h | h | h | h
                    · exact hc68 h
                    · exact Bool.noConfusion (h.symm.trans hc71)
                    · exact Bool.noConfusion (h.symm.trans hc74)
                    · exact hc79 h)]
                rw [e]
                rfl
end
end Go.Proofs.Ytdbeinbgekdnmaa.A
