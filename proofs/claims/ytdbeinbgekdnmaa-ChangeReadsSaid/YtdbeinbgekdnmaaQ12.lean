/-
  Packed out of the texts: C9, BatchBack, CLaw.
-/
import Derived.Test.YtdbeinbgekdnmaaQ11
/-
  Changes out of bytes: the document's Parse, over the second engine.
-/
set_option maxRecDepth 100000
set_option linter.unusedSimpArgs false
set_option linter.unusedVariables false
namespace Go.Proofs.Ytdbeinbgekdnmaa.A
open Go.RowKit

theorem fill_pnt {x : Int} {m : List UInt8} : fillA (fun i => [(0, 1), (1, 32)][i]?) (.v (.int .i64 0) :: List.replicate 32 (.v (.int .u8 0))) [(0, int x), (1, .agg (digA (pad m)))] = some (Pnt.mk' x m).abs := by
  have e1 : (digA (pad m)).length = 32 := by simp [digA, pad_length]
  show (bif Nat.beq (digA (pad m)).length 32 && Nat.ble (1 + 32) 33 then fillA _ (putL (int x :: List.replicate 32 (.v (.int .u8 0))) 1 (digA (pad m))) [] else none) = _
  rw [e1]
  show some (int x :: putL (List.replicate 32 (.v (.int .u8 0))) 0 (digA (pad m))) = some (int x :: digA (pad m))
  rw [putL_all (by rw [e1]; rfl)]
def Rd.rchgPts (l : List UInt8) : List Pnt × Rd := Rd.rpnts ((Rd.chgHead l).countN 4) ((Rd.chgHead l).count 4) []
def Rd.rchgPre (l : List UInt8) : List Prf × Bool × Rd := Rd.rprfs ((Rd.rchgPts l).2.countN 8) ((Rd.rchgPts l).2.count 8) [] true
def Rd.rchgPro (l : List UInt8) : List Prf × Bool × Rd := Rd.rprfs ((Rd.rchgPre l).2.2.countN 64) ((Rd.rchgPre l).2.2.count 64) [] true
def Rd.rchg (l : List UInt8) : Chg := ⟨sg ((Rd.of l).num 8), sg (((Rd.of l).fixed 8).num 8), (Rd.rchgPts l).1, (Rd.rchgPre l).1, (Rd.rchgPro l).1⟩
noncomputable def rparseC (l : List UInt8) (n : Int) : Chg × Int :=
  if n < 1 ∨ 7 < n then (Chg.zero, 1) else
  if (Rd.rchgPro l).2.2.end_ ≠ 0 ∨ (Rd.rchgPre l).2.1 = false ∨ (Rd.rchgPro l).2.1 = false ∨ yes ((Rd.rchg l).Right n) = false then (Chg.zero, 2) else (Rd.rchg l, 0)
theorem rpnts_left : ∀ (k : Nat) (s : Rd) (acc : List Pnt), (Rd.rpnts k s acc).1.length ≤ acc.length + k ∧ (Rd.rpnts k s acc).2.l.length ≤ s.l.length
  | 0, s, acc => ⟨Nat.le_refl _, Nat.le_refl _⟩
  | k + 1, s, acc => by
    unfold Rd.rpnts
    split
    · exact ⟨by dsimp only; omega, Nat.le_refl _⟩
    · have h1 := rpnts_left k ((s.fixed 8).fixed 32) (acc ++ [Pnt.mk' (sg (s.num 8)) ((s.fixed 8).out 32)])
      have h2 := s.fixed_length 8
      have h3 := (s.fixed 8).fixed_length 32
      rw [List.length_append, List.length_singleton] at h1
      omega
theorem rprfs_left : ∀ (k : Nat) (s : Rd) (acc : List Prf) (o : Bool), (Rd.rprfs k s acc o).1.length ≤ acc.length + k ∧ (Rd.rprfs k s acc o).2.2.l.length ≤ s.l.length
  | 0, s, acc, o => ⟨Nat.le_refl _, Nat.le_refl _⟩
  | k + 1, s, acc, o => by
    unfold Rd.rprfs
    split
    · exact ⟨by dsimp only; omega, Nat.le_refl _⟩
    · have h1 := rprfs_left k ((Rd.pr2 s).row 1048576) (acc ++ [⟨sg (s.num 8), sg ((Rd.pr1 s).num 8), (Rd.ens (Rd.of (Rd.prOut s 1048576))).1⟩]) (o && (Rd.ens (Rd.of (Rd.prOut s 1048576))).2.1 && decide ((Rd.ens (Rd.of (Rd.prOut s 1048576))).2.2.end_ = 0))
      have h2 := s.fixed_length 8
      have h3 := (s.fixed 8).fixed_length 8
      have h4 := Rd.row_length (Rd.pr2 s) 1048576
      rw [List.length_append, List.length_singleton] at h1
      unfold Rd.pr2 at h1 h4 ⊢
      omega
theorem rprfs_all (Q : Prf → Prop) {B : Nat} (hQ : ∀ (a b : Nat) (l : List UInt8), l.length ≤ B → Q ⟨sg a, sg b, (Rd.ens (Rd.of l)).1⟩) : ∀ (k : Nat) (s : Rd) (acc : List Prf) (o : Bool), s.l.length ≤ B → (∀ p ∈ acc, Q p) → ∀ p ∈ (Rd.rprfs k s acc o).1, Q p
  | 0, _, _, _, _, h => h
  | k + 1, s, acc, o, hB, h => by
    have h2 := s.fixed_length 8
    have h3 := (s.fixed 8).fixed_length 8
    have h4 := Rd.row_length (Rd.pr2 s) 1048576
    have h5 : (Rd.prOut s 1048576).length ≤ (Rd.pr2 s).l.length := Rd.rowOut_length _ _
    unfold Rd.pr2 at h4 h5
    unfold Rd.rprfs
    split
    · exact h
    · refine rprfs_all Q hQ k _ _ _ (by unfold Rd.pr2; omega) fun p hp => ?_
      rcases List.mem_append.1 hp with hp | hp
      · exact h p hp
      · rw [List.mem_singleton] at hp; subst hp; exact hQ _ _ _ (by omega)
theorem ens_few (l : List UInt8) : (Rd.ens (Rd.of l)).1.length ≤ 1000000 := by
  have h1 := rents_length ((Rd.of l).num 2) ((Rd.of l).fixed 2) [] true
  have h2 := (Rd.of l).num_lt (n := 2) (k := 2) (Nat.le_refl _)
  simp only [List.length_nil] at h1
  unfold Rd.ens
  omega
theorem ens_lits {l : List UInt8} (hl : l.length ≤ 1000000) : ∀ e ∈ (Rd.ens (Rd.of l)).1, e.Lits := by
  have h1 := (Rd.of l).fixed_length 2
  have h2 : (Rd.of l).l = l := rfl
  rw [h2] at h1
  exact rents_all Ent.Lits (B := maxLen) (fun l m hl hm => coreOf_lits (by omega) hl) ((Rd.of l).num 2) ((Rd.of l).fixed 2) [] true (by unfold maxLen; omega) (by simp)
theorem ens_lets {l : List UInt8} (hl : l.length ≤ 1000000) : ∀ e ∈ (Rd.ens (Rd.of l)).1, e.core.letter.size ≤ lots := by
  have h1 := (Rd.of l).fixed_length 2
  have h2 : (Rd.of l).l = l := rfl
  rw [h2] at h1
  refine rents_all (fun e => e.core.letter.size ≤ lots) (B := 1000000) (fun l m hl hm => ?_) ((Rd.of l).num 2) ((Rd.of l).fixed 2) [] true (by omega) (by simp)
  show (txtB ((Rd.of l).c3.rowOut 1048576)).size ≤ lots
  have h5 := Rd.rowOut_length (Rd.of l).c3 1048576
  have h6 := (Rd.of l).fixed_length 1
  have h7 := ((Rd.of l).fixed 1).fixed_length 8
  have h8 := (((Rd.of l).fixed 1).fixed 8).fixed_length 1
  have h9 : (Rd.of l).l = l := rfl
  unfold Rd.c3 at h5
  rw [txtB_size]
  unfold Rd.c3 lots
  rw [h9] at h6
  omega
section
variable {n : Int} {l : List UInt8}
set_option maxHeartbeats 4000000 in
theorem rparse_s (hl : l.length ≤ 3000) : Spec Try.prog 65 [byt l, int n] [] (fun _ : Unit => []) (fun _ => .tup [.agg (rparseC l n).1.abs, int (rparseC l n).2]) := by
  have hL : lots = 100000000000 := rfl
  have hof : (Rd.of l).l = l := rfl
  have q1 := (Rd.of l).fixed_length 8
  have q2 := ((Rd.of l).fixed 8).fixed_length 8
  have q3 := Rd.count_length (Rd.chgHead l) 4
  have q4 := Rd.countN_lt (Rd.chgHead l) 4
  unfold Rd.chgHead at q3
  rw [hof] at q1
  refine spec_of Try.func65 rfl Try.ntmps65 rfl fun G w => ?_
  refine SC.seq ?_
  refine SC.region ?_
  refine SL.eff (Eff.alloc tabOk rfl) rfl rfl ?_
  rintro _ _ ⟨b4, rfl, rfl⟩
  refine SL.val (Val.assign rfl) rfl rfl ?_
  refine SL.nil ?_
  refine SE.seq ?_
  refine SC.seq ?_
  refine SC.seq ?_
  refine SC.region ?_
  refine SL.val (Val.move rfl) rfl rfl ?_
  refine SL.val (Val.ltI rfl rfl) rfl rfl ?_
  refine SL.val (Val.move rfl) rfl rfl ?_
  refine SL.bothP (t := 15) rfl ?_ ?_
  · intro hc15
    refine SL.skip rfl rfl ?_
    refine SL.skip rfl rfl ?_
    refine SL.val (Val.pickT rfl rfl) rfl rfl ?_
    refine SL.nil ?_
    refine SE.seq ?_
    refine SC.condT rfl ?_
    refine SC.seq ?_
    refine SC.region ?_
    refine SL.val (Val.buildS tabOk rfl rfl rfl rfl) rfl rfl ?_
    refine SL.eff (Eff.store tabOk rfl rfl rfl (by repeat (first | assumption | exact Upd.here | apply Upd.there)) (by rfl) (Nat.le_of_ble_eq_true (by rfl)) (by rfl) (by rfl)) rfl rfl ?_
    rintro _ _ ⟨rfl, rfl⟩
    refine SL.val (Val.assign rfl) rfl rfl ?_
    refine SL.nil ?_
    refine SE.seq ?_
    refine SC.ret ?_
    refine SE.then_ (by intro h; cases h) ?_
    refine SE.finC (rs := [.cell 4 80, .tmp 5]) rfl (RV.cell rfl (RV.cellA tabOk rfl rfl (by first | (apply Or.inl; (repeat (first | assumption | exact List.mem_cons_self | apply List.mem_cons_of_mem)); done) | (apply Or.inr; (repeat (first | assumption | exact List.mem_cons_self | apply List.mem_cons_of_mem)); done)) (by rfl)) (RV.tmp rfl RV.nil)) (Casts.cons (cast_agg (Casts.keep (Casts.keep (Casts.nils (s := 33) (Casts.nils (s := 3) (Casts.nils (s := 3) Casts.refl)))))) Casts.refl) (()) (by repeat (first | exact List.nil_sublist _ | exact List.Sublist.refl _ | apply List.Sublist.cons_cons | apply List.Sublist.cons)) (by simp [It.rids]) ?_
    have e : rparseC l n = (Chg.zero, 1) := by
      unfold rparseC
      rw [if_pos (by omega)]
    rw [e]
    rfl
  · intro hc15
    refine SL.val (Val.move rfl) rfl rfl ?_
    refine SL.val (Val.gtI rfl rfl) rfl rfl ?_
    refine SL.val (Val.pickF rfl rfl) rfl rfl ?_
    refine SL.nil ?_
    refine SE.seq ?_
    refine SC.condP rfl ?_ ?_
    · intro hc18
      refine SC.seq ?_
      refine SC.region ?_
      refine SL.val (Val.buildS tabOk rfl rfl rfl rfl) rfl rfl ?_
      refine SL.eff (Eff.store tabOk rfl rfl rfl (by repeat (first | assumption | exact Upd.here | apply Upd.there)) (by rfl) (Nat.le_of_ble_eq_true (by rfl)) (by rfl) (by rfl)) rfl rfl ?_
      rintro _ _ ⟨rfl, rfl⟩
      refine SL.val (Val.assign rfl) rfl rfl ?_
      refine SL.nil ?_
      refine SE.seq ?_
      refine SC.ret ?_
      refine SE.then_ (by intro h; cases h) ?_
      refine SE.finC (rs := [.cell 4 80, .tmp 5]) rfl (RV.cell rfl (RV.cellA tabOk rfl rfl (by first | (apply Or.inl; (repeat (first | assumption | exact List.mem_cons_self | apply List.mem_cons_of_mem)); done) | (apply Or.inr; (repeat (first | assumption | exact List.mem_cons_self | apply List.mem_cons_of_mem)); done)) (by rfl)) (RV.tmp rfl RV.nil)) (Casts.cons (cast_agg (Casts.keep (Casts.keep (Casts.nils (s := 33) (Casts.nils (s := 3) (Casts.nils (s := 3) Casts.refl)))))) Casts.refl) (()) (by repeat (first | exact List.nil_sublist _ | exact List.Sublist.refl _ | apply List.Sublist.cons_cons | apply List.Sublist.cons)) (by simp [It.rids]) ?_
      have e : rparseC l n = (Chg.zero, 1) := by
        unfold rparseC
        rw [if_pos (by omega)]
      rw [e]
      rfl
    · intro hc18
      refine SC.skip ?_
      refine SE.seq ?_
      refine SC.seq ?_
      refine SC.region ?_
      refine SL.val (Val.move rfl) rfl rfl ?_
      refine SL.val (Val.buildS tabOk rfl rfl rfl rfl) rfl rfl ?_
      refine SL.eff (Eff.boxA rfl) rfl rfl ?_
      rintro _ _ ⟨b22, rfl, rfl⟩
      refine SL.val (Val.assign rfl) rfl rfl ?_
      refine SL.nil ?_
      refine SE.seq ?_
      refine SC.seq ?_
      refine SC.region ?_
      refine SL.val (Val.move rfl) rfl rfl ?_
      refine SL.call (rnumber_s (s := Rd.of l) (n := 8) (by show l.length ≤ _; omega) rfl) Casts.refl (by kernel_rfl) rfl rfl rfl ?_
      refine After.one rfl (by repeat (first | assumption | exact List.mem_cons_self | apply List.mem_cons_of_mem)) (fun _ => rfl) ?_
      intro _
      refine ⟨_, (by repeat (first | assumption | exact Upd.here | apply Upd.there)), ?_⟩
      first
        | refine SL.val (Val.convI rfl Try.underlying2 (by kernel_rfl) (by simp only [InR, lo, hi]; omega)) rfl rfl ?_
        | refine SL.val (Val.convW rfl Try.underlying2 (by kernel_rfl)) rfl rfl ?_
      refine SL.val (Val.move rfl) rfl rfl ?_
      refine SL.call (rnumber_s (s := (Rd.of l).fixed 8) (n := 8) (by omega) rfl) Casts.refl (by kernel_rfl) rfl rfl rfl ?_
      refine After.one rfl (by repeat (first | assumption | exact List.mem_cons_self | apply List.mem_cons_of_mem)) (fun _ => rfl) ?_
      intro _
      refine ⟨_, (by repeat (first | assumption | exact Upd.here | apply Upd.there)), ?_⟩
      first
        | refine SL.val (Val.convI rfl Try.underlying2 (by kernel_rfl) (by simp only [InR, lo, hi]; omega)) rfl rfl ?_
        | refine SL.val (Val.convW rfl Try.underlying2 (by kernel_rfl)) rfl rfl ?_
      refine SL.val (Val.buildS tabOk rfl rfl rfl rfl) rfl rfl ?_
      refine SL.eff (Eff.alloc tabOk rfl) rfl rfl ?_
      rintro _ _ ⟨b7, rfl, rfl⟩
      refine SL.eff (Eff.store tabOk rfl rfl rfl (by repeat (first | assumption | exact Upd.here | apply Upd.there)) (by rfl) (Nat.le_of_ble_eq_true (by rfl)) (by rfl) (by rfl)) rfl rfl ?_
      rintro _ _ ⟨rfl, rfl⟩
      refine SL.nil ?_
      refine SE.seq ?_
      refine SC.seq ?_
      refine SC.seq ?_
      refine SC.region ?_
      refine SL.val (Val.move rfl) rfl rfl ?_
      refine SL.call (rcount_s (s := Rd.chgHead l) (n := 4) (by unfold Rd.chgHead; omega)) Casts.refl (by kernel_rfl) rfl rfl rfl ?_
      refine After.one rfl (by repeat (first | assumption | exact List.mem_cons_self | apply List.mem_cons_of_mem)) (fun _ => rfl) ?_
      intro _
      refine ⟨_, (by repeat (first | assumption | exact Upd.here | apply Upd.there)), ?_⟩
      refine SL.val (Val.assign rfl) rfl rfl ?_
      refine SL.nil ?_
      refine SE.seq ?_
      refine SC.block ?_
      refine SC.own0 131 33 ?_
      refine SC.loop (ι := Rd × List Pnt × Nat × Value) (fun z => [own 131 33 z.2.2.2 (z.2.1.map Pnt.abs), .blk b7 80 [int (IntKind.i64.wrap ((Rd.of l).num 8 : Nat)), int (IntKind.i64.wrap (((Rd.of l).fixed 8).num 8 : Nat)), .v z.2.2.2, .v (.slice none 0 0), .v (.slice none 0 0)], rdA RR b22 z.1, .blk b4 80 (zabs [.int .i64 0, .int .i64 0, .slice none 0 0, .slice none 0 0, .slice none 0 0])]) (fun z => [(1, int n), (4, ptr b4), (6, ptr b22), (7, ptr b7), (8, int (z.2.2.1 : Nat))]) (fun z => z.1.l.length ≤ l.length ∧ z.2.1.length + z.2.2.1 = ((Rd.chgHead l).countN 4) ∧ Rd.rpnts z.2.2.1 z.1 z.2.1 = Rd.rpnts ((Rd.chgHead l).countN 4) ((Rd.chgHead l).count 4) []) (fun z => z.2.2.1) ((Rd.chgHead l).count 4, [], ((Rd.chgHead l).countN 4), .slice none 0 0) (⟨by dsimp only; unfold Rd.chgHead; omega, Nat.zero_add _, rfl⟩) (by exact ⟨rfl, rfl, rfl, rfl, rfl, trivial⟩) (by repeat (first | exact List.nil_sublist _ | exact List.Sublist.refl _ | apply List.Sublist.cons_cons | apply List.Sublist.cons)) ?_
      intro z hz
      refine SC.seq ?_
      refine SC.seq ?_
      refine SC.region ?_
      refine SL.val (Val.move rfl) rfl rfl ?_
      refine SL.val (Val.gtI rfl rfl) rfl rfl ?_
      refine SL.val (Val.move rfl) rfl rfl ?_
      refine SL.bothP (t := 34) rfl ?_ ?_
      · intro hc34
        refine SL.val (Val.move rfl) rfl rfl ?_
        refine SL.val (Val.nilCheck rfl) rfl rfl ?_
        refine SL.val (Val.fieldAddr tabOk rfl rfl rfl rfl rfl) rfl rfl ?_
        refine SL.val (Val.load1 tabOk rfl rfl (by first | (apply Or.inl; (repeat (first | assumption | exact List.mem_cons_self | apply List.mem_cons_of_mem)); done) | (apply Or.inr; (repeat (first | assumption | exact List.mem_cons_self | apply List.mem_cons_of_mem)); done)) List.not_mem_nil (by rfl)) rfl rfl ?_
        refine SL.val (Val.eqI rfl rfl) rfl rfl ?_
        refine SL.val (Val.pickT rfl rfl) rfl rfl ?_
        refine SL.nil ?_
        refine SE.seq ?_
        refine SC.condP rfl ?_ ?_
        · intro hc40
          have n1 := z.1.fixed_length 8
          have n2 := (z.1.fixed 8).fixed_length 32
          have n3 := Rd.out32 (z.1.fixed 8)
          refine SC.skip ?_
          refine SE.seq ?_
          refine SC.seq ?_
          refine SC.block ?_
          refine SC.draw (z.2.2.2.ownBlock.toList ++ [b22, b7]) (.q 0 (.q 2 (.q 5 (.two 1 3 (.e 3 (.q 4 (.e 6 (.q 7 (.e 8 (.e 9 (.q 10 (.e 11 .nil)))))))) (.q 4 (.two 1 6 (.e 6 (.q 7 (.e 8 (.e 9 (.q 10 (.e 11 .nil)))))) (.q 7 (.two 1 8 (.e 8 (.e 9 (.q 10 (.e 11 .nil)))) (.e 1 (.e 9 (.q 10 (.e 11 .nil)))))))))))) (by kernel_rfl) (by kernel_rfl) ?_
          refine SX.val rfl (Val.fieldAddr tabOk rfl rfl rfl rfl rfl) (by first | (simp [mids, It.mids, ownPc]; done) | (intro k hk; simp [mids, It.mids, ownPc] at hk ⊢; grind)) rfl rfl ?_
          refine SX.val rfl (Val.move rfl) (by first | (simp [mids, It.mids, ownPc]; done) | (intro k hk; simp [mids, It.mids, ownPc] at hk ⊢; grind)) rfl rfl ?_
          refine SX.val rfl (Val.move rfl) (by first | (simp [mids, It.mids, ownPc]; done) | (intro k hk; simp [mids, It.mids, ownPc] at hk ⊢; grind)) rfl rfl ?_
          refine SX.two ?_ ?_
          · skip
            refine SX.valE rfl (Val.load1 tabOk rfl rfl (by first | (apply Or.inl; (repeat (first | assumption | exact List.mem_cons_self | apply List.mem_cons_of_mem)); done) | (apply Or.inr; (repeat (first | assumption | exact List.mem_cons_self | apply List.mem_cons_of_mem)); done)) List.not_mem_nil (by rfl)) rfl rfl ?_
            refine SX.call rfl (rnumber_s (s := z.1) (n := 8) (by omega) rfl) (by simp [mids, It.mids]) Casts.refl (by kernel_rfl) rfl rfl rfl ?_
            refine After.one rfl (by repeat (first | assumption | exact List.mem_cons_self | apply List.mem_cons_of_mem)) (fun _ => rfl) ?_
            intro _
            refine ⟨_, (by repeat (first | assumption | exact Upd.here | apply Upd.there)), ?_⟩
            first
              | refine SX.val rfl (Val.convI rfl Try.underlying2 (by kernel_rfl) (by simp only [InR, lo, hi]; omega)) (by first | (simp [mids, It.mids, ownPc]; done) | (intro k hk; simp [mids, It.mids, ownPc] at hk ⊢; grind)) rfl rfl ?_
              | refine SX.val rfl (Val.convW rfl Try.underlying2 (by kernel_rfl)) (by first | (simp [mids, It.mids, ownPc]; done) | (intro k hk; simp [mids, It.mids, ownPc] at hk ⊢; grind)) rfl rfl ?_
            refine SX.call rfl (rreaddig_s (s := (z.1.fixed 8)) (by omega)) (by simp [mids, It.mids]) Casts.refl (by kernel_rfl) rfl rfl rfl ?_
            refine After.one rfl (by repeat (first | assumption | exact List.mem_cons_self | apply List.mem_cons_of_mem)) (fun _ => rfl) ?_
            intro _
            refine ⟨_, (by repeat (first | assumption | exact Upd.here | apply Upd.there)), ?_⟩
            refine SX.val rfl (Val.buildS (L := (Pnt.mk' (sg (z.1.num 8)) ((z.1.fixed 8).out 32)).abs) tabOk rfl rfl rfl (by exact fill_pnt)) (by first | (simp [mids, It.mids, ownPc]; done) | (intro k hk; simp [mids, It.mids, ownPc] at hk ⊢; grind)) rfl rfl ?_
            refine SX.eff rfl (Eff.buildSl tabOk Try.underlying77 rfl rfl rfl (elems_one (Pnt.size _)) rfl rfl rfl) (by simp) rfl rfl ?_
            rintro _ _ ⟨rfl, rfl⟩
            refine SX.effX [b7] rfl (Eff.appendE (zs := (z.2.1 ++ [Pnt.mk' (sg (z.1.num 8)) ((z.1.fixed 8).out 32)]).map Pnt.abs) tabOk [] (by rw [List.map_append]; rfl) Try.underlying77 rfl rfl rfl rfl rfl rfl (by intro c hc; rw [List.mem_singleton] at hc; subst hc; exact Pnt.ones _) (by unfold maxLen; simp only [List.length_map, List.length_cons, List.length_nil]; omega) (by rw [show Try.prog.bytesOf 131 = 40 by kernel_rfl]; simp only [List.length_map, List.length_cons, List.length_nil]; omega)) (fun k hk => List.mem_append_left _ hk) (by simp) rfl rfl ?_
            rintro _ _ ⟨r52, rfl, rfl⟩
            refine SX.val rfl (Val.fieldAddr tabOk rfl rfl rfl rfl rfl) (by first | (simp [mids, It.mids, ownPc]; done) | (intro k hk; simp [mids, It.mids, ownPc] at hk ⊢; grind)) rfl rfl ?_
            first
              | refine SX.eff rfl (Eff.store tabOk rfl rfl rfl (by repeat (first | assumption | exact Upd.here | apply Upd.there)) (by rfl) (Nat.le_of_ble_eq_true (by rfl)) (by rfl) (by rfl)) (by simp) rfl rfl ?_
              | refine SX.eff rfl (Eff.storeOwn tabOk rfl rfl rfl rfl (by repeat (first | assumption | exact List.mem_cons_self | apply List.mem_cons_of_mem)) (by repeat (first | assumption | exact Upd.here | apply Upd.there)) rfl (by rfl)) (by simp) rfl rfl ?_
            rintro _ _ ⟨rfl, rfl⟩
            refine SX.nil ?_
            refine SE.inBlock ?_
            refine SE.seq ?_
            refine SC.region ?_
            refine SL.val (Val.move rfl) rfl rfl ?_
            first
              | refine SL.val (Val.subI rfl rfl (by simp only [InR, lo, hi]; omega)) rfl rfl ?_
              | refine SL.val (Val.subW rfl rfl) rfl rfl ?_
            refine SL.val (Val.assign rfl) rfl rfl ?_
            refine SL.nil ?_
            refine SE.round (((z.1.fixed 8).fixed 32), z.2.1 ++ [Pnt.mk' (sg (z.1.num 8)) ((z.1.fixed 8).out 32)], z.2.2.1 - 1, r52) (by first | omega | (dsimp only; omega)) (⟨by dsimp only; omega, by dsimp only; rw [List.length_append, List.length_singleton]; omega, by
              rw [← hz.2.2]
              obtain ⟨j, hj⟩ : ∃ j, z.2.2.1 = j + 1 := ⟨z.2.2.1 - 1, by omega⟩
              show Rd.rpnts (z.2.2.1 - 1) _ _ = Rd.rpnts z.2.2.1 _ _
              rw [hj, Nat.add_sub_cancel]
              show _ = (if z.1.e ≠ 0 then _ else _)
              rw [if_neg (by simpa using hc40)]⟩) ⟨rfl, rfl, rfl, rfl, (by show some (Abs.v (Value.int _ ((z.2.2.1 : Int) - 1))) = some (Abs.v (Value.int _ ((z.2.2.1 - 1 : Nat) : Int))); congr 3; omega), trivial⟩ (by repeat (first | exact List.nil_sublist _ | exact List.Sublist.refl _ | apply List.Sublist.cons_cons | apply List.Sublist.cons))
          · skip
            refine SX.call rfl (rnumber_s (s := z.1) (n := 8) (by omega) rfl) (by simp [mids, It.mids]) Casts.refl (by kernel_rfl) rfl rfl rfl ?_
            refine After.one rfl (by repeat (first | assumption | exact List.mem_cons_self | apply List.mem_cons_of_mem)) (fun _ => rfl) ?_
            intro _
            refine ⟨_, (by repeat (first | assumption | exact Upd.here | apply Upd.there)), ?_⟩
            first
              | refine SX.val rfl (Val.convI rfl Try.underlying2 (by kernel_rfl) (by simp only [InR, lo, hi]; omega)) (by first | (simp [mids, It.mids, ownPc]; done) | (intro k hk; simp [mids, It.mids, ownPc] at hk ⊢; grind)) rfl rfl ?_
              | refine SX.val rfl (Val.convW rfl Try.underlying2 (by kernel_rfl)) (by first | (simp [mids, It.mids, ownPc]; done) | (intro k hk; simp [mids, It.mids, ownPc] at hk ⊢; grind)) rfl rfl ?_
            refine SX.two ?_ ?_
            · skip
              refine SX.valE rfl (Val.load1 tabOk rfl rfl (by first | (apply Or.inl; (repeat (first | assumption | exact List.mem_cons_self | apply List.mem_cons_of_mem)); done) | (apply Or.inr; (repeat (first | assumption | exact List.mem_cons_self | apply List.mem_cons_of_mem)); done)) List.not_mem_nil (by rfl)) rfl rfl ?_
              refine SX.call rfl (rreaddig_s (s := (z.1.fixed 8)) (by omega)) (by simp [mids, It.mids]) Casts.refl (by kernel_rfl) rfl rfl rfl ?_
              refine After.one rfl (by repeat (first | assumption | exact List.mem_cons_self | apply List.mem_cons_of_mem)) (fun _ => rfl) ?_
              intro _
              refine ⟨_, (by repeat (first | assumption | exact Upd.here | apply Upd.there)), ?_⟩
              refine SX.val rfl (Val.buildS (L := (Pnt.mk' (sg (z.1.num 8)) ((z.1.fixed 8).out 32)).abs) tabOk rfl rfl rfl (by exact fill_pnt)) (by first | (simp [mids, It.mids, ownPc]; done) | (intro k hk; simp [mids, It.mids, ownPc] at hk ⊢; grind)) rfl rfl ?_
              refine SX.eff rfl (Eff.buildSl tabOk Try.underlying77 rfl rfl rfl (elems_one (Pnt.size _)) rfl rfl rfl) (by simp) rfl rfl ?_
              rintro _ _ ⟨rfl, rfl⟩
              refine SX.effX [b7] rfl (Eff.appendE (zs := (z.2.1 ++ [Pnt.mk' (sg (z.1.num 8)) ((z.1.fixed 8).out 32)]).map Pnt.abs) tabOk [] (by rw [List.map_append]; rfl) Try.underlying77 rfl rfl rfl rfl rfl rfl (by intro c hc; rw [List.mem_singleton] at hc; subst hc; exact Pnt.ones _) (by unfold maxLen; simp only [List.length_map, List.length_cons, List.length_nil]; omega) (by rw [show Try.prog.bytesOf 131 = 40 by kernel_rfl]; simp only [List.length_map, List.length_cons, List.length_nil]; omega)) (fun k hk => List.mem_append_left _ hk) (by simp) rfl rfl ?_
              rintro _ _ ⟨r52, rfl, rfl⟩
              refine SX.val rfl (Val.fieldAddr tabOk rfl rfl rfl rfl rfl) (by first | (simp [mids, It.mids, ownPc]; done) | (intro k hk; simp [mids, It.mids, ownPc] at hk ⊢; grind)) rfl rfl ?_
              first
                | refine SX.eff rfl (Eff.store tabOk rfl rfl rfl (by repeat (first | assumption | exact Upd.here | apply Upd.there)) (by rfl) (Nat.le_of_ble_eq_true (by rfl)) (by rfl) (by rfl)) (by simp) rfl rfl ?_
                | refine SX.eff rfl (Eff.storeOwn tabOk rfl rfl rfl rfl (by repeat (first | assumption | exact List.mem_cons_self | apply List.mem_cons_of_mem)) (by repeat (first | assumption | exact Upd.here | apply Upd.there)) rfl (by rfl)) (by simp) rfl rfl ?_
              rintro _ _ ⟨rfl, rfl⟩
              refine SX.nil ?_
              refine SE.inBlock ?_
              refine SE.seq ?_
              refine SC.region ?_
              refine SL.val (Val.move rfl) rfl rfl ?_
              first
                | refine SL.val (Val.subI rfl rfl (by simp only [InR, lo, hi]; omega)) rfl rfl ?_
                | refine SL.val (Val.subW rfl rfl) rfl rfl ?_
              refine SL.val (Val.assign rfl) rfl rfl ?_
              refine SL.nil ?_
              refine SE.round (((z.1.fixed 8).fixed 32), z.2.1 ++ [Pnt.mk' (sg (z.1.num 8)) ((z.1.fixed 8).out 32)], z.2.2.1 - 1, r52) (by first | omega | (dsimp only; omega)) (⟨by dsimp only; omega, by dsimp only; rw [List.length_append, List.length_singleton]; omega, by
                rw [← hz.2.2]
                obtain ⟨j, hj⟩ : ∃ j, z.2.2.1 = j + 1 := ⟨z.2.2.1 - 1, by omega⟩
                show Rd.rpnts (z.2.2.1 - 1) _ _ = Rd.rpnts z.2.2.1 _ _
                rw [hj, Nat.add_sub_cancel]
                show _ = (if z.1.e ≠ 0 then _ else _)
                rw [if_neg (by simpa using hc40)]⟩) ⟨rfl, rfl, rfl, rfl, (by show some (Abs.v (Value.int _ ((z.2.2.1 : Int) - 1))) = some (Abs.v (Value.int _ ((z.2.2.1 - 1 : Nat) : Int))); congr 3; omega), trivial⟩ (by repeat (first | exact List.nil_sublist _ | exact List.Sublist.refl _ | apply List.Sublist.cons_cons | apply List.Sublist.cons))
            · skip
              refine SX.call rfl (rreaddig_s (s := (z.1.fixed 8)) (by omega)) (by simp [mids, It.mids]) Casts.refl (by kernel_rfl) rfl rfl rfl ?_
              refine After.one rfl (by repeat (first | assumption | exact List.mem_cons_self | apply List.mem_cons_of_mem)) (fun _ => rfl) ?_
              intro _
              refine ⟨_, (by repeat (first | assumption | exact Upd.here | apply Upd.there)), ?_⟩
              refine SX.val rfl (Val.buildS (L := (Pnt.mk' (sg (z.1.num 8)) ((z.1.fixed 8).out 32)).abs) tabOk rfl rfl rfl (by exact fill_pnt)) (by first | (simp [mids, It.mids, ownPc]; done) | (intro k hk; simp [mids, It.mids, ownPc] at hk ⊢; grind)) rfl rfl ?_
              refine SX.two ?_ ?_
              · skip
                refine SX.valE rfl (Val.load1 tabOk rfl rfl (by first | (apply Or.inl; (repeat (first | assumption | exact List.mem_cons_self | apply List.mem_cons_of_mem)); done) | (apply Or.inr; (repeat (first | assumption | exact List.mem_cons_self | apply List.mem_cons_of_mem)); done)) List.not_mem_nil (by rfl)) rfl rfl ?_
                refine SX.eff rfl (Eff.buildSl tabOk Try.underlying77 rfl rfl rfl (elems_one (Pnt.size _)) rfl rfl rfl) (by simp) rfl rfl ?_
                rintro _ _ ⟨rfl, rfl⟩
                refine SX.effX [b7] rfl (Eff.appendE (zs := (z.2.1 ++ [Pnt.mk' (sg (z.1.num 8)) ((z.1.fixed 8).out 32)]).map Pnt.abs) tabOk [] (by rw [List.map_append]; rfl) Try.underlying77 rfl rfl rfl rfl rfl rfl (by intro c hc; rw [List.mem_singleton] at hc; subst hc; exact Pnt.ones _) (by unfold maxLen; simp only [List.length_map, List.length_cons, List.length_nil]; omega) (by rw [show Try.prog.bytesOf 131 = 40 by kernel_rfl]; simp only [List.length_map, List.length_cons, List.length_nil]; omega)) (fun k hk => List.mem_append_left _ hk) (by simp) rfl rfl ?_
                rintro _ _ ⟨r52, rfl, rfl⟩
                refine SX.val rfl (Val.fieldAddr tabOk rfl rfl rfl rfl rfl) (by first | (simp [mids, It.mids, ownPc]; done) | (intro k hk; simp [mids, It.mids, ownPc] at hk ⊢; grind)) rfl rfl ?_
                first
                  | refine SX.eff rfl (Eff.store tabOk rfl rfl rfl (by repeat (first | assumption | exact Upd.here | apply Upd.there)) (by rfl) (Nat.le_of_ble_eq_true (by rfl)) (by rfl) (by rfl)) (by simp) rfl rfl ?_
                  | refine SX.eff rfl (Eff.storeOwn tabOk rfl rfl rfl rfl (by repeat (first | assumption | exact List.mem_cons_self | apply List.mem_cons_of_mem)) (by repeat (first | assumption | exact Upd.here | apply Upd.there)) rfl (by rfl)) (by simp) rfl rfl ?_
                rintro _ _ ⟨rfl, rfl⟩
                refine SX.nil ?_
                refine SE.inBlock ?_
                refine SE.seq ?_
                refine SC.region ?_
                refine SL.val (Val.move rfl) rfl rfl ?_
                first
                  | refine SL.val (Val.subI rfl rfl (by simp only [InR, lo, hi]; omega)) rfl rfl ?_
                  | refine SL.val (Val.subW rfl rfl) rfl rfl ?_
                refine SL.val (Val.assign rfl) rfl rfl ?_
                refine SL.nil ?_
                refine SE.round (((z.1.fixed 8).fixed 32), z.2.1 ++ [Pnt.mk' (sg (z.1.num 8)) ((z.1.fixed 8).out 32)], z.2.2.1 - 1, r52) (by first | omega | (dsimp only; omega)) (⟨by dsimp only; omega, by dsimp only; rw [List.length_append, List.length_singleton]; omega, by
                  rw [← hz.2.2]
                  obtain ⟨j, hj⟩ : ∃ j, z.2.2.1 = j + 1 := ⟨z.2.2.1 - 1, by omega⟩
                  show Rd.rpnts (z.2.2.1 - 1) _ _ = Rd.rpnts z.2.2.1 _ _
                  rw [hj, Nat.add_sub_cancel]
                  show _ = (if z.1.e ≠ 0 then _ else _)
                  rw [if_neg (by simpa using hc40)]⟩) ⟨rfl, rfl, rfl, rfl, (by show some (Abs.v (Value.int _ ((z.2.2.1 : Int) - 1))) = some (Abs.v (Value.int _ ((z.2.2.1 - 1 : Nat) : Int))); congr 3; omega), trivial⟩ (by repeat (first | exact List.nil_sublist _ | exact List.Sublist.refl _ | apply List.Sublist.cons_cons | apply List.Sublist.cons))
              · skip
                refine SX.eff rfl (Eff.buildSl tabOk Try.underlying77 rfl rfl rfl (elems_one (Pnt.size _)) rfl rfl rfl) (by simp) rfl rfl ?_
                rintro _ _ ⟨rfl, rfl⟩
                refine SX.valE rfl (Val.load1 tabOk rfl rfl (by first | (apply Or.inl; (repeat (first | assumption | exact List.mem_cons_self | apply List.mem_cons_of_mem)); done) | (apply Or.inr; (repeat (first | assumption | exact List.mem_cons_self | apply List.mem_cons_of_mem)); done)) List.not_mem_nil (by rfl)) rfl rfl ?_
                refine SX.effX [b7] rfl (Eff.appendE (zs := (z.2.1 ++ [Pnt.mk' (sg (z.1.num 8)) ((z.1.fixed 8).out 32)]).map Pnt.abs) tabOk [] (by rw [List.map_append]; rfl) Try.underlying77 rfl rfl rfl rfl rfl rfl (by intro c hc; rw [List.mem_singleton] at hc; subst hc; exact Pnt.ones _) (by unfold maxLen; simp only [List.length_map, List.length_cons, List.length_nil]; omega) (by rw [show Try.prog.bytesOf 131 = 40 by kernel_rfl]; simp only [List.length_map, List.length_cons, List.length_nil]; omega)) (fun k hk => List.mem_append_left _ hk) (by simp) rfl rfl ?_
                rintro _ _ ⟨r52, rfl, rfl⟩
                refine SX.val rfl (Val.fieldAddr tabOk rfl rfl rfl rfl rfl) (by first | (simp [mids, It.mids, ownPc]; done) | (intro k hk; simp [mids, It.mids, ownPc] at hk ⊢; grind)) rfl rfl ?_
                first
                  | refine SX.eff rfl (Eff.store tabOk rfl rfl rfl (by repeat (first | assumption | exact Upd.here | apply Upd.there)) (by rfl) (Nat.le_of_ble_eq_true (by rfl)) (by rfl) (by rfl)) (by simp) rfl rfl ?_
                  | refine SX.eff rfl (Eff.storeOwn tabOk rfl rfl rfl rfl (by repeat (first | assumption | exact List.mem_cons_self | apply List.mem_cons_of_mem)) (by repeat (first | assumption | exact Upd.here | apply Upd.there)) rfl (by rfl)) (by simp) rfl rfl ?_
                rintro _ _ ⟨rfl, rfl⟩
                refine SX.nil ?_
                refine SE.inBlock ?_
                refine SE.seq ?_
                refine SC.region ?_
                refine SL.val (Val.move rfl) rfl rfl ?_
                first
                  | refine SL.val (Val.subI rfl rfl (by simp only [InR, lo, hi]; omega)) rfl rfl ?_
                  | refine SL.val (Val.subW rfl rfl) rfl rfl ?_
                refine SL.val (Val.assign rfl) rfl rfl ?_
                refine SL.nil ?_
                refine SE.round (((z.1.fixed 8).fixed 32), z.2.1 ++ [Pnt.mk' (sg (z.1.num 8)) ((z.1.fixed 8).out 32)], z.2.2.1 - 1, r52) (by first | omega | (dsimp only; omega)) (⟨by dsimp only; omega, by dsimp only; rw [List.length_append, List.length_singleton]; omega, by
                  rw [← hz.2.2]
                  obtain ⟨j, hj⟩ : ∃ j, z.2.2.1 = j + 1 := ⟨z.2.2.1 - 1, by omega⟩
                  show Rd.rpnts (z.2.2.1 - 1) _ _ = Rd.rpnts z.2.2.1 _ _
                  rw [hj, Nat.add_sub_cancel]
                  show _ = (if z.1.e ≠ 0 then _ else _)
                  rw [if_neg (by simpa using hc40)]⟩) ⟨rfl, rfl, rfl, rfl, (by show some (Abs.v (Value.int _ ((z.2.2.1 : Int) - 1))) = some (Abs.v (Value.int _ ((z.2.2.1 - 1 : Nat) : Int))); congr 3; omega), trivial⟩ (by repeat (first | exact List.nil_sublist _ | exact List.Sublist.refl _ | apply List.Sublist.cons_cons | apply List.Sublist.cons))
        · intro hc40
          refine SC.exit ?_
          refine SE.then_ (by intro h; cases h) ?_
          refine SE.then_ (by intro h; cases h) ?_
          refine SE.exit ?_
          refine SE.seq ?_
          refine SC.seq ?_
          have hzz : (z.2.1, z.1) = Rd.rchgPts l := by
            unfold Rd.rchgPts
            rw [← hz.2.2]
            first
              | (rw [show z.2.2.1 = 0 by omega]; rfl)
              | exact (rpnts_stop (by simpa using hc40) _).symm
          have hzA := congrArg Prod.fst hzz
          have hzS := congrArg Prod.snd hzz
          dsimp only at hzA hzS
          refine SC.freezeC [] 2 rfl (by repeat (first | assumption | exact Upd.here | apply Upd.there)) rfl ?_
          rw [hzA, hzS]
          have w1 := rpnts_left ((Rd.chgHead l).countN 4) ((Rd.chgHead l).count 4) []
          have w2 : (Rd.rchgPts l).2.l.length ≤ l.length := by unfold Rd.rchgPts; unfold Rd.chgHead at w1 ⊢; omega
          have w3 := rprfs_left ((Rd.rchgPts l).2.countN 8) ((Rd.rchgPts l).2.count 8) [] true
          have w4 := Rd.count_length (Rd.rchgPts l).2 8
          have w5 : (Rd.rchgPre l).2.2.l.length ≤ l.length := by unfold Rd.rchgPre; omega
          have w6 := rprfs_left ((Rd.rchgPre l).2.2.countN 64) ((Rd.rchgPre l).2.2.count 64) [] true
          have w7 := Rd.countN_lt (Rd.rchgPts l).2 8
          have w8 := Rd.countN_lt (Rd.rchgPre l).2.2 64
          have w9 := Rd.count_length (Rd.rchgPre l).2.2 64
          have hg3 : (Rd.rchg l).points.length < 9223372036854775807 := by
            show (Rd.rchgPts l).1.length < _
            have := w1.1
            rw [List.length_nil] at this
            unfold Rd.rchgPts; omega
          have hg1 : Long (Rd.rchg l).prepared := by
            refine ⟨by
              show (Rd.rchgPre l).1.length < _
              have := w3.1
              rw [List.length_nil] at this
              unfold Rd.rchgPre; omega, ?_⟩
            exact rprfs_all (fun p => p.batch.length ≤ 1000000) (B := 3000) (fun a b l h => ens_few l) _ _ _ _ (by omega) (by simp)
          have hg2 : Long (Rd.rchg l).proposed := by
            refine ⟨by
              show (Rd.rchgPro l).1.length < _
              have := w6.1
              rw [List.length_nil] at this
              unfold Rd.rchgPro; omega, ?_⟩
            exact rprfs_all (fun p => p.batch.length ≤ 1000000) (B := 3000) (fun a b l h => ens_few l) _ _ _ _ (by omega) (by simp)
          have hl1 : Lets (Rd.rchg l).prepared := rprfs_all (fun p => ∀ e ∈ p.batch, e.core.letter.size ≤ lots) (B := 3000) (fun a b l h => ens_lets (by omega)) _ _ _ _ (by omega) (by simp)
          have hl2 : Lets (Rd.rchg l).proposed := rprfs_all (fun p => ∀ e ∈ p.batch, e.core.letter.size ≤ lots) (B := 3000) (fun a b l h => ens_lets (by omega)) _ _ _ _ (by omega) (by simp)
          refine SC.region ?_
          refine SL.val (Val.move rfl) rfl rfl ?_
          refine SL.call (rreadp_s (s := (Rd.rchgPts l).2) (most := 8) (by omega)) Casts.refl (by kernel_rfl) rfl rfl rfl ?_
          refine After.one rfl (by repeat (first | assumption | exact List.mem_cons_self | apply List.mem_cons_of_mem)) (fun _ => rfl) ?_
          intro _
          refine ⟨_, (by repeat (first | assumption | exact Upd.here | apply Upd.there)), ?_⟩
          refine SL.val (Val.move rfl) rfl rfl ?_
          refine SL.val (Val.extract rfl rfl) rfl rfl ?_
          refine SL.val (Val.extract rfl rfl) rfl rfl ?_
          refine SL.val (Val.assign rfl) rfl rfl ?_
          refine SL.val (Val.assign rfl) rfl rfl ?_
          refine SL.nil ?_
          refine SE.seq ?_
          refine SC.seq ?_
          refine SC.region ?_
          refine SL.val (Val.move rfl) rfl rfl ?_
          refine SL.call (rreadp_s (s := (Rd.rchgPre l).2.2) (most := 64) (by omega)) Casts.refl (by kernel_rfl) rfl rfl rfl ?_
          refine After.one rfl (by repeat (first | assumption | exact List.mem_cons_self | apply List.mem_cons_of_mem)) (fun _ => rfl) ?_
          intro _
          refine ⟨_, (by repeat (first | assumption | exact Upd.here | apply Upd.there)), ?_⟩
          refine SL.val (Val.move rfl) rfl rfl ?_
          refine SL.val (Val.extract rfl rfl) rfl rfl ?_
          refine SL.val (Val.extract rfl rfl) rfl rfl ?_
          refine SL.val (Val.assign rfl) rfl rfl ?_
          refine SL.val (Val.assign rfl) rfl rfl ?_
          refine SL.nil ?_
          refine SE.seq ?_
          refine SC.seq ?_
          refine SC.region ?_
          refine SL.val (Val.move rfl) rfl rfl ?_
          refine SL.val (Val.move rfl) rfl rfl ?_
          refine SL.val (Val.fieldAddr tabOk rfl rfl rfl rfl rfl) rfl rfl ?_
          first
            | refine SL.eff (Eff.store tabOk rfl rfl rfl (by repeat (first | assumption | exact Upd.here | apply Upd.there)) (by rfl) (Nat.le_of_ble_eq_true (by rfl)) (by rfl) (by rfl)) rfl rfl ?_
            | refine SL.eff (Eff.storeOwn tabOk rfl rfl rfl rfl (by repeat (first | assumption | exact List.mem_cons_self | apply List.mem_cons_of_mem)) (by repeat (first | assumption | exact Upd.here | apply Upd.there)) rfl (by rfl)) rfl rfl ?_
          rintro _ _ ⟨rfl, rfl⟩
          refine SL.val (Val.fieldAddr tabOk rfl rfl rfl rfl rfl) rfl rfl ?_
          first
            | refine SL.eff (Eff.store tabOk rfl rfl rfl (by repeat (first | assumption | exact Upd.here | apply Upd.there)) (by rfl) (Nat.le_of_ble_eq_true (by rfl)) (by rfl) (by rfl)) rfl rfl ?_
            | refine SL.eff (Eff.storeOwn tabOk rfl rfl rfl rfl (by repeat (first | assumption | exact List.mem_cons_self | apply List.mem_cons_of_mem)) (by repeat (first | assumption | exact Upd.here | apply Upd.there)) rfl (by rfl)) rfl rfl ?_
          rintro _ _ ⟨rfl, rfl⟩
          refine SL.nil ?_
          refine SE.seq ?_
          refine SC.seq ?_
          refine SC.seq ?_
          refine SC.region ?_
          refine SL.val (Val.move rfl) rfl rfl ?_
          refine SL.call (rend_s (s := (Rd.rchgPro l).2.2)) Casts.refl (by kernel_rfl) rfl rfl rfl ?_
          refine After.one rfl (by repeat (first | assumption | exact List.mem_cons_self | apply List.mem_cons_of_mem)) (fun _ => rfl) ?_
          intro _
          refine ⟨_, (by repeat (first | assumption | exact Upd.here | apply Upd.there)), ?_⟩
          refine SL.val (Val.neI rfl rfl) rfl rfl ?_
          refine SL.val (Val.move rfl) rfl rfl ?_
          refine SL.bothP (t := 71) rfl ?_ ?_
          · intro hc71
            refine SL.skip rfl rfl ?_
            refine SL.skip rfl rfl ?_
            refine SL.val (Val.pickT rfl rfl) rfl rfl ?_
            refine SL.val (Val.move rfl) rfl rfl ?_
            refine SL.skip rfl rfl ?_
            refine SL.skip rfl rfl ?_
            refine SL.val (Val.pickT rfl rfl) rfl rfl ?_
            refine SL.val (Val.move rfl) rfl rfl ?_
            refine SL.skip rfl rfl ?_
            refine SL.skip rfl rfl ?_
            refine SL.skip rfl rfl ?_
            refine SL.skip rfl rfl ?_
            refine SL.val (Val.pickT rfl rfl) rfl rfl ?_
            refine SL.nil ?_
            refine SE.seq ?_
            refine SC.condT rfl ?_
            refine SC.seq ?_
            refine SC.region ?_
            refine SL.val (Val.buildS tabOk rfl rfl rfl rfl) rfl rfl ?_
            refine SL.eff (Eff.store tabOk rfl rfl rfl (by repeat (first | assumption | exact Upd.here | apply Upd.there)) (by rfl) (Nat.le_of_ble_eq_true (by rfl)) (by rfl) (by rfl)) rfl rfl ?_
            rintro _ _ ⟨rfl, rfl⟩
            refine SL.val (Val.assign rfl) rfl rfl ?_
            refine SL.nil ?_
            refine SE.seq ?_
            refine SC.ret ?_
            refine SE.then_ (by intro h; cases h) ?_
            refine SE.finC (rs := [.cell 4 80, .tmp 5]) rfl (RV.cell rfl (RV.cellA tabOk rfl rfl (by first | (apply Or.inl; (repeat (first | assumption | exact List.mem_cons_self | apply List.mem_cons_of_mem)); done) | (apply Or.inr; (repeat (first | assumption | exact List.mem_cons_self | apply List.mem_cons_of_mem)); done)) (by rfl)) (RV.tmp rfl RV.nil)) (Casts.cons (cast_agg (Casts.keep (Casts.keep (Casts.nils (s := 33) (Casts.nils (s := 3) (Casts.nils (s := 3) Casts.refl)))))) Casts.refl) (()) (by repeat (first | exact List.nil_sublist _ | exact List.Sublist.refl _ | apply List.Sublist.cons_cons | apply List.Sublist.cons)) (by simp [It.rids]) ?_
            have e : rparseC l n = (Chg.zero, 2) := by
              unfold rparseC
              rw [if_neg (by omega), if_pos (by
                first
                  | exact .inl (by assumption)
                  | exact .inr (.inl (by have h8 := hc75; simp at h8; exact h8))
                  | exact .inr (.inr (.inl (by have h8 := hc79; simp at h8; exact h8)))
                  | exact .inr (.inr (.inr (by have h8 := hc84; simp at h8; exact h8))))]
            rw [e]
            rfl
          · intro hc71
            refine SL.val (Val.move rfl) rfl rfl ?_
            refine SL.val (Val.notB rfl) rfl rfl ?_
            refine SL.val (Val.pickF rfl rfl) rfl rfl ?_
            refine SL.val (Val.move rfl) rfl rfl ?_
            refine SL.both (t := 75) rfl ?_ ?_
            · intro hc75
              refine SL.skip rfl rfl ?_
              refine SL.skip rfl rfl ?_
              refine SL.val (Val.pickT rfl rfl) rfl rfl ?_
              refine SL.val (Val.move rfl) rfl rfl ?_
              refine SL.skip rfl rfl ?_
              refine SL.skip rfl rfl ?_
              refine SL.skip rfl rfl ?_
              refine SL.skip rfl rfl ?_
              refine SL.val (Val.pickT rfl rfl) rfl rfl ?_
              refine SL.nil ?_
              refine SE.seq ?_
              refine SC.condT rfl ?_
              refine SC.seq ?_
              refine SC.region ?_
              refine SL.val (Val.buildS tabOk rfl rfl rfl rfl) rfl rfl ?_
              refine SL.eff (Eff.store tabOk rfl rfl rfl (by repeat (first | assumption | exact Upd.here | apply Upd.there)) (by rfl) (Nat.le_of_ble_eq_true (by rfl)) (by rfl) (by rfl)) rfl rfl ?_
              rintro _ _ ⟨rfl, rfl⟩
              refine SL.val (Val.assign rfl) rfl rfl ?_
              refine SL.nil ?_
              refine SE.seq ?_
              refine SC.ret ?_
              refine SE.then_ (by intro h; cases h) ?_
              refine SE.finC (rs := [.cell 4 80, .tmp 5]) rfl (RV.cell rfl (RV.cellA tabOk rfl rfl (by first | (apply Or.inl; (repeat (first | assumption | exact List.mem_cons_self | apply List.mem_cons_of_mem)); done) | (apply Or.inr; (repeat (first | assumption | exact List.mem_cons_self | apply List.mem_cons_of_mem)); done)) (by rfl)) (RV.tmp rfl RV.nil)) (Casts.cons (cast_agg (Casts.keep (Casts.keep (Casts.nils (s := 33) (Casts.nils (s := 3) (Casts.nils (s := 3) Casts.refl)))))) Casts.refl) (()) (by repeat (first | exact List.nil_sublist _ | exact List.Sublist.refl _ | apply List.Sublist.cons_cons | apply List.Sublist.cons)) (by simp [It.rids]) ?_
              have e : rparseC l n = (Chg.zero, 2) := by
                unfold rparseC
                rw [if_neg (by omega), if_pos (by
                  first
                    | exact .inl (by assumption)
                    | exact .inr (.inl (by have h8 := hc75; simp at h8; exact h8))
                    | exact .inr (.inr (.inl (by have h8 := hc79; simp at h8; exact h8)))
                    | exact .inr (.inr (.inr (by have h8 := hc84; simp at h8; exact h8))))]
              rw [e]
              rfl
            · intro hc75
              refine SL.val (Val.move rfl) rfl rfl ?_
              refine SL.val (Val.notB rfl) rfl rfl ?_
              refine SL.val (Val.pickF rfl rfl) rfl rfl ?_
              refine SL.val (Val.move rfl) rfl rfl ?_
              refine SL.both (t := 79) rfl ?_ ?_
              · intro hc79
                refine SL.skip rfl rfl ?_
                refine SL.skip rfl rfl ?_
                refine SL.skip rfl rfl ?_
                refine SL.skip rfl rfl ?_
                refine SL.val (Val.pickT rfl rfl) rfl rfl ?_
                refine SL.nil ?_
                refine SE.seq ?_
                refine SC.condT rfl ?_
                refine SC.seq ?_
                refine SC.region ?_
                refine SL.val (Val.buildS tabOk rfl rfl rfl rfl) rfl rfl ?_
                refine SL.eff (Eff.store tabOk rfl rfl rfl (by repeat (first | assumption | exact Upd.here | apply Upd.there)) (by rfl) (Nat.le_of_ble_eq_true (by rfl)) (by rfl) (by rfl)) rfl rfl ?_
                rintro _ _ ⟨rfl, rfl⟩
                refine SL.val (Val.assign rfl) rfl rfl ?_
                refine SL.nil ?_
                refine SE.seq ?_
                refine SC.ret ?_
                refine SE.then_ (by intro h; cases h) ?_
                refine SE.finC (rs := [.cell 4 80, .tmp 5]) rfl (RV.cell rfl (RV.cellA tabOk rfl rfl (by first | (apply Or.inl; (repeat (first | assumption | exact List.mem_cons_self | apply List.mem_cons_of_mem)); done) | (apply Or.inr; (repeat (first | assumption | exact List.mem_cons_self | apply List.mem_cons_of_mem)); done)) (by rfl)) (RV.tmp rfl RV.nil)) (Casts.cons (cast_agg (Casts.keep (Casts.keep (Casts.nils (s := 33) (Casts.nils (s := 3) (Casts.nils (s := 3) Casts.refl)))))) Casts.refl) (()) (by repeat (first | exact List.nil_sublist _ | exact List.Sublist.refl _ | apply List.Sublist.cons_cons | apply List.Sublist.cons)) (by simp [It.rids]) ?_
                have e : rparseC l n = (Chg.zero, 2) := by
                  unfold rparseC
                  rw [if_neg (by omega), if_pos (by
                    first
                      | exact .inl (by assumption)
                      | exact .inr (.inl (by have h8 := hc75; simp at h8; exact h8))
                      | exact .inr (.inr (.inl (by have h8 := hc79; simp at h8; exact h8)))
                      | exact .inr (.inr (.inr (by have h8 := hc84; simp at h8; exact h8))))]
                rw [e]
                rfl
              · intro hc79
                first
                  | refine SL.val (Val.loadA tabOk rfl rfl rfl (by first | (apply Or.inl; (repeat (first | assumption | exact List.mem_cons_self | apply List.mem_cons_of_mem)); done) | (apply Or.inr; (repeat (first | assumption | exact List.mem_cons_self | apply List.mem_cons_of_mem)); done)) List.not_mem_nil (by rfl)) rfl rfl ?_
                  | refine SL.val (Val.loadP tabOk rfl rfl rfl (by first | (apply Or.inl; (repeat (first | assumption | exact List.mem_cons_self | apply List.mem_cons_of_mem)); done) | (apply Or.inr; (repeat (first | assumption | exact List.mem_cons_self | apply List.mem_cons_of_mem)); done)) List.not_mem_nil (Nat.le_of_ble_eq_true (by rfl))) rfl rfl ?_
                refine SL.val (Val.move rfl) rfl rfl ?_
                refine SL.call (right_s (c := Rd.rchg l) (n := n) hg1 hg2 hg3 hl1 hl2) Casts.refl (by kernel_rfl) rfl rfl rfl ?_
                refine After.pure (by repeat (first | exact Reads.nil | refine Reads.blk (by repeat (first | assumption | exact List.mem_cons_self | apply List.mem_cons_of_mem)) ?_ | refine Reads.rd (by repeat (first | assumption | exact List.mem_cons_self | apply List.mem_cons_of_mem)) ?_ | refine Reads.pc (by repeat (first | assumption | exact List.mem_cons_self | apply List.mem_cons_of_mem)) ?_ | refine Reads.rdpc (by repeat (first | assumption | exact List.mem_cons_self | apply List.mem_cons_of_mem)) ?_)) (fun _ => rfl) ?_
                intro _
                refine SL.val (Val.notB rfl) rfl rfl ?_
                refine SL.val (Val.pickF rfl rfl) rfl rfl ?_
                refine SL.nil ?_
                refine SE.seq ?_
                refine SC.cond rfl ?_ ?_
                · intro hc84
                  refine SC.seq ?_
                  refine SC.region ?_
                  refine SL.val (Val.buildS tabOk rfl rfl rfl rfl) rfl rfl ?_
                  refine SL.eff (Eff.store tabOk rfl rfl rfl (by repeat (first | assumption | exact Upd.here | apply Upd.there)) (by rfl) (Nat.le_of_ble_eq_true (by rfl)) (by rfl) (by rfl)) rfl rfl ?_
                  rintro _ _ ⟨rfl, rfl⟩
                  refine SL.val (Val.assign rfl) rfl rfl ?_
                  refine SL.nil ?_
                  refine SE.seq ?_
                  refine SC.ret ?_
                  refine SE.then_ (by intro h; cases h) ?_
                  refine SE.finC (rs := [.cell 4 80, .tmp 5]) rfl (RV.cell rfl (RV.cellA tabOk rfl rfl (by first | (apply Or.inl; (repeat (first | assumption | exact List.mem_cons_self | apply List.mem_cons_of_mem)); done) | (apply Or.inr; (repeat (first | assumption | exact List.mem_cons_self | apply List.mem_cons_of_mem)); done)) (by rfl)) (RV.tmp rfl RV.nil)) (Casts.cons (cast_agg (Casts.keep (Casts.keep (Casts.nils (s := 33) (Casts.nils (s := 3) (Casts.nils (s := 3) Casts.refl)))))) Casts.refl) (()) (by repeat (first | exact List.nil_sublist _ | exact List.Sublist.refl _ | apply List.Sublist.cons_cons | apply List.Sublist.cons)) (by simp [It.rids]) ?_
                  have e : rparseC l n = (Chg.zero, 2) := by
                    unfold rparseC
                    rw [if_neg (by omega), if_pos (by
                      first
                        | exact .inl (by assumption)
                        | exact .inr (.inl (by have h8 := hc75; simp at h8; exact h8))
                        | exact .inr (.inr (.inl (by have h8 := hc79; simp at h8; exact h8)))
                        | exact .inr (.inr (.inr (by have h8 := hc84; simp at h8; exact h8))))]
                  rw [e]
                  rfl
                · intro hc84
                  refine SC.skip ?_
                  refine SE.seq ?_
                  refine SC.seq ?_
                  refine SC.region ?_
                  first
                    | refine SL.val (Val.loadA tabOk rfl rfl rfl (by first | (apply Or.inl; (repeat (first | assumption | exact List.mem_cons_self | apply List.mem_cons_of_mem)); done) | (apply Or.inr; (repeat (first | assumption | exact List.mem_cons_self | apply List.mem_cons_of_mem)); done)) List.not_mem_nil (by rfl)) rfl rfl ?_
                    | refine SL.val (Val.loadP tabOk rfl rfl rfl (by first | (apply Or.inl; (repeat (first | assumption | exact List.mem_cons_self | apply List.mem_cons_of_mem)); done) | (apply Or.inr; (repeat (first | assumption | exact List.mem_cons_self | apply List.mem_cons_of_mem)); done)) List.not_mem_nil (Nat.le_of_ble_eq_true (by rfl))) rfl rfl ?_
                  refine SL.eff (Eff.store tabOk rfl rfl rfl (by repeat (first | assumption | exact Upd.here | apply Upd.there)) (by rfl) (Nat.le_of_ble_eq_true (by rfl)) (by rfl) (by rfl)) rfl rfl ?_
                  rintro _ _ ⟨rfl, rfl⟩
                  refine SL.val (Val.assign rfl) rfl rfl ?_
                  refine SL.nil ?_
                  refine SE.seq ?_
                  refine SC.ret ?_
                  refine SE.fin (rs := [.cell 4 80, .tmp 5]) rfl (RV.cell rfl (RV.cellA tabOk rfl rfl (by first | (apply Or.inl; (repeat (first | assumption | exact List.mem_cons_self | apply List.mem_cons_of_mem)); done) | (apply Or.inr; (repeat (first | assumption | exact List.mem_cons_self | apply List.mem_cons_of_mem)); done)) (by rfl)) (RV.tmp rfl RV.nil)) (()) (by repeat (first | exact List.nil_sublist _ | exact List.Sublist.refl _ | apply List.Sublist.cons_cons | apply List.Sublist.cons)) (by simp [It.rids]) ?_
                  have e : rparseC l n = (Rd.rchg l, 0) := by
                    unfold rparseC
                    rw [if_neg (by omega), if_neg (by
                      intro h
                      rcases h with h | h | h | h
                      · exact hc71 h
                      · have h8 : (Rd.rchgPre l).2.1 = true := by have h9 := hc75; simp at h9; exact h9
                        exact Bool.noConfusion (h.symm.trans h8)
                      · have h8 : (Rd.rchgPro l).2.1 = true := by have h9 := hc79; simp at h9; exact h9
                        exact Bool.noConfusion (h.symm.trans h8)
                      · have h8 : yes ((Rd.rchg l).Right n) = true := by have h9 := hc84; simp at h9; exact h9
                        exact Bool.noConfusion (h.symm.trans h8))]
                  rw [e]
                  rfl
      · intro hc34
        refine SL.skip rfl rfl ?_
        refine SL.skip rfl rfl ?_
        refine SL.skip rfl rfl ?_
        refine SL.skip rfl rfl ?_
        refine SL.skip rfl rfl ?_
        refine SL.val (Val.pickF rfl rfl) rfl rfl ?_
        refine SL.nil ?_
        refine SE.seq ?_
        refine SC.condF rfl ?_
        refine SC.exit ?_
        refine SE.then_ (by intro h; cases h) ?_
        refine SE.then_ (by intro h; cases h) ?_
        refine SE.exit ?_
        refine SE.seq ?_
        refine SC.seq ?_
        have hzz : (z.2.1, z.1) = Rd.rchgPts l := by
          unfold Rd.rchgPts
          rw [← hz.2.2]
          first
            | (rw [show z.2.2.1 = 0 by omega]; rfl)
            | exact (rpnts_stop (by simpa using hc40) _).symm
        have hzA := congrArg Prod.fst hzz
        have hzS := congrArg Prod.snd hzz
        dsimp only at hzA hzS
        refine SC.freezeC [] 2 rfl (by repeat (first | assumption | exact Upd.here | apply Upd.there)) rfl ?_
        rw [hzA, hzS]
        have w1 := rpnts_left ((Rd.chgHead l).countN 4) ((Rd.chgHead l).count 4) []
        have w2 : (Rd.rchgPts l).2.l.length ≤ l.length := by unfold Rd.rchgPts; unfold Rd.chgHead at w1 ⊢; omega
        have w3 := rprfs_left ((Rd.rchgPts l).2.countN 8) ((Rd.rchgPts l).2.count 8) [] true
        have w4 := Rd.count_length (Rd.rchgPts l).2 8
        have w5 : (Rd.rchgPre l).2.2.l.length ≤ l.length := by unfold Rd.rchgPre; omega
        have w6 := rprfs_left ((Rd.rchgPre l).2.2.countN 64) ((Rd.rchgPre l).2.2.count 64) [] true
        have w7 := Rd.countN_lt (Rd.rchgPts l).2 8
        have w8 := Rd.countN_lt (Rd.rchgPre l).2.2 64
        have w9 := Rd.count_length (Rd.rchgPre l).2.2 64
        have hg3 : (Rd.rchg l).points.length < 9223372036854775807 := by
          show (Rd.rchgPts l).1.length < _
          have := w1.1
          rw [List.length_nil] at this
          unfold Rd.rchgPts; omega
        have hg1 : Long (Rd.rchg l).prepared := by
          refine ⟨by
            show (Rd.rchgPre l).1.length < _
            have := w3.1
            rw [List.length_nil] at this
            unfold Rd.rchgPre; omega, ?_⟩
          exact rprfs_all (fun p => p.batch.length ≤ 1000000) (B := 3000) (fun a b l h => ens_few l) _ _ _ _ (by omega) (by simp)
        have hg2 : Long (Rd.rchg l).proposed := by
          refine ⟨by
            show (Rd.rchgPro l).1.length < _
            have := w6.1
            rw [List.length_nil] at this
            unfold Rd.rchgPro; omega, ?_⟩
          exact rprfs_all (fun p => p.batch.length ≤ 1000000) (B := 3000) (fun a b l h => ens_few l) _ _ _ _ (by omega) (by simp)
        have hl1 : Lets (Rd.rchg l).prepared := rprfs_all (fun p => ∀ e ∈ p.batch, e.core.letter.size ≤ lots) (B := 3000) (fun a b l h => ens_lets (by omega)) _ _ _ _ (by omega) (by simp)
        have hl2 : Lets (Rd.rchg l).proposed := rprfs_all (fun p => ∀ e ∈ p.batch, e.core.letter.size ≤ lots) (B := 3000) (fun a b l h => ens_lets (by omega)) _ _ _ _ (by omega) (by simp)
        refine SC.region ?_
        refine SL.val (Val.move rfl) rfl rfl ?_
        refine SL.call (rreadp_s (s := (Rd.rchgPts l).2) (most := 8) (by omega)) Casts.refl (by kernel_rfl) rfl rfl rfl ?_
        refine After.one rfl (by repeat (first | assumption | exact List.mem_cons_self | apply List.mem_cons_of_mem)) (fun _ => rfl) ?_
        intro _
        refine ⟨_, (by repeat (first | assumption | exact Upd.here | apply Upd.there)), ?_⟩
        refine SL.val (Val.move rfl) rfl rfl ?_
        refine SL.val (Val.extract rfl rfl) rfl rfl ?_
        refine SL.val (Val.extract rfl rfl) rfl rfl ?_
        refine SL.val (Val.assign rfl) rfl rfl ?_
        refine SL.val (Val.assign rfl) rfl rfl ?_
        refine SL.nil ?_
        refine SE.seq ?_
        refine SC.seq ?_
        refine SC.region ?_
        refine SL.val (Val.move rfl) rfl rfl ?_
        refine SL.call (rreadp_s (s := (Rd.rchgPre l).2.2) (most := 64) (by omega)) Casts.refl (by kernel_rfl) rfl rfl rfl ?_
        refine After.one rfl (by repeat (first | assumption | exact List.mem_cons_self | apply List.mem_cons_of_mem)) (fun _ => rfl) ?_
        intro _
        refine ⟨_, (by repeat (first | assumption | exact Upd.here | apply Upd.there)), ?_⟩
        refine SL.val (Val.move rfl) rfl rfl ?_
        refine SL.val (Val.extract rfl rfl) rfl rfl ?_
        refine SL.val (Val.extract rfl rfl) rfl rfl ?_
        refine SL.val (Val.assign rfl) rfl rfl ?_
        refine SL.val (Val.assign rfl) rfl rfl ?_
        refine SL.nil ?_
        refine SE.seq ?_
        refine SC.seq ?_
        refine SC.region ?_
        refine SL.val (Val.move rfl) rfl rfl ?_
        refine SL.val (Val.move rfl) rfl rfl ?_
        refine SL.val (Val.fieldAddr tabOk rfl rfl rfl rfl rfl) rfl rfl ?_
        first
          | refine SL.eff (Eff.store tabOk rfl rfl rfl (by repeat (first | assumption | exact Upd.here | apply Upd.there)) (by rfl) (Nat.le_of_ble_eq_true (by rfl)) (by rfl) (by rfl)) rfl rfl ?_
          | refine SL.eff (Eff.storeOwn tabOk rfl rfl rfl rfl (by repeat (first | assumption | exact List.mem_cons_self | apply List.mem_cons_of_mem)) (by repeat (first | assumption | exact Upd.here | apply Upd.there)) rfl (by rfl)) rfl rfl ?_
        rintro _ _ ⟨rfl, rfl⟩
        refine SL.val (Val.fieldAddr tabOk rfl rfl rfl rfl rfl) rfl rfl ?_
        first
          | refine SL.eff (Eff.store tabOk rfl rfl rfl (by repeat (first | assumption | exact Upd.here | apply Upd.there)) (by rfl) (Nat.le_of_ble_eq_true (by rfl)) (by rfl) (by rfl)) rfl rfl ?_
          | refine SL.eff (Eff.storeOwn tabOk rfl rfl rfl rfl (by repeat (first | assumption | exact List.mem_cons_self | apply List.mem_cons_of_mem)) (by repeat (first | assumption | exact Upd.here | apply Upd.there)) rfl (by rfl)) rfl rfl ?_
        rintro _ _ ⟨rfl, rfl⟩
        refine SL.nil ?_
        refine SE.seq ?_
        refine SC.seq ?_
        refine SC.seq ?_
        refine SC.region ?_
        refine SL.val (Val.move rfl) rfl rfl ?_
        refine SL.call (rend_s (s := (Rd.rchgPro l).2.2)) Casts.refl (by kernel_rfl) rfl rfl rfl ?_
        refine After.one rfl (by repeat (first | assumption | exact List.mem_cons_self | apply List.mem_cons_of_mem)) (fun _ => rfl) ?_
        intro _
        refine ⟨_, (by repeat (first | assumption | exact Upd.here | apply Upd.there)), ?_⟩
        refine SL.val (Val.neI rfl rfl) rfl rfl ?_
        refine SL.val (Val.move rfl) rfl rfl ?_
        refine SL.bothP (t := 71) rfl ?_ ?_
        · intro hc71
          refine SL.skip rfl rfl ?_
          refine SL.skip rfl rfl ?_
          refine SL.val (Val.pickT rfl rfl) rfl rfl ?_
          refine SL.val (Val.move rfl) rfl rfl ?_
          refine SL.skip rfl rfl ?_
          refine SL.skip rfl rfl ?_
          refine SL.val (Val.pickT rfl rfl) rfl rfl ?_
          refine SL.val (Val.move rfl) rfl rfl ?_
          refine SL.skip rfl rfl ?_
          refine SL.skip rfl rfl ?_
          refine SL.skip rfl rfl ?_
          refine SL.skip rfl rfl ?_
          refine SL.val (Val.pickT rfl rfl) rfl rfl ?_
          refine SL.nil ?_
          refine SE.seq ?_
          refine SC.condT rfl ?_
          refine SC.seq ?_
          refine SC.region ?_
          refine SL.val (Val.buildS tabOk rfl rfl rfl rfl) rfl rfl ?_
          refine SL.eff (Eff.store tabOk rfl rfl rfl (by repeat (first | assumption | exact Upd.here | apply Upd.there)) (by rfl) (Nat.le_of_ble_eq_true (by rfl)) (by rfl) (by rfl)) rfl rfl ?_
          rintro _ _ ⟨rfl, rfl⟩
          refine SL.val (Val.assign rfl) rfl rfl ?_
          refine SL.nil ?_
          refine SE.seq ?_
          refine SC.ret ?_
          refine SE.then_ (by intro h; cases h) ?_
          refine SE.finC (rs := [.cell 4 80, .tmp 5]) rfl (RV.cell rfl (RV.cellA tabOk rfl rfl (by first | (apply Or.inl; (repeat (first | assumption | exact List.mem_cons_self | apply List.mem_cons_of_mem)); done) | (apply Or.inr; (repeat (first | assumption | exact List.mem_cons_self | apply List.mem_cons_of_mem)); done)) (by rfl)) (RV.tmp rfl RV.nil)) (Casts.cons (cast_agg (Casts.keep (Casts.keep (Casts.nils (s := 33) (Casts.nils (s := 3) (Casts.nils (s := 3) Casts.refl)))))) Casts.refl) (()) (by repeat (first | exact List.nil_sublist _ | exact List.Sublist.refl _ | apply List.Sublist.cons_cons | apply List.Sublist.cons)) (by simp [It.rids]) ?_
          have e : rparseC l n = (Chg.zero, 2) := by
            unfold rparseC
            rw [if_neg (by omega), if_pos (by
              first
                | exact .inl (by assumption)
                | exact .inr (.inl (by have h8 := hc75; simp at h8; exact h8))
                | exact .inr (.inr (.inl (by have h8 := hc79; simp at h8; exact h8)))
                | exact .inr (.inr (.inr (by have h8 := hc84; simp at h8; exact h8))))]
          rw [e]
          rfl
        · intro hc71
          refine SL.val (Val.move rfl) rfl rfl ?_
          refine SL.val (Val.notB rfl) rfl rfl ?_
          refine SL.val (Val.pickF rfl rfl) rfl rfl ?_
          refine SL.val (Val.move rfl) rfl rfl ?_
          refine SL.both (t := 75) rfl ?_ ?_
          · intro hc75
            refine SL.skip rfl rfl ?_
            refine SL.skip rfl rfl ?_
            refine SL.val (Val.pickT rfl rfl) rfl rfl ?_
            refine SL.val (Val.move rfl) rfl rfl ?_
            refine SL.skip rfl rfl ?_
            refine SL.skip rfl rfl ?_
            refine SL.skip rfl rfl ?_
            refine SL.skip rfl rfl ?_
            refine SL.val (Val.pickT rfl rfl) rfl rfl ?_
            refine SL.nil ?_
            refine SE.seq ?_
            refine SC.condT rfl ?_
            refine SC.seq ?_
            refine SC.region ?_
            refine SL.val (Val.buildS tabOk rfl rfl rfl rfl) rfl rfl ?_
            refine SL.eff (Eff.store tabOk rfl rfl rfl (by repeat (first | assumption | exact Upd.here | apply Upd.there)) (by rfl) (Nat.le_of_ble_eq_true (by rfl)) (by rfl) (by rfl)) rfl rfl ?_
            rintro _ _ ⟨rfl, rfl⟩
            refine SL.val (Val.assign rfl) rfl rfl ?_
            refine SL.nil ?_
            refine SE.seq ?_
            refine SC.ret ?_
            refine SE.then_ (by intro h; cases h) ?_
            refine SE.finC (rs := [.cell 4 80, .tmp 5]) rfl (RV.cell rfl (RV.cellA tabOk rfl rfl (by first | (apply Or.inl; (repeat (first | assumption | exact List.mem_cons_self | apply List.mem_cons_of_mem)); done) | (apply Or.inr; (repeat (first | assumption | exact List.mem_cons_self | apply List.mem_cons_of_mem)); done)) (by rfl)) (RV.tmp rfl RV.nil)) (Casts.cons (cast_agg (Casts.keep (Casts.keep (Casts.nils (s := 33) (Casts.nils (s := 3) (Casts.nils (s := 3) Casts.refl)))))) Casts.refl) (()) (by repeat (first | exact List.nil_sublist _ | exact List.Sublist.refl _ | apply List.Sublist.cons_cons | apply List.Sublist.cons)) (by simp [It.rids]) ?_
            have e : rparseC l n = (Chg.zero, 2) := by
              unfold rparseC
              rw [if_neg (by omega), if_pos (by
                first
                  | exact .inl (by assumption)
                  | exact .inr (.inl (by have h8 := hc75; simp at h8; exact h8))
                  | exact .inr (.inr (.inl (by have h8 := hc79; simp at h8; exact h8)))
                  | exact .inr (.inr (.inr (by have h8 := hc84; simp at h8; exact h8))))]
            rw [e]
            rfl
          · intro hc75
            refine SL.val (Val.move rfl) rfl rfl ?_
            refine SL.val (Val.notB rfl) rfl rfl ?_
            refine SL.val (Val.pickF rfl rfl) rfl rfl ?_
            refine SL.val (Val.move rfl) rfl rfl ?_
            refine SL.both (t := 79) rfl ?_ ?_
            · intro hc79
              refine SL.skip rfl rfl ?_
              refine SL.skip rfl rfl ?_
              refine SL.skip rfl rfl ?_
              refine SL.skip rfl rfl ?_
              refine SL.val (Val.pickT rfl rfl) rfl rfl ?_
              refine SL.nil ?_
              refine SE.seq ?_
              refine SC.condT rfl ?_
              refine SC.seq ?_
              refine SC.region ?_
              refine SL.val (Val.buildS tabOk rfl rfl rfl rfl) rfl rfl ?_
              refine SL.eff (Eff.store tabOk rfl rfl rfl (by repeat (first | assumption | exact Upd.here | apply Upd.there)) (by rfl) (Nat.le_of_ble_eq_true (by rfl)) (by rfl) (by rfl)) rfl rfl ?_
              rintro _ _ ⟨rfl, rfl⟩
              refine SL.val (Val.assign rfl) rfl rfl ?_
              refine SL.nil ?_
              refine SE.seq ?_
              refine SC.ret ?_
              refine SE.then_ (by intro h; cases h) ?_
              refine SE.finC (rs := [.cell 4 80, .tmp 5]) rfl (RV.cell rfl (RV.cellA tabOk rfl rfl (by first | (apply Or.inl; (repeat (first | assumption | exact List.mem_cons_self | apply List.mem_cons_of_mem)); done) | (apply Or.inr; (repeat (first | assumption | exact List.mem_cons_self | apply List.mem_cons_of_mem)); done)) (by rfl)) (RV.tmp rfl RV.nil)) (Casts.cons (cast_agg (Casts.keep (Casts.keep (Casts.nils (s := 33) (Casts.nils (s := 3) (Casts.nils (s := 3) Casts.refl)))))) Casts.refl) (()) (by repeat (first | exact List.nil_sublist _ | exact List.Sublist.refl _ | apply List.Sublist.cons_cons | apply List.Sublist.cons)) (by simp [It.rids]) ?_
              have e : rparseC l n = (Chg.zero, 2) := by
                unfold rparseC
                rw [if_neg (by omega), if_pos (by
                  first
                    | exact .inl (by assumption)
                    | exact .inr (.inl (by have h8 := hc75; simp at h8; exact h8))
                    | exact .inr (.inr (.inl (by have h8 := hc79; simp at h8; exact h8)))
                    | exact .inr (.inr (.inr (by have h8 := hc84; simp at h8; exact h8))))]
              rw [e]
              rfl
            · intro hc79
              first
                | refine SL.val (Val.loadA tabOk rfl rfl rfl (by first | (apply Or.inl; (repeat (first | assumption | exact List.mem_cons_self | apply List.mem_cons_of_mem)); done) | (apply Or.inr; (repeat (first | assumption | exact List.mem_cons_self | apply List.mem_cons_of_mem)); done)) List.not_mem_nil (by rfl)) rfl rfl ?_
                | refine SL.val (Val.loadP tabOk rfl rfl rfl (by first | (apply Or.inl; (repeat (first | assumption | exact List.mem_cons_self | apply List.mem_cons_of_mem)); done) | (apply Or.inr; (repeat (first | assumption | exact List.mem_cons_self | apply List.mem_cons_of_mem)); done)) List.not_mem_nil (Nat.le_of_ble_eq_true (by rfl))) rfl rfl ?_
              refine SL.val (Val.move rfl) rfl rfl ?_
              refine SL.call (right_s (c := Rd.rchg l) (n := n) hg1 hg2 hg3 hl1 hl2) Casts.refl (by kernel_rfl) rfl rfl rfl ?_
              refine After.pure (by repeat (first | exact Reads.nil | refine Reads.blk (by repeat (first | assumption | exact List.mem_cons_self | apply List.mem_cons_of_mem)) ?_ | refine Reads.rd (by repeat (first | assumption | exact List.mem_cons_self | apply List.mem_cons_of_mem)) ?_ | refine Reads.pc (by repeat (first | assumption | exact List.mem_cons_self | apply List.mem_cons_of_mem)) ?_ | refine Reads.rdpc (by repeat (first | assumption | exact List.mem_cons_self | apply List.mem_cons_of_mem)) ?_)) (fun _ => rfl) ?_
              intro _
              refine SL.val (Val.notB rfl) rfl rfl ?_
              refine SL.val (Val.pickF rfl rfl) rfl rfl ?_
              refine SL.nil ?_
              refine SE.seq ?_
              refine SC.cond rfl ?_ ?_
              · intro hc84
                refine SC.seq ?_
                refine SC.region ?_
                refine SL.val (Val.buildS tabOk rfl rfl rfl rfl) rfl rfl ?_
                refine SL.eff (Eff.store tabOk rfl rfl rfl (by repeat (first | assumption | exact Upd.here | apply Upd.there)) (by rfl) (Nat.le_of_ble_eq_true (by rfl)) (by rfl) (by rfl)) rfl rfl ?_
                rintro _ _ ⟨rfl, rfl⟩
                refine SL.val (Val.assign rfl) rfl rfl ?_
                refine SL.nil ?_
                refine SE.seq ?_
                refine SC.ret ?_
                refine SE.then_ (by intro h; cases h) ?_
                refine SE.finC (rs := [.cell 4 80, .tmp 5]) rfl (RV.cell rfl (RV.cellA tabOk rfl rfl (by first | (apply Or.inl; (repeat (first | assumption | exact List.mem_cons_self | apply List.mem_cons_of_mem)); done) | (apply Or.inr; (repeat (first | assumption | exact List.mem_cons_self | apply List.mem_cons_of_mem)); done)) (by rfl)) (RV.tmp rfl RV.nil)) (Casts.cons (cast_agg (Casts.keep (Casts.keep (Casts.nils (s := 33) (Casts.nils (s := 3) (Casts.nils (s := 3) Casts.refl)))))) Casts.refl) (()) (by repeat (first | exact List.nil_sublist _ | exact List.Sublist.refl _ | apply List.Sublist.cons_cons | apply List.Sublist.cons)) (by simp [It.rids]) ?_
                have e : rparseC l n = (Chg.zero, 2) := by
                  unfold rparseC
                  rw [if_neg (by omega), if_pos (by
                    first
                      | exact .inl (by assumption)
                      | exact .inr (.inl (by have h8 := hc75; simp at h8; exact h8))
                      | exact .inr (.inr (.inl (by have h8 := hc79; simp at h8; exact h8)))
                      | exact .inr (.inr (.inr (by have h8 := hc84; simp at h8; exact h8))))]
                rw [e]
                rfl
              · intro hc84
                refine SC.skip ?_
                refine SE.seq ?_
                refine SC.seq ?_
                refine SC.region ?_
                first
                  | refine SL.val (Val.loadA tabOk rfl rfl rfl (by first | (apply Or.inl; (repeat (first | assumption | exact List.mem_cons_self | apply List.mem_cons_of_mem)); done) | (apply Or.inr; (repeat (first | assumption | exact List.mem_cons_self | apply List.mem_cons_of_mem)); done)) List.not_mem_nil (by rfl)) rfl rfl ?_
                  | refine SL.val (Val.loadP tabOk rfl rfl rfl (by first | (apply Or.inl; (repeat (first | assumption | exact List.mem_cons_self | apply List.mem_cons_of_mem)); done) | (apply Or.inr; (repeat (first | assumption | exact List.mem_cons_self | apply List.mem_cons_of_mem)); done)) List.not_mem_nil (Nat.le_of_ble_eq_true (by rfl))) rfl rfl ?_
                refine SL.eff (Eff.store tabOk rfl rfl rfl (by repeat (first | assumption | exact Upd.here | apply Upd.there)) (by rfl) (Nat.le_of_ble_eq_true (by rfl)) (by rfl) (by rfl)) rfl rfl ?_
                rintro _ _ ⟨rfl, rfl⟩
                refine SL.val (Val.assign rfl) rfl rfl ?_
                refine SL.nil ?_
                refine SE.seq ?_
                refine SC.ret ?_
                refine SE.fin (rs := [.cell 4 80, .tmp 5]) rfl (RV.cell rfl (RV.cellA tabOk rfl rfl (by first | (apply Or.inl; (repeat (first | assumption | exact List.mem_cons_self | apply List.mem_cons_of_mem)); done) | (apply Or.inr; (repeat (first | assumption | exact List.mem_cons_self | apply List.mem_cons_of_mem)); done)) (by rfl)) (RV.tmp rfl RV.nil)) (()) (by repeat (first | exact List.nil_sublist _ | exact List.Sublist.refl _ | apply List.Sublist.cons_cons | apply List.Sublist.cons)) (by simp [It.rids]) ?_
                have e : rparseC l n = (Rd.rchg l, 0) := by
                  unfold rparseC
                  rw [if_neg (by omega), if_neg (by
                    intro h
                    rcases h with h | h | h | h
                    · exact hc71 h
                    · have h8 : (Rd.rchgPre l).2.1 = true := by have h9 := hc75; simp at h9; exact h9
                      exact Bool.noConfusion (h.symm.trans h8)
                    · have h8 : (Rd.rchgPro l).2.1 = true := by have h9 := hc79; simp at h9; exact h9
                      exact Bool.noConfusion (h.symm.trans h8)
                    · have h8 : yes ((Rd.rchg l).Right n) = true := by have h9 := hc84; simp at h9; exact h9
                      exact Bool.noConfusion (h.symm.trans h8))]
                rw [e]
                rfl
end
end Go.Proofs.Ytdbeinbgekdnmaa.A
/-
  Batches, in plain Lean: what is written reads back.
-/
set_option maxRecDepth 100000
namespace Go.Proofs.Ytdbeinbgekdnmaa
open Go.RowKit

/-- A reader that has not failed, ahead of these bytes. -/
def Rd.At (s : Rd) (l : List UInt8) : Prop := s.e = 0 ∧ s.l = l
theorem at_fixed {s : Rd} {x r : List UInt8} (h : s.At (x ++ r)) {n : Int} (hn : n = x.length) : (s.fixed n).At r ∧ s.out n = x := by
  obtain ⟨h1, h2⟩ := h
  have hb : ¬ s.bad n := by
    unfold Rd.bad
    rw [h2, List.length_append]
    omega
  have ht : n.toNat = x.length := by omega
  unfold Rd.At Rd.fixed Rd.out
  simp only [h1, ne_eq, not_true_eq_false, if_false, hb, h2, ht]
  simp
theorem at_num {s : Rd} {r : List UInt8} {v k : Nat} (h : s.At (beBytes v k ++ r)) (hv : v < 256 ^ k) {n : Int} (hn : n = k) : (s.fixed n).At r ∧ s.num n = v := by
  obtain ⟨h1, h2⟩ := at_fixed h (n := n) (by rw [beBytes_length]; exact hn)
  exact ⟨h1, by rw [Rd.num, h2, beVal_be v k hv]⟩
theorem at_row {s : Rd} {x r : List UInt8} {most : Int} (h : s.At (rowB x ++ r)) (hx : x.length ≤ most) (hx2 : x.length < 4294967296) : (s.row most).At r ∧ s.rowOut most = x := by
  unfold rowB at h
  rw [List.append_assoc] at h
  obtain ⟨h1, h2⟩ := at_num h (by omega) (n := 4) rfl
  obtain ⟨h3, h4⟩ := at_fixed h1 (n := s.num 4) (by rw [h2])
  have hm : ¬ most < s.num 4 := by rw [h2]; omega
  unfold Rd.row Rd.rowOut
  simp only [h1.1, ne_eq, not_true_eq_false, if_false, hm]
  exact ⟨h3, h4⟩
theorem sg_u64 {a : Int} (h : InR .i64 a) : sg (u64 a) = a := by
  obtain ⟨h1, h2⟩ := h
  simp only [lo, hi] at h1 h2
  unfold sg u64
  simp [IntKind.wrap, IntKind.bits, IntKind.signed]
  split <;> omega
theorem u64_nat {a : Int} (h : 0 ≤ a) (h2 : a < 18446744073709551616) : ((u64 a : Nat) : Int) = a := by
  unfold u64
  omega
theorem txtB_bytes (b : ByteArray) : txtB b.data.toList = b := by
  unfold txtB
  simp
/-- A core that may be written and read. -/
structure Core.Back (c : Core) : Prop where
  client : 0 ≤ c.client ∧ c.client < 256
  stamp : InR .i64 c.stamp
  op : 0 ≤ c.op ∧ c.op < 256
  a : InR .i64 c.a
  b : InR .i64 c.b
theorem at_core {s : Rd} {c : Core} {most : Int} (h : s.At c.bytes) (hc : c.Back) (hl : (c.bytes.length : Int) ≤ most) (hl2 : c.bytes.length < 4294967296) : (s.coreEnd most).At [] ∧ s.core most = c := by
  have e1 : c.letter.data.toList.length = c.letter.size := by simp
  have e2 : c.text.data.toList.length = c.text.size := by simp
  have hlen := Core.bytes_length c
  unfold Core.bytes at h
  simp only [List.append_assoc] at h
  have u1 := u64_nat hc.client.1 (by have := hc.client.2; omega)
  have u2 := u64_nat hc.op.1 (by have := hc.op.2; omega)
  have g1 := hc.client.2
  have g2 := hc.op.2
  obtain ⟨a1, b1⟩ := at_num h (by omega) (n := 1) rfl
  obtain ⟨a2, b2⟩ := at_num a1 (by have := u64_lt c.stamp; omega) (n := 8) rfl
  obtain ⟨a3, b3⟩ := at_num a2 (by omega) (n := 1) rfl
  obtain ⟨a4, b4⟩ := at_row (most := most) a3 (by omega) (by omega)
  obtain ⟨a5, b5⟩ := at_num a4 (by have := u64_lt c.a; omega) (n := 8) rfl
  obtain ⟨a6, b6⟩ := at_num a5 (by have := u64_lt c.b; omega) (n := 8) rfl
  rw [← List.append_nil (rowB c.text.data.toList)] at a6
  obtain ⟨a7, b7⟩ := at_row (most := most) a6 (by omega) (by omega)
  refine ⟨a7, ?_⟩
  unfold Rd.core
  unfold Rd.c6 Rd.c4 Rd.c3
  rw [b1, b2, b3, b4, b5, b6, b7, u1, u2, sg_u64 hc.stamp, sg_u64 hc.a, sg_u64 hc.b, txtB_bytes, txtB_bytes]
/-- An entry that may be written and read. -/
structure Ent.Back (e : Ent) : Prop where
  core : e.core.Back
  mask : e.mask < 256
  len : e.core.bytes.length ≤ 100000
theorem ents_back {L : Int} : ∀ (es : List Ent) (s : Rd) (acc : List Ent), (∀ e ∈ es, e.Back ∧ (e.core.bytes.length : Int) ≤ L) → s.At (es.flatMap Ent.bytes) → ∃ t : Rd, t.At [] ∧ s.ents L es.length acc = some (acc ++ es, t)
  | [], s, acc, _, h => ⟨s, h, by simp [Rd.ents]⟩
  | e :: es, s, acc, hall, h => by
    obtain ⟨he, hL⟩ := hall e List.mem_cons_self
    have hlen := he.len
    rw [List.flatMap_cons, Ent.bytes, List.append_assoc] at h
    obtain ⟨a1, b1⟩ := at_row (most := L) h hL (by omega)
    obtain ⟨a2, b2⟩ := at_num a1 (by have := he.mask; omega) (n := 1) rfl
    obtain ⟨c1, c2⟩ := at_core (s := Rd.of e.core.bytes) (c := e.core) (most := (e.core.bytes.length : Nat)) ⟨rfl, rfl⟩ he.core (Int.le_refl _) (by omega)
    have hok : okOf e.core.bytes (e.core.bytes.length : Nat) = true := by
      refine decide_eq_true ?_
      unfold Rd.end_
      rw [c1.1, c1.2]
      simp
    have hco : coreOf e.core.bytes (e.core.bytes.length : Nat) = e.core := c2
    obtain ⟨t, ht, hr⟩ := ents_back es ((s.row L).fixed 1) (acc ++ [e]) (fun x hx => hall x (List.mem_cons_of_mem _ hx)) a2
    refine ⟨t, ht, ?_⟩
    rw [List.length_cons]
    simp only [Rd.ents]
    rw [b1, hok, if_neg (by decide), hco, b2]
    rw [List.append_assoc] at hr
    exact hr
theorem of_if {b : Bool} {r : Int} (h : (if b = true then (15 : Int) else r) = 0) : r = 0 := by
  cases b with
  | false => simpa using h
  | true => simp at h
theorem chkL_all {n : Int} : ∀ (es : List Ent) (p : Option Int), chkL n p es = 0 → ∀ e ∈ es, e.core.check n = 0 ∧ e.mask < 2 ^ n.toNat
  | [], _, _ => by simp
  | e :: es, p, h => by
    simp only [chkL] at h
    split at h
    · rename_i h1; exact absurd h h1
    · rename_i h1
      split at h
      · exact absurd h (by decide)
      · rename_i h2
        intro x hx
        rcases List.mem_cons.1 hx with rfl | hx
        · exact ⟨Decidable.not_not.1 h1, by omega⟩
        · exact chkL_all es _ (of_if h) x hx
theorem check_ok {c : Core} {n : Int} (h : c.check n = 0) : 1 ≤ n ∧ n ≤ 7 ∧ n ≤ c.client ∧ c.client < n + 4 ∧ 1 ≤ c.stamp ∧ c.stamp ≤ 1099511627776 ∧ 1 ≤ c.op ∧ c.op ≤ 9 ∧ nameB c.letter = true ∧ c.text.size ≤ 200 := by
  unfold Core.check at h
  split at h
  · exact absurd h (by decide)
  · split at h
    · exact absurd h (by decide)
    · split at h
      · exact absurd h (by decide)
      · split at h
        · exact absurd h (by decide)
        · split at h
          · exact absurd h (by decide)
          · rename_i h4 _
            rw [Bool.not_eq_false] at h4
            exact ⟨by omega, by omega, by omega, by omega, by omega, by omega, by omega, by omega, h4, by omega⟩
/-- What may be a batch reads back. -/
theorem parse_back {es : List Ent} {n : Int} (hs : ∀ e ∈ es, e.Lits) (h : chkB es n = 0) : parseS (batchB es) n = (es, 0) := by
  have h0 := h
  unfold chkB at h
  split at h
  · exact absurd h (by decide)
  · rename_i hn
    split at h
    · exact absurd h (by decide)
    · rename_i hlen
      have hall := chkL_all es none h
      have hback : ∀ e ∈ es, e.Back ∧ (e.core.bytes.length : Int) ≤ ((batchB es).length : Nat) := fun e he => by
        obtain ⟨k1, k2⟩ := hall e he
        obtain ⟨g1, g2, g3, g4, g5, g6, g7, g8, g9, g10⟩ := check_ok k1
        have hl := hs e he
        have hsz : e.core.letter.size ≤ 16 := by
          unfold nameB at g9
          simp only [Bool.and_eq_true, decide_eq_true_eq] at g9
          exact g9.2
        have hm : e.mask < 128 + 1 := by
          have : 2 ^ n.toNat ≤ 2 ^ 7 := Nat.pow_le_pow_right (by decide) (by omega)
          omega
        have hlen2 := Core.bytes_length e.core
        refine ⟨⟨⟨⟨by omega, by omega⟩, hl.stamp, ⟨by omega, by omega⟩, hl.a, hl.b⟩, by omega, by omega⟩, ?_⟩
        have : e.bytes.length ≤ (es.flatMap Ent.bytes).length := by
          obtain ⟨s1, s2, rfl⟩ := List.append_of_mem he
          simp only [List.flatMap_append, List.flatMap_cons, List.length_append]
          omega
        have h7 : e.core.bytes.length ≤ e.bytes.length := by
          unfold Ent.bytes rowB
          simp only [List.length_append]
          omega
        unfold batchB
        rw [List.length_append]
        omega
      have hat : (Rd.of (batchB es)).At (beBytes es.length 2 ++ es.flatMap Ent.bytes) := ⟨rfl, rfl⟩
      obtain ⟨a1, b1⟩ := at_num hat (by omega) (n := 2) rfl
      obtain ⟨t, ht, hr⟩ := ents_back (L := ((batchB es).length : Nat)) es ((Rd.of (batchB es)).fixed 2) [] hback a1
      have hmany : manyOf (batchB es) = es.length := by
        unfold manyOf
        rw [b1]
        have : es.length ≤ (batchB es).length + 1 := by
          have : es.length ≤ (es.flatMap Ent.bytes).length := by
            clear h h0 hlen hall hback hat a1 b1 ht hr hs
            induction es with
            | nil => simp
            | cons e es ih =>
              rw [List.flatMap_cons, List.length_append, List.length_cons]
              have : 1 ≤ e.bytes.length := by
                unfold Ent.bytes
                rw [List.length_append, beBytes_length]
                omega
              omega
          unfold batchB
          rw [List.length_append]
          omega
        omega
      have hend : t.end_ = 0 := by
        unfold Rd.end_
        rw [ht.1, ht.2]
        simp
      unfold parseS
      rw [hmany, hr]
      simp only [parse2, List.nil_append]
      rw [if_neg (by simp [hend]), if_neg (by simp [h0])]
end Go.Proofs.Ytdbeinbgekdnmaa
/-
  Changes, in plain Lean: what is written reads back; the program's Parse answers as the document's.
-/
set_option maxRecDepth 100000
set_option linter.unusedSimpArgs false
set_option linter.unusedVariables false
namespace Go.Proofs.Ytdbeinbgekdnmaa.A
open Go.RowKit

/-! ### What is written reads back -/
structure Prf.Lits (p : Prf) : Prop where
  seq : InR .i64 p.seq
  view : InR .i64 p.view
  all : ∀ e ∈ p.batch, e.Lits
structure Chg.Lits (c : Chg) : Prop where
  view : InR .i64 c.view
  low : InR .i64 c.low
  pts : ∀ p ∈ c.points, InR .i64 p.seq
  prep : ∀ p ∈ c.prepared, p.Lits
  prop : ∀ p ∈ c.proposed, p.Lits
theorem at_count {s : Rd} {r : List UInt8} {k : Nat} {most : Int} (h : s.At (beBytes k 2 ++ r)) (hk : k < 65536) (hm : (k : Int) ≤ most) : (s.count most).At r ∧ s.countN most = k := by
  obtain ⟨h1, h2⟩ := at_num h (by omega) (n := 2) rfl
  have h3 : ¬ ((s.fixed 2).e = 0 ∧ most < s.num 2) := by rw [h2]; omega
  unfold Rd.count Rd.countN
  rw [if_neg h3, if_neg h3]
  exact ⟨h1, h2⟩
theorem u64_lt8 (a : Int) : u64 a < 256 ^ 8 := by
  have := u64_lt a
  omega
theorem Pnt.mk_self (p : Pnt) : Pnt.mk' p.seq p.dig = p := by
  obtain ⟨a, d, h⟩ := p
  simp only [Pnt.mk', Pnt.mk.injEq, true_and]
  exact pad_all h
theorem pnts_back {r : List UInt8} : ∀ (ps : List Pnt) (s : Rd) (acc : List Pnt), (∀ p ∈ ps, InR .i64 p.seq) → s.At (ps.flatMap Pnt.bytes ++ r) → ∃ t : Rd, t.At r ∧ Rd.pnts ps.length s acc = (acc ++ ps, t)
  | [], s, acc, _, h => ⟨s, h, by simp [Rd.pnts]⟩
  | p :: ps, s, acc, hall, h => by
    have e1 : (p :: ps).flatMap Pnt.bytes ++ r = beBytes (u64 p.seq) 8 ++ (p.dig ++ (ps.flatMap Pnt.bytes ++ r)) := by simp [Pnt.bytes, long8]
    rw [e1] at h
    obtain ⟨a1, b1⟩ := at_num h (u64_lt8 _) (n := 8) rfl
    obtain ⟨a2, b2⟩ := at_fixed a1 (n := 32) (by rw [p.len]; rfl)
    obtain ⟨t, ht, hr⟩ := pnts_back ps ((s.fixed 8).fixed 32) (acc ++ [p]) (fun x hx => hall x (List.mem_cons_of_mem _ hx)) a2
    refine ⟨t, ht, ?_⟩
    rw [List.length_cons]
    unfold Rd.pnts
    rw [b1, b2, sg_u64 (hall p List.mem_cons_self), Pnt.mk_self, hr]
    simp
theorem prfs_back {n room : Int} {r : List UInt8} : ∀ (ps : List Prf) (s : Rd) (acc : List Prf), (∀ p ∈ ps, p.Lits ∧ chkB p.batch n = 0 ∧ ((batchB p.batch).length : Int) ≤ room ∧ (batchB p.batch).length < 4294967296) → s.At (ps.flatMap Prf.bytes ++ r) →
    ∃ t : Rd, t.At r ∧ Rd.prfs n room ps.length s acc false = (acc ++ ps, false, t)
  | [], s, acc, _, h => ⟨s, h, by simp [Rd.prfs]⟩
  | p :: ps, s, acc, hall, h => by
    obtain ⟨g1, g2, g3, g4⟩ := hall p List.mem_cons_self
    have e1 : (p :: ps).flatMap Prf.bytes ++ r = beBytes (u64 p.seq) 8 ++ (beBytes (u64 p.view) 8 ++ (rowB (batchB p.batch) ++ (ps.flatMap Prf.bytes ++ r))) := by simp [Prf.bytes, long8]
    rw [e1] at h
    obtain ⟨a1, b1⟩ := at_num h (u64_lt8 _) (n := 8) rfl
    obtain ⟨a2, b2⟩ := at_num a1 (u64_lt8 _) (n := 8) rfl
    obtain ⟨a3, b3⟩ := at_row (most := room) a2 g3 g4
    obtain ⟨t, ht, hr⟩ := prfs_back ps ((Rd.pr2 s).row room) (acc ++ [p]) (fun x hx => hall x (List.mem_cons_of_mem _ hx)) a3
    refine ⟨t, ht, ?_⟩
    have b3' : Rd.prOut s room = batchB p.batch := b3
    have b2' : (Rd.pr1 s).num 8 = u64 p.view := b2
    rw [List.length_cons]
    unfold Rd.prfs
    rw [b1, b2', b3', parse_back g1.all g2, sg_u64 g1.seq, sg_u64 g1.view]
    have e2 : (⟨p.seq, p.view, p.batch⟩ : Prf) = p := rfl
    simp only [e2]
    rw [show (false || decide ((0 : Int) ≠ 0)) = false from rfl, hr]
    simp
theorem flat_le {α : Type} {f : α → List UInt8} {xs : List α} {x : α} (h : x ∈ xs) : (f x).length ≤ (xs.flatMap f).length := by
  obtain ⟨s1, s2, rfl⟩ := List.append_of_mem h
  simp only [List.flatMap_append, List.flatMap_cons, List.length_append]
  omega
theorem Prf.batch_le (p : Prf) : (batchB p.batch).length ≤ p.bytes.length := by
  unfold Prf.bytes rowB
  simp only [List.length_append]
  omega
theorem check_zero {c : Chg} {n : Int} (h : c.check n = 0) : ¬ (n < 1 ∨ 7 < n) ∧ c.Right n := by
  unfold Chg.check at h
  split at h
  · exact absurd h (by decide)
  · rename_i h1
    refine ⟨h1, ?_⟩
    cases h2 : yes (c.Right n) with
    | true => exact yes_iff.1 h2
    | false => rw [h2] at h; exact absurd h (by decide)
/-- What may be a change reads back. -/
theorem chg_back {c : Chg} {n : Int} (hs : c.Lits) (h : c.check n = 0) (hl : c.bytes.length < 4294967296) : parseC c.bytes n = (c, 0) := by
  obtain ⟨hn, hr⟩ := check_zero h
  obtain ⟨r1, r2, r3, ⟨r4, r5, r6, r7, r8⟩, ⟨r9, r10, r11⟩, ⟨r12, r13, r14⟩⟩ := hr
  have e0 : c.bytes = beBytes (u64 c.view) 8 ++ (beBytes (u64 c.low) 8 ++ (beBytes c.points.length 2 ++ (c.points.flatMap Pnt.bytes ++ (beBytes c.prepared.length 2 ++ (c.prepared.flatMap Prf.bytes ++ (beBytes c.proposed.length 2 ++ (c.proposed.flatMap Prf.bytes ++ []))))))) := by
    unfold Chg.bytes Chg.head prfsB
    rw [List.take_length]
    simp [long8]
  have hall : ∀ ps : List Prf, (∀ p ∈ ps, p.Lits) → (∀ p ∈ ps, p.fits c.low c.view n) → (ps.flatMap Prf.bytes).length ≤ c.bytes.length → ∀ p ∈ ps, p.Lits ∧ chkB p.batch n = 0 ∧ ((batchB p.batch).length : Int) ≤ (c.bytes.length : Nat) ∧ (batchB p.batch).length < 4294967296 := fun ps h1 h2 h3 p hp => by
    have h4 := p.batch_le
    have h5 := flat_le (f := Prf.bytes) hp
    exact ⟨h1 p hp, (h2 p hp).2.2.2.2, by omega, by omega⟩
  have hat : (Rd.of c.bytes).At (beBytes (u64 c.view) 8 ++ _) := ⟨rfl, e0⟩
  have hlen := congrArg List.length e0
  simp only [List.length_append] at hlen
  obtain ⟨a1, b1⟩ := at_num hat (u64_lt8 _) (n := 8) rfl
  obtain ⟨a2, b2⟩ := at_num a1 (u64_lt8 _) (n := 8) rfl
  have a2' : (Rd.chgHead c.bytes).At _ := a2
  obtain ⟨a3, b3⟩ := at_count (most := 4) a2' (by omega) (by omega)
  obtain ⟨t1, a4, b4⟩ := pnts_back c.points _ [] hs.pts a3
  have hp1 : Rd.chgPts c.bytes = (c.points, t1) := by unfold Rd.chgPts; rw [b3, b4]; rfl
  obtain ⟨a5, b5⟩ := at_count (most := 8) a4 (by omega) (by omega)
  obtain ⟨t2, a6, b6⟩ := prfs_back (n := n) (room := (c.bytes.length : Nat)) c.prepared _ [] (hall _ hs.prep r11 (by omega)) a5
  have hp2 : Rd.chgPre c.bytes n = (c.prepared, false, t2) := by unfold Rd.chgPre; rw [hp1]; dsimp only; rw [b5, b6]; rfl
  obtain ⟨a7, b7⟩ := at_count (most := 64) a6 (by omega) (by omega)
  obtain ⟨t3, a8, b8⟩ := prfs_back (n := n) (room := (c.bytes.length : Nat)) c.proposed _ [] (hall _ hs.prop r14 (by omega)) a7
  have hp3 : Rd.chgPro c.bytes n = (c.proposed, false, t3) := by unfold Rd.chgPro; rw [hp2]; dsimp only; rw [b7, b8]; rfl
  have hend : t3.end_ = 0 := by
    unfold Rd.end_
    rw [a8.1, a8.2]
    simp
  have hc : Rd.chg c.bytes n = c := by
    unfold Rd.chg
    rw [hp1, hp2, hp3, b1, b2, sg_u64 hs.view, sg_u64 hs.low]
  unfold parseC
  rw [if_neg hn, hc, hp2, hp3, if_neg (by
    intro h9
    rcases h9 with h9 | h9 | h9 | h9
    · exact h9 hend
    · cases h9
    · cases h9
    · exact h9 h)]

/-! ### Both Parses -/
theorem Rd.count_bad {s : Rd} (h : s.e ≠ 0) (m : Int) : (s.count m).e ≠ 0 := by
  unfold Rd.count
  rw [Rd.fixed_bad h, if_neg (fun h2 => h h2.1)]
  exact h
theorem pnts_bad : ∀ (k : Nat) {s : Rd} (acc : List Pnt), s.e ≠ 0 → (Rd.pnts k s acc).2.e ≠ 0
  | 0, _, _, h => h
  | k + 1, s, acc, h => by
    unfold Rd.pnts
    refine pnts_bad k _ ?_
    rw [Rd.fixed_bad h, Rd.fixed_bad h]
    exact h
theorem pnts_two : ∀ (k : Nat) (s : Rd) (acc : List Pnt), ((Rd.pnts k s acc).2.e ≠ 0 ∧ (Rd.rpnts k s acc).2.e ≠ 0) ∨ Rd.pnts k s acc = Rd.rpnts k s acc
  | 0, _, _ => .inr rfl
  | k + 1, s, acc => by
    by_cases h : s.e ≠ 0
    · refine .inl ⟨pnts_bad _ _ h, ?_⟩
      rw [rpnts_stop h]
      exact h
    · unfold Rd.pnts Rd.rpnts
      rw [if_neg h]
      exact pnts_two k _ _
theorem prfs_bad {n room : Int} : ∀ (k : Nat) {s : Rd} (acc : List Prf) (o : Bool), s.e ≠ 0 → (Rd.prfs n room k s acc o).2.2.e ≠ 0
  | 0, _, _, _, h => h
  | k + 1, s, acc, o, h => by
    unfold Rd.prfs
    refine prfs_bad k _ _ ?_
    unfold Rd.pr2
    rw [Rd.fixed_bad h, Rd.fixed_bad h, Rd.row_bad h]
    exact h
theorem prfs_odd {n room : Int} : ∀ (k : Nat) (s : Rd) (acc : List Prf), (Rd.prfs n room k s acc true).2.1 = true
  | 0, _, _ => rfl
  | k + 1, s, acc => by
    unfold Rd.prfs
    rw [Bool.true_or]
    exact prfs_odd k _ _
theorem rprfs_odd : ∀ (k : Nat) (s : Rd) (acc : List Prf), (Rd.rprfs k s acc false).2.1 = false
  | 0, _, _ => rfl
  | k + 1, s, acc => by
    unfold Rd.rprfs
    split
    · rfl
    · rw [Bool.false_and, Bool.false_and]
      exact rprfs_odd k _ _
theorem rprfs_mem {p : Prf} : ∀ (k : Nat) (s : Rd) (acc : List Prf) (o : Bool), p ∈ acc → p ∈ (Rd.rprfs k s acc o).1
  | 0, _, _, _, h => h
  | k + 1, s, acc, o, h => by
    unfold Rd.rprfs
    split
    · exact h
    · exact rprfs_mem k _ _ _ (List.mem_append_left _ h)
/-- Nothing comes of it, by the program and by the document. -/
def PB (x : List Prf × Bool × Rd) : Prop := x.2.2.e ≠ 0 ∨ x.2.1 = true
def DB (n : Int) (x : List Prf × Bool × Rd) : Prop := x.2.2.e ≠ 0 ∨ x.2.1 = false ∨ ∃ p ∈ x.1, chkB p.batch n ≠ 0
theorem prfs_two {n room : Int} (hr : room ≤ 1000000) : ∀ (k : Nat) (s : Rd) (acc : List Prf), (s.l.length : Int) ≤ room →
    (PB (Rd.prfs n room k s acc false) ∧ DB n (Rd.rprfs k s acc true)) ∨ ∃ xs t, Rd.prfs n room k s acc false = (xs, false, t) ∧ Rd.rprfs k s acc true = (xs, true, t)
  | 0, s, acc, _ => .inr ⟨acc, s, rfl, rfl⟩
  | k + 1, s, acc, hl => by
    by_cases h : s.e ≠ 0
    · refine .inl ⟨.inl (prfs_bad _ _ _ h), .inl ?_⟩
      rw [rprfs_stop h]
      exact h
    · unfold Rd.prfs Rd.rprfs
      rw [if_neg h]
      have h2 := s.fixed_length 8
      have h3 := (s.fixed 8).fixed_length 8
      have h4 := Rd.row_length (Rd.pr2 s) room
      have h5 : (Rd.prOut s room).length ≤ (Rd.pr2 s).l.length := Rd.rowOut_length _ _
      unfold Rd.pr2 at h4 h5
      rcases row_two (s := Rd.pr2 s) (L := room) (M := 1048576) (by unfold Rd.pr2; omega) (by omega) with ⟨a, b⟩ | ⟨a, b⟩
      · refine .inl ⟨.inl (prfs_bad _ _ _ a), .inl ?_⟩
        rw [rprfs_stop b]
        exact b
      · have b' : Rd.prOut s room = Rd.prOut s 1048576 := b
        rw [← a, ← b', parse_two (by omega)]
        have e1 : rparseS (Rd.prOut s room) n = rparse2 n (Rd.ens (Rd.of (Rd.prOut s room))) := rfl
        rw [e1]
        generalize Rd.ens (Rd.of (Rd.prOut s room)) = E
        unfold rparse2
        by_cases c1 : E.2.2.end_ ≠ 0 ∨ E.2.1 = false
        · rw [if_pos c1]
          have e2 : (true && E.2.1 && decide (E.2.2.end_ = 0)) = false := by
            rcases c1 with c1 | c1
            · rw [decide_eq_false c1, Bool.and_false]
            · rw [c1]; rfl
          rw [e2]
          exact .inl ⟨.inr (prfs_odd _ _ _), .inr (.inl (rprfs_odd _ _ _))⟩
        · rw [if_neg c1]
          by_cases c2 : chkB E.1 n ≠ 0
          · rw [if_pos c2]
            refine .inl ⟨.inr ?_, .inr (.inr ⟨_, rprfs_mem _ _ _ _ (List.mem_append_right _ (List.mem_singleton.2 rfl)), c2⟩)⟩
            dsimp only
            rw [Bool.false_or, decide_eq_true c2]
            exact prfs_odd _ _ _
          · rw [if_neg c2]
            have e2 : (true && E.2.1 && decide (E.2.2.end_ = 0)) = true := by
              have d1 : E.2.2.end_ = 0 := Decidable.not_not.1 fun h9 => c1 (.inl h9)
              have d2 : E.2.1 = true := by
                cases h9 : E.2.1 with
                | true => rfl
                | false => exact absurd (.inr h9) c1
              rw [d1, d2]; rfl
            rw [e2]
            exact prfs_two hr k _ _ (by unfold Rd.pr2; omega)
theorem right_bad {c : Chg} {n : Int} (h : (∃ p ∈ c.prepared, chkB p.batch n ≠ 0) ∨ ∃ p ∈ c.proposed, chkB p.batch n ≠ 0) : yes (c.Right n) = false := no_iff.2 fun hr => by
  obtain ⟨r1, r2, r3, r4, ⟨r9, r10, r11⟩, ⟨r12, r13, r14⟩⟩ := hr
  rcases h with ⟨p, hp, h⟩ | ⟨p, hp, h⟩
  · exact h (r11 p hp).2.2.2.2
  · exact h (r14 p hp).2.2.2.2
/-- The program's Parse and the document's answer alike. -/
theorem chg_two {l : List UInt8} {n : Int} (hl : l.length ≤ 1000000) : parseC l n = rparseC l n := by
  unfold parseC rparseC
  by_cases hn : n < 1 ∨ 7 < n
  · rw [if_pos hn, if_pos hn]
  · rw [if_neg hn, if_neg hn]
    have hof : (Rd.of l).l = l := rfl
    have q1 := (Rd.of l).fixed_length 8
    have q2 := ((Rd.of l).fixed 8).fixed_length 8
    have q3 := Rd.count_length (Rd.chgHead l) 4
    unfold Rd.chgHead at q3
    rw [hof] at q1
    have w1 := pnts_left ((Rd.chgHead l).countN 4) ((Rd.chgHead l).count 4) []
    have w2 : (Rd.chgPts l).2.l.length ≤ l.length := by unfold Rd.chgPts; unfold Rd.chgHead at w1 ⊢; omega
    have w4 := Rd.count_length (Rd.chgPts l).2 8
    have w3 := prfs_left n l.length ((Rd.chgPts l).2.countN 8) ((Rd.chgPts l).2.count 8) [] false
    have w5 : (Rd.chgPre l n).2.2.l.length ≤ l.length := by unfold Rd.chgPre; omega
    have w6 := Rd.count_length (Rd.chgPre l n).2.2 64
    have both : ((Rd.chgPro l n).2.2.end_ ≠ 0 ∨ (Rd.chgPre l n).2.1 = true ∨ (Rd.chgPro l n).2.1 = true ∨ (Rd.chg l n).check n ≠ 0) →
        ((Rd.rchgPro l).2.2.end_ ≠ 0 ∨ (Rd.rchgPre l).2.1 = false ∨ (Rd.rchgPro l).2.1 = false ∨ yes ((Rd.rchg l).Right n) = false) →
        (if (Rd.chgPro l n).2.2.end_ ≠ 0 ∨ (Rd.chgPre l n).2.1 = true ∨ (Rd.chgPro l n).2.1 = true ∨ (Rd.chg l n).check n ≠ 0 then (Chg.zero, (2 : Int)) else (Rd.chg l n, 0)) =
        (if (Rd.rchgPro l).2.2.end_ ≠ 0 ∨ (Rd.rchgPre l).2.1 = false ∨ (Rd.rchgPro l).2.1 = false ∨ yes ((Rd.rchg l).Right n) = false then (Chg.zero, 2) else (Rd.rchg l, 0)) := fun h1 h2 => by rw [if_pos h1, if_pos h2]
    have preE : (Rd.chgPts l).2.e ≠ 0 → (Rd.chgPre l n).2.2.e ≠ 0 := fun h => prfs_bad _ _ _ (Rd.count_bad h _)
    have proE : (Rd.chgPre l n).2.2.e ≠ 0 → (Rd.chgPro l n).2.2.end_ ≠ 0 := fun h => Rd.end_bad (prfs_bad _ _ _ (Rd.count_bad h _))
    have rpreE : (Rd.rchgPts l).2.e ≠ 0 → (Rd.rchgPre l).2.2.e ≠ 0 := fun h => by
      have h9 := Rd.count_bad h 8
      unfold Rd.rchgPre
      rw [rprfs_stop h9]
      exact h9
    have rproE : (Rd.rchgPre l).2.2.e ≠ 0 → (Rd.rchgPro l).2.2.end_ ≠ 0 := fun h => by
      have h9 := Rd.count_bad h 64
      unfold Rd.rchgPro
      rw [rprfs_stop h9]
      exact Rd.end_bad h9
    rcases pnts_two ((Rd.chgHead l).countN 4) ((Rd.chgHead l).count 4) [] with ⟨a, b⟩ | a
    · exact both (.inl (proE (preE a))) (.inl (rproE (rpreE b)))
    · have a' : Rd.chgPts l = Rd.rchgPts l := a
      rcases prfs_two (n := n) (room := (l.length : Nat)) (by omega) ((Rd.chgPts l).2.countN 8) ((Rd.chgPts l).2.count 8) [] (by omega) with ⟨b, c⟩ | ⟨xs, t, b, c⟩
      · have c' : DB n (Rd.rchgPre l) := by unfold Rd.rchgPre; rw [← a']; exact c
        have b' : PB (Rd.chgPre l n) := b
        refine both ?_ ?_
        · rcases b' with b' | b'
          · exact .inl (proE b')
          · exact .inr (.inl b')
        · rcases c' with c' | c' | c'
          · exact .inl (rproE c')
          · exact .inr (.inl c')
          · exact .inr (.inr (.inr (right_bad (.inl c'))))
      · have b' : Rd.chgPre l n = (xs, false, t) := b
        have c' : Rd.rchgPre l = (xs, true, t) := by unfold Rd.rchgPre; rw [← a']; exact c
        rw [b'] at w5 w6
        dsimp only at w5 w6
        rcases prfs_two (n := n) (room := (l.length : Nat)) (by omega) (t.countN 64) (t.count 64) [] (by omega) with ⟨d, e⟩ | ⟨ys, u, d, e⟩
        · have d' : PB (Rd.chgPro l n) := by unfold Rd.chgPro; rw [b']; exact d
          have e' : DB n (Rd.rchgPro l) := by unfold Rd.rchgPro; rw [c']; exact e
          refine both ?_ ?_
          · rcases d' with d' | d'
            · exact .inl (Rd.end_bad d')
            · exact .inr (.inr (.inl d'))
          · rcases e' with e' | e' | e'
            · exact .inl (Rd.end_bad e')
            · exact .inr (.inr (.inl e'))
            · exact .inr (.inr (.inr (right_bad (.inr e'))))
        · have d' : Rd.chgPro l n = (ys, false, u) := by unfold Rd.chgPro; rw [b']; exact d
          have e' : Rd.rchgPro l = (ys, true, u) := by unfold Rd.rchgPro; rw [c']; exact e
          have f : Rd.chg l n = Rd.rchg l := by
            unfold Rd.chg Rd.rchg
            rw [a', b', c', d', e']
          rw [f, b', c', d', e']
          have g : (Rd.rchg l).check n ≠ 0 ↔ yes ((Rd.rchg l).Right n) = false := by
            unfold Chg.check
            rw [if_neg hn]
            cases yes ((Rd.rchg l).Right n) <;> simp
          by_cases h1 : u.end_ ≠ 0
          · rw [if_pos (.inl h1), if_pos (.inl h1)]
          · by_cases h2 : (Rd.rchg l).check n ≠ 0
            · rw [if_pos (.inr (.inr (.inr h2))), if_pos (.inr (.inr (.inr (g.1 h2))))]
            · rw [if_neg (by
                intro h
                rcases h with h | h | h | h
                · exact h1 h
                · cases h
                · cases h
                · exact h2 h), if_neg (by
                intro h
                rcases h with h | h | h | h
                · exact h1 h
                · cases h
                · cases h
                · exact h2 (g.2 h))]
end Go.Proofs.Ytdbeinbgekdnmaa.A
