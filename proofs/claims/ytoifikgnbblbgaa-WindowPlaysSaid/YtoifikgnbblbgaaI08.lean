/-
  Packed out of the texts: W8.
-/
import Derived.Test.YtoifikgnbblbgaaI07
/-
  The document's log.
-/
set_option maxRecDepth 100000
set_option linter.unusedSimpArgs false
set_option linter.unusedVariables false
namespace Go.Proofs.Ytoifikgnbblbgaa.A
open Go.RowKit Go.Maps Go.Sort Go.Shelf

/-- A document's slot: its block, its votes. -/
structure RS where
  q : Nat
  ws : List (Int × Dg)
abbrev sqA (R : List (Int × RS)) : Abs := .sl 1 (R.map fun x => [int x.1])
abbrev ptA (R : List (Int × RS)) : Abs := .sl 1 (R.map fun x => [ptr x.2.q])
def lgC (n low : Int) (R : List (Int × RS)) : List Abs := [int n, int low, sqA R, ptA R]
section
variable {β γ : Type} {R : List (Int × β)} {z : Nat} {a : Int}
theorem rise_get (h : (R.map (·.1)).Pairwise (· < ·)) {i j : Nat} (hj : j < R.length) (hij : i < j) : (R[i]'(by omega)).1 < (R[j]'hj).1 := by
  have h1 := List.pairwise_iff_getElem.1 h i j (by simp; omega) (by simp; omega) hij
  simpa using h1
theorem drop_ge (h : (R.map (·.1)).Pairwise (· < ·)) (k : ∀ h : z < R.length, a < (R[z]'h).1) : ∀ x ∈ R.drop z, a < x.1 := fun x hx => by
  obtain ⟨i, hi, rfl⟩ := List.getElem_of_mem hx
  rw [List.length_drop] at hi
  rw [List.getElem_drop]
  have h1 := k (by omega)
  rcases Nat.eq_zero_or_pos i with h0 | h0
  · subst h0
    simpa using h1
  · have h2 := rise_get h (i := z) (j := z + i) (by omega) (by omega)
    omega
theorem take_all {p : Int × β → Prop} (h : ∀ j (h : j < R.length), j < z → p R[j]) : ∀ x ∈ R.take z, p x := fun x hx => by
  obtain ⟨i, hi, rfl⟩ := List.getElem_of_mem hx
  rw [List.length_take] at hi
  rw [List.getElem_take]
  exact h i (by omega) (by omega)
theorem filter_drop {p : Int × β → Bool} (h1 : ∀ x ∈ R.drop z, p x = true) (h2 : ∀ x ∈ R.take z, p x = false) : R.filter p = R.drop z := by
  conv => lhs; rw [← List.take_append_drop z R]
  rw [List.filter_append, List.filter_eq_self.2 h1, List.filter_eq_nil_iff.2 (fun x hx => by rw [h2 x hx]; decide), List.nil_append]
theorem filter_take {p : Int × β → Bool} (h1 : ∀ x ∈ R.take z, p x = true) (h2 : ∀ x ∈ R.drop z, p x = false) : R.filter p = R.take z := by
  conv => lhs; rw [← List.take_append_drop z R]
  rw [List.filter_append, List.filter_eq_self.2 h1, List.filter_eq_nil_iff.2 (fun x hx => by rw [h2 x hx]; decide), List.append_nil]
theorem drop1_map {f : Int × β → γ} : ((R.drop z).map f).drop 1 = (R.drop (z + 1)).map f := by rw [← List.map_drop, List.drop_drop]
end
section
variable {q : Nat} {n low seq : Int} {R : List (Int × RS)}
theorem rin_s (hl : lowOk low) : Spec Try.prog 18 [ptr q, int seq] [.rd q 39 (lgC n low R)] (fun _ : Unit => []) (fun _ => boo (decide (inW low seq))) := by
  unfold lowOk at hl
  refine spec_of Try.func18 rfl Try.ntmps18 rfl fun G w => ?_
  refine SC.seq (SC.region ?_)
  refine SL.val (Val.assign rfl) rfl rfl ?_
  refine SL.nil (SE.seq ?_)
  refine SC.seq (SC.region ?_)
  refine SL.val (Val.move rfl) rfl rfl ?_
  refine SL.val (Val.move rfl) rfl rfl ?_
  refine SL.val (Val.nilCheck rfl) rfl rfl ?_
  refine SL.val (Val.fieldAddr tabOk rfl rfl rfl rfl rfl) rfl rfl ?_
  refine SL.val (Val.load1 tabOk rfl rfl (by first|(apply Or.inl;(repeat first|assumption|exact m0|apply m1);done)|(apply Or.inr;(repeat first|assumption|exact m0|apply m1);done)) List.not_mem_nil (by rfl)) rfl rfl ?_
  refine SL.val (Val.gtI rfl rfl) rfl rfl ?_
  refine SL.val (Val.move rfl) rfl rfl ?_
  refine SL.bothP (t := 11) rfl ?_ ?_
  rotate_left
  · intro hc11
    iterate 7 refine SL.skip rfl rfl ?_
    refine SL.val (Val.pickF rfl rfl) rfl rfl ?_
    refine SL.val (Val.move rfl) rfl rfl ?_
    iterate 2 refine SL.skip rfl rfl ?_
    refine SL.val (Val.pickF rfl rfl) rfl rfl ?_
    refine SL.val (Val.assign rfl) rfl rfl ?_
    refine SL.nil (SE.seq ?_)
    refine SC.ret ?_
    refine SE.fin (rs := [.tmp 4]) rfl (RV.tmp rfl RV.nil) (()) (by repeat first|exact s0 _|exact s1 _|apply s2|apply s3) (by simp [It.rids]) ?_
    first
      | exact boo_i (by unfold inW; omega)
      | exact boo_f (by unfold inW; omega)
  intro hc11
  refine SL.val (Val.move rfl) rfl rfl ?_
  refine SL.val (Val.move rfl) rfl rfl ?_
  refine SL.val (Val.nilCheck rfl) rfl rfl ?_
  refine SL.val (Val.fieldAddr tabOk rfl rfl rfl rfl rfl) rfl rfl ?_
  refine SL.val (Val.load1 tabOk rfl rfl (by first|(apply Or.inl;(repeat first|assumption|exact m0|apply m1);done)|(apply Or.inr;(repeat first|assumption|exact m0|apply m1);done)) List.not_mem_nil (by rfl)) rfl rfl ?_
  first
    | refine SL.val (Val.addI rfl rfl (by simp only [InR, lo, hi]; omega)) rfl rfl ?_
    | refine SL.val (Val.addW rfl rfl) rfl rfl ?_
  refine SL.val (Val.leI rfl rfl) rfl rfl ?_
  refine SL.val (Val.pickT rfl rfl) rfl rfl ?_
  refine SL.val (Val.move rfl) rfl rfl ?_
  refine SL.bothP (t := 20) rfl ?_ ?_
  · intro hc20
    refine SL.val (Val.move rfl) rfl rfl ?_
    refine SL.val (Val.leI rfl rfl) rfl rfl ?_
    refine SL.val (Val.pickT rfl rfl) rfl rfl ?_
    refine SL.val (Val.assign rfl) rfl rfl ?_
    refine SL.nil (SE.seq ?_)
    refine SC.ret ?_
    refine SE.fin (rs := [.tmp 4]) rfl (RV.tmp rfl RV.nil) (()) (by repeat first|exact s0 _|exact s1 _|apply s2|apply s3) (by simp [It.rids]) ?_
    first
      | exact boo_i (by unfold inW; omega)
      | exact boo_f (by unfold inW; omega)
  intro hc20
  iterate 2 refine SL.skip rfl rfl ?_
  refine SL.val (Val.pickF rfl rfl) rfl rfl ?_
  refine SL.val (Val.assign rfl) rfl rfl ?_
  refine SL.nil (SE.seq ?_)
  refine SC.ret ?_
  refine SE.fin (rs := [.tmp 4]) rfl (RV.tmp rfl RV.nil) (()) (by repeat first|exact s0 _|exact s1 _|apply s2|apply s3) (by simp [It.rids]) ?_
  first
    | exact boo_i (by unfold inW; omega)
    | exact boo_f (by unfold inW; omega)
theorem rclear0_s  : Spec Try.prog 17 [ptr q] [.blk q 39 (lgC n low R)] (fun _ : Unit => [.blk q 39 (lgC n low [])]) (fun _ => .tup []) := by
  refine spec_of Try.func17 rfl Try.ntmps17 rfl fun G w => ?_
  refine SC.region ?_
  refine SL.val (Val.move rfl) rfl rfl ?_
  refine SL.val (Val.move rfl) rfl rfl ?_
  refine SL.val (Val.nilCheck rfl) rfl rfl ?_
  refine SL.val (Val.fieldAddr tabOk rfl rfl rfl rfl rfl) rfl rfl ?_
  refine SL.eff (Eff.store (L' := [int n, int low, nilS, ptA R]) tabOk rfl rfl rfl (by repeat first|assumption|exact Upd.here|apply Upd.there) (by rfl) (Nat.le_of_ble_eq_true (by rfl)) (by rfl) (by rfl)) rfl rfl ?_
  rintro _ _ ⟨rfl, rfl⟩
  refine SL.val (Val.nilCheck rfl) rfl rfl ?_
  refine SL.val (Val.fieldAddr tabOk rfl rfl rfl rfl rfl) rfl rfl ?_
  refine SL.eff (Eff.store (L' := [int n, int low, nilS, nilS]) tabOk rfl rfl rfl (by repeat first|assumption|exact Upd.here|apply Upd.there) (by rfl) (Nat.le_of_ble_eq_true (by rfl)) (by rfl) (by rfl)) rfl rfl ?_
  rintro _ _ ⟨rfl, rfl⟩
  refine SL.nil ?_
  refine SE.re [] (β := []) (Re.cast (ds := lgC n low []) (Casts.keep (Casts.keep (Casts.nils (Casts.nils Casts.refl))))) rfl ?_
  refine SE.finN (rs := []) rfl RV.nil (()) (by repeat first|exact s0 _|exact s1 _|apply s2|apply s3) (by simp [It.rids]) ?_
  exact rfl
theorem rmove_no_s (hi : ¬ mvOk low seq) : Spec Try.prog 16 [ptr q, int seq] [.rd q 39 (lgC n low R)] (fun _ : Unit => []) (fun _ => int 14) := by
  unfold mvOk at hi
  refine spec_of Try.func16 rfl Try.ntmps16 rfl fun G w => ?_
  refine SC.seq (SC.region ?_)
  refine SL.val (Val.assign rfl) rfl rfl ?_
  refine SL.nil (SE.seq ?_)
  refine SC.seq ?_
  refine SC.seq (SC.region ?_)
  refine SL.val (Val.move rfl) rfl rfl ?_
  refine SL.val (Val.move rfl) rfl rfl ?_
  refine SL.val (Val.nilCheck rfl) rfl rfl ?_
  refine SL.val (Val.fieldAddr tabOk rfl rfl rfl rfl rfl) rfl rfl ?_
  refine SL.val (Val.load1 tabOk rfl rfl (by first|(apply Or.inl;(repeat first|assumption|exact m0|apply m1);done)|(apply Or.inr;(repeat first|assumption|exact m0|apply m1);done)) List.not_mem_nil (by rfl)) rfl rfl ?_
  refine SL.val (Val.ltI rfl rfl) rfl rfl ?_
  refine SL.val (Val.move rfl) rfl rfl ?_
  refine SL.bothP (t := 11) rfl ?_ ?_
  · intro hc11
    iterate 2 refine SL.skip rfl rfl ?_
    refine SL.val (Val.pickT rfl rfl) rfl rfl ?_
    refine SL.nil (SE.seq ?_)
    refine SC.condT rfl ?_
    refine SC.seq (SC.region ?_)
    refine SL.val (Val.assign rfl) rfl rfl ?_
    refine SL.nil (SE.seq ?_)
    refine SC.ret ?_
    refine SE.then_ (by intro h; cases h) ?_
    refine SE.fin (rs := [.tmp 4]) rfl (RV.tmp rfl RV.nil) (()) (by repeat first|exact s0 _|exact s1 _|apply s2|apply s3) (by simp [It.rids]) ?_
    exact rfl
  intro hc11
  refine SL.val (Val.move rfl) rfl rfl ?_
  refine SL.val (Val.gtI rfl rfl) rfl rfl ?_
  refine SL.val (Val.pickF rfl rfl) rfl rfl ?_
  refine SL.nil (SE.seq ?_)
  refine SC.condP rfl ?_ (by intro hc14; exfalso; omega)
  intro hc14
  refine SC.seq (SC.region ?_)
  refine SL.val (Val.assign rfl) rfl rfl ?_
  refine SL.nil (SE.seq ?_)
  refine SC.ret ?_
  refine SE.then_ (by intro h; cases h) ?_
  refine SE.fin (rs := [.tmp 4]) rfl (RV.tmp rfl RV.nil) (()) (by repeat first|exact s0 _|exact s1 _|apply s2|apply s3) (by simp [It.rids]) ?_
  exact rfl
set_option maxHeartbeats 1000000 in
theorem rmove0_s (hi : mvOk low seq) (hr : (R.map (·.1)).Pairwise (· < ·)) (hl : R.length ≤ 1000) : Spec Try.prog 16 [ptr q, int seq] [.blk q 39 (lgC n low R)] (fun _ : Unit => [.blk q 39 (lgC n seq (R.filter fun x => decide (seq < x.1)))]) (fun _ => int 0) := by
  unfold mvOk at hi
  refine spec_of Try.func16 rfl Try.ntmps16 rfl fun G w => ?_
  refine SC.seq (SC.region ?_)
  refine SL.val (Val.assign rfl) rfl rfl ?_
  refine SL.nil (SE.seq ?_)
  refine SC.seq ?_
  refine SC.seq (SC.region ?_)
  refine SL.val (Val.move rfl) rfl rfl ?_
  refine SL.val (Val.move rfl) rfl rfl ?_
  refine SL.val (Val.nilCheck rfl) rfl rfl ?_
  refine SL.val (Val.fieldAddr tabOk rfl rfl rfl rfl rfl) rfl rfl ?_
  refine SL.val (Val.load1 tabOk rfl rfl (by first|(apply Or.inl;(repeat first|assumption|exact m0|apply m1);done)|(apply Or.inr;(repeat first|assumption|exact m0|apply m1);done)) List.not_mem_nil (by rfl)) rfl rfl ?_
  refine SL.val (Val.ltI rfl rfl) rfl rfl ?_
  refine SL.val (Val.move rfl) rfl rfl ?_
  refine SL.bothP (t := 11) rfl (by intro hc11; exfalso; omega) ?_
  intro hc11
  refine SL.val (Val.move rfl) rfl rfl ?_
  refine SL.val (Val.gtI rfl rfl) rfl rfl ?_
  refine SL.val (Val.pickF rfl rfl) rfl rfl ?_
  refine SL.nil (SE.seq ?_)
  refine SC.condP rfl (by intro hc14; exfalso; omega) ?_
  intro hc14
  refine SC.skip ?_
  refine SE.seq ?_
  refine SC.seq (SC.region ?_)
  refine SL.val (Val.move rfl) rfl rfl ?_
  refine SL.val (Val.move rfl) rfl rfl ?_
  refine SL.val (Val.nilCheck rfl) rfl rfl ?_
  refine SL.val (Val.fieldAddr tabOk rfl rfl rfl rfl rfl) rfl rfl ?_
  refine SL.eff (Eff.store (L' := lgC n seq R) tabOk rfl rfl rfl (by repeat first|assumption|exact Upd.here|apply Upd.there) (by rfl) (Nat.le_of_ble_eq_true (by rfl)) (by rfl) (by rfl)) rfl rfl ?_
  rintro _ _ ⟨rfl, rfl⟩
  refine SL.nil (SE.seq ?_)
  refine SC.seq ?_
  refine SC.block ?_
  refine SC.loop (ι := Nat) (fun z => [.blk q 39 (lgC n seq (R.drop z))]) (fun z => [(0, ptr q), (1, int seq)]) (fun z => z ≤ R.length ∧ ∀ j (h : j < R.length), j < z → R[j].1 ≤ seq) (fun z => R.length - z) (0) (⟨Nat.zero_le _, fun j h hj => by omega⟩) (by exact ⟨rfl, rfl, trivial⟩) (by repeat first|exact s0 _|exact s1 _|apply s2|apply s3) ?_
  intro z hz
  refine SC.seq ?_
  refine SC.seq (SC.region ?_)
  refine SL.val (Val.move rfl) rfl rfl ?_
  refine SL.val (Val.nilCheck rfl) rfl rfl ?_
  refine SL.val (Val.fieldAddr tabOk rfl rfl rfl rfl rfl) rfl rfl ?_
  refine SL.val (Val.load1 tabOk rfl rfl (by first|(apply Or.inl;(repeat first|assumption|exact m0|apply m1);done)|(apply Or.inr;(repeat first|assumption|exact m0|apply m1);done)) List.not_mem_nil (by rfl)) rfl rfl ?_
  first
    | refine SL.val (Val.lenSl rfl Try.underlying34 (List.length_map _)) rfl rfl ?_
    | refine SL.val (Val.lenOwn rfl (by repeat first|assumption|exact m0|apply m1) Try.underlying34 (List.length_map _)) rfl rfl ?_
    | refine SL.val (Val.lenNil rfl Try.underlying34) rfl rfl ?_
  refine SL.val (Val.gtI rfl rfl) rfl rfl ?_
  refine SL.val (Val.move rfl) rfl rfl ?_
  refine SL.bothP (t := 25) rfl ?_ ?_
  rotate_left
  · intro hc25
    have hge : ∀ h : z < R.length, seq < (R[z]'h).1 := fun h => by rw [List.length_drop] at hc25; omega
    iterate 8 refine SL.skip rfl rfl ?_
    refine SL.val (Val.pickF rfl rfl) rfl rfl ?_
    refine SL.nil (SE.seq ?_)
    refine SC.condF rfl ?_
    refine SC.exit ?_
    refine SE.then_ (by intro h; cases h) ?_
    refine SE.then_ (by intro h; cases h) ?_
    refine SE.exit ?_
    refine SE.seq ?_
    refine SC.seq (SC.region ?_)
    refine SL.val (Val.assign rfl) rfl rfl ?_
    refine SL.nil (SE.seq ?_)
    refine SC.ret ?_
    have he : (R.filter fun x => decide (seq < x.1)) = R.drop z := filter_drop (fun x hx => by have := drop_ge hr hge x hx; simpa using this) (fun x hx => by have := take_all (p := fun x => x.1 ≤ seq) hz.2 x hx; simp; omega)
    refine SE.fin (rs := [.tmp 4]) rfl (RV.tmp rfl RV.nil) (()) (by rw [he]; exact List.Sublist.refl _) (by simp [It.rids]) ?_
    exact rfl
  intro hc25
  have hlt : z < R.length := by rw [List.length_drop] at hc25; omega
  refine SL.val (Val.move rfl) rfl rfl ?_
  refine SL.val (Val.nilCheck rfl) rfl rfl ?_
  refine SL.val (Val.fieldAddr tabOk rfl rfl rfl rfl rfl) rfl rfl ?_
  refine SL.val (Val.load1 tabOk rfl rfl (by first|(apply Or.inl;(repeat first|assumption|exact m0|apply m1);done)|(apply Or.inr;(repeat first|assumption|exact m0|apply m1);done)) List.not_mem_nil (by rfl)) rfl rfl ?_
  refine SL.val (Val.indexSl (q := 0) tabOk Try.underlying34 rfl rfl rfl rfl (at_map (by rw [List.length_drop]; omega)) rfl rfl) rfl rfl ?_
  refine SL.val (Val.to (C := int (R[z]'hlt).1) (Val.load1R tabOk rfl rfl rfl) (congrArg (fun x : Int × RS => int x.1) (by simp))) rfl rfl ?_
  refine SL.val (Val.move rfl) rfl rfl ?_
  refine SL.val (Val.leI rfl rfl) rfl rfl ?_
  refine SL.val (Val.pickT rfl rfl) rfl rfl ?_
  refine SL.nil (SE.seq ?_)
  refine SC.condP rfl ?_ ?_
  rotate_left
  · intro hc34
    have hge : ∀ h : z < R.length, seq < (R[z]'h).1 := fun h => by omega
    refine SC.exit ?_
    refine SE.then_ (by intro h; cases h) ?_
    refine SE.then_ (by intro h; cases h) ?_
    refine SE.exit ?_
    refine SE.seq ?_
    refine SC.seq (SC.region ?_)
    refine SL.val (Val.assign rfl) rfl rfl ?_
    refine SL.nil (SE.seq ?_)
    refine SC.ret ?_
    have he : (R.filter fun x => decide (seq < x.1)) = R.drop z := filter_drop (fun x hx => by have := drop_ge hr hge x hx; simpa using this) (fun x hx => by have := take_all (p := fun x => x.1 ≤ seq) hz.2 x hx; simp; omega)
    refine SE.fin (rs := [.tmp 4]) rfl (RV.tmp rfl RV.nil) (()) (by rw [he]; exact List.Sublist.refl _) (by simp [It.rids]) ?_
    exact rfl
  intro hc34
  refine SC.skip ?_
  refine SE.seq ?_
  refine SC.block ?_
  refine SC.draw [q] (.q 0 (.q 1 (.q 2 (.q 3 (.q 4 (.q 7 (.q 8 (.q 9 (.two 5 10 (.q 6 (.e 10 (.q 11 (.q 12 (.q 13 (.e 14 (.q 15 (.q 16 (.e 17 .nil))))))))) (.q 11 (.e 5 (.q 6 (.q 12 (.q 13 (.e 14 (.q 15 (.q 16 (.e 17 .nil)))))))))))))))))) (by kernel_rfl) (by kernel_rfl) ?_
  refine SX.val rfl (Val.move rfl) (by first | exact mids_head | (simp [mids, It.mids, ownPc, mapPc]; done) | (intro k hk; simp [mids, It.mids, ownPc, mapPc, mapAtPc] at hk ⊢; grind)) rfl rfl ?_
  refine SX.val rfl (Val.move rfl) (by first | exact mids_head | (simp [mids, It.mids, ownPc, mapPc]; done) | (intro k hk; simp [mids, It.mids, ownPc, mapPc, mapAtPc] at hk ⊢; grind)) rfl rfl ?_
  refine SX.val rfl (Val.move rfl) (by first | exact mids_head | (simp [mids, It.mids, ownPc, mapPc]; done) | (intro k hk; simp [mids, It.mids, ownPc, mapPc, mapAtPc] at hk ⊢; grind)) rfl rfl ?_
  refine SX.val rfl (Val.nilCheck rfl) (by first | exact mids_head | (simp [mids, It.mids, ownPc, mapPc]; done) | (intro k hk; simp [mids, It.mids, ownPc, mapPc, mapAtPc] at hk ⊢; grind)) rfl rfl ?_
  refine SX.val rfl (Val.fieldAddr tabOk rfl rfl rfl rfl rfl) (by first | exact mids_head | (simp [mids, It.mids, ownPc, mapPc]; done) | (intro k hk; simp [mids, It.mids, ownPc, mapPc, mapAtPc] at hk ⊢; grind)) rfl rfl ?_
  refine SX.val rfl (Val.move rfl) (by first | exact mids_head | (simp [mids, It.mids, ownPc, mapPc]; done) | (intro k hk; simp [mids, It.mids, ownPc, mapPc, mapAtPc] at hk ⊢; grind)) rfl rfl ?_
  refine SX.val rfl (Val.nilCheck rfl) (by first | exact mids_head | (simp [mids, It.mids, ownPc, mapPc]; done) | (intro k hk; simp [mids, It.mids, ownPc, mapPc, mapAtPc] at hk ⊢; grind)) rfl rfl ?_
  refine SX.val rfl (Val.fieldAddr tabOk rfl rfl rfl rfl rfl) (by first | exact mids_head | (simp [mids, It.mids, ownPc, mapPc]; done) | (intro k hk; simp [mids, It.mids, ownPc, mapPc, mapAtPc] at hk ⊢; grind)) rfl rfl ?_
  refine SX.two ?_ ?_
  · skip
    refine SX.valE rfl (Val.load1 tabOk rfl rfl (by first|(apply Or.inl;(repeat first|assumption|exact m0|apply m1);done)|(apply Or.inr;(repeat first|assumption|exact m0|apply m1);done)) List.not_mem_nil (by rfl)) rfl rfl ?_
    refine SX.val rfl (Val.to (C := sqA (R.drop (z + 1))) (Val.sliceLo (q := 1) tabOk Try.underlying34 rfl rfl rfl rfl rfl (by rw [List.length_map, List.length_drop]; omega)) (congrArg (Abs.sl 1) drop1_map)) (by first | exact mids_head | (simp [mids, It.mids, ownPc, mapPc]; done) | (intro k hk; simp [mids, It.mids, ownPc, mapPc, mapAtPc] at hk ⊢; grind)) rfl rfl ?_
    refine SX.valE rfl (Val.load1 tabOk rfl rfl (by first|(apply Or.inl;(repeat first|assumption|exact m0|apply m1);done)|(apply Or.inr;(repeat first|assumption|exact m0|apply m1);done)) List.not_mem_nil (by rfl)) rfl rfl ?_
    refine SX.val rfl (Val.to (C := ptA (R.drop (z + 1))) (Val.sliceLo (q := 1) tabOk Try.underlying37 rfl rfl rfl rfl rfl (by rw [List.length_map, List.length_drop]; omega)) (congrArg (Abs.sl 1) drop1_map)) (by first | exact mids_head | (simp [mids, It.mids, ownPc, mapPc]; done) | (intro k hk; simp [mids, It.mids, ownPc, mapPc, mapAtPc] at hk ⊢; grind)) rfl rfl ?_
    refine SX.val rfl (Val.nilCheck rfl) (by first | exact mids_head | (simp [mids, It.mids, ownPc, mapPc]; done) | (intro k hk; simp [mids, It.mids, ownPc, mapPc, mapAtPc] at hk ⊢; grind)) rfl rfl ?_
    refine SX.val rfl (Val.fieldAddr tabOk rfl rfl rfl rfl rfl) (by first | exact mids_head | (simp [mids, It.mids, ownPc, mapPc]; done) | (intro k hk; simp [mids, It.mids, ownPc, mapPc, mapAtPc] at hk ⊢; grind)) rfl rfl ?_
    refine SX.eff rfl (Eff.store (L' := [int n, int seq, sqA (R.drop (z + 1)), ptA (R.drop z)]) tabOk rfl rfl rfl (by repeat first|assumption|exact Upd.here|apply Upd.there) (by rfl) (Nat.le_of_ble_eq_true (by rfl)) (by rfl) (by rfl)) (by simp) rfl rfl ?_
    rintro _ _ ⟨rfl, rfl⟩
    refine SX.val rfl (Val.nilCheck rfl) (by first | exact mids_head | (simp [mids, It.mids, ownPc, mapPc]; done) | (intro k hk; simp [mids, It.mids, ownPc, mapPc, mapAtPc] at hk ⊢; grind)) rfl rfl ?_
    refine SX.val rfl (Val.fieldAddr tabOk rfl rfl rfl rfl rfl) (by first | exact mids_head | (simp [mids, It.mids, ownPc, mapPc]; done) | (intro k hk; simp [mids, It.mids, ownPc, mapPc, mapAtPc] at hk ⊢; grind)) rfl rfl ?_
    refine SX.eff rfl (Eff.store (L' := lgC n seq (R.drop (z + 1))) tabOk rfl rfl rfl (by repeat first|assumption|exact Upd.here|apply Upd.there) (by rfl) (Nat.le_of_ble_eq_true (by rfl)) (by rfl) (by rfl)) (by simp) rfl rfl ?_
    rintro _ _ ⟨rfl, rfl⟩
    refine SX.nil ?_
    refine SE.inBlock ?_
    refine SE.round (z + 1) (by first | omega | (dsimp only; omega)) (⟨by omega, fun j h hj => by
          rcases Nat.lt_or_ge j z with h1 | h1
          · exact hz.2 j h h1
          · obtain rfl : j = z := by omega
            assumption⟩) (by exact ⟨rfl, rfl, trivial⟩) (by repeat first|exact s0 _|exact s1 _|apply s2|apply s3)
  · skip
    refine SX.valE rfl (Val.load1 tabOk rfl rfl (by first|(apply Or.inl;(repeat first|assumption|exact m0|apply m1);done)|(apply Or.inr;(repeat first|assumption|exact m0|apply m1);done)) List.not_mem_nil (by rfl)) rfl rfl ?_
    refine SX.val rfl (Val.to (C := ptA (R.drop (z + 1))) (Val.sliceLo (q := 1) tabOk Try.underlying37 rfl rfl rfl rfl rfl (by rw [List.length_map, List.length_drop]; omega)) (congrArg (Abs.sl 1) drop1_map)) (by first | exact mids_head | (simp [mids, It.mids, ownPc, mapPc]; done) | (intro k hk; simp [mids, It.mids, ownPc, mapPc, mapAtPc] at hk ⊢; grind)) rfl rfl ?_
    refine SX.valE rfl (Val.load1 tabOk rfl rfl (by first|(apply Or.inl;(repeat first|assumption|exact m0|apply m1);done)|(apply Or.inr;(repeat first|assumption|exact m0|apply m1);done)) List.not_mem_nil (by rfl)) rfl rfl ?_
    refine SX.val rfl (Val.to (C := sqA (R.drop (z + 1))) (Val.sliceLo (q := 1) tabOk Try.underlying34 rfl rfl rfl rfl rfl (by rw [List.length_map, List.length_drop]; omega)) (congrArg (Abs.sl 1) drop1_map)) (by first | exact mids_head | (simp [mids, It.mids, ownPc, mapPc]; done) | (intro k hk; simp [mids, It.mids, ownPc, mapPc, mapAtPc] at hk ⊢; grind)) rfl rfl ?_
    refine SX.val rfl (Val.nilCheck rfl) (by first | exact mids_head | (simp [mids, It.mids, ownPc, mapPc]; done) | (intro k hk; simp [mids, It.mids, ownPc, mapPc, mapAtPc] at hk ⊢; grind)) rfl rfl ?_
    refine SX.val rfl (Val.fieldAddr tabOk rfl rfl rfl rfl rfl) (by first | exact mids_head | (simp [mids, It.mids, ownPc, mapPc]; done) | (intro k hk; simp [mids, It.mids, ownPc, mapPc, mapAtPc] at hk ⊢; grind)) rfl rfl ?_
    refine SX.eff rfl (Eff.store (L' := [int n, int seq, sqA (R.drop (z + 1)), ptA (R.drop z)]) tabOk rfl rfl rfl (by repeat first|assumption|exact Upd.here|apply Upd.there) (by rfl) (Nat.le_of_ble_eq_true (by rfl)) (by rfl) (by rfl)) (by simp) rfl rfl ?_
    rintro _ _ ⟨rfl, rfl⟩
    refine SX.val rfl (Val.nilCheck rfl) (by first | exact mids_head | (simp [mids, It.mids, ownPc, mapPc]; done) | (intro k hk; simp [mids, It.mids, ownPc, mapPc, mapAtPc] at hk ⊢; grind)) rfl rfl ?_
    refine SX.val rfl (Val.fieldAddr tabOk rfl rfl rfl rfl rfl) (by first | exact mids_head | (simp [mids, It.mids, ownPc, mapPc]; done) | (intro k hk; simp [mids, It.mids, ownPc, mapPc, mapAtPc] at hk ⊢; grind)) rfl rfl ?_
    refine SX.eff rfl (Eff.store (L' := lgC n seq (R.drop (z + 1))) tabOk rfl rfl rfl (by repeat first|assumption|exact Upd.here|apply Upd.there) (by rfl) (Nat.le_of_ble_eq_true (by rfl)) (by rfl) (by rfl)) (by simp) rfl rfl ?_
    rintro _ _ ⟨rfl, rfl⟩
    refine SX.nil ?_
    refine SE.inBlock ?_
    refine SE.round (z + 1) (by first | omega | (dsimp only; omega)) (⟨by omega, fun j h hj => by
          rcases Nat.lt_or_ge j z with h1 | h1
          · exact hz.2 j h h1
          · obtain rfl : j = z := by omega
            assumption⟩) (by exact ⟨rfl, rfl, trivial⟩) (by repeat first|exact s0 _|exact s1 _|apply s2|apply s3)
/-- A number's slot is put in. -/
def insR (R : List (Int × RS)) (seq : Int) (s : RS) : List (Int × RS) := R.filter (fun x => decide (x.1 < seq)) ++ [(seq, s)] ++ R.filter (fun x => decide (seq < x.1))
theorem ins_at {z b : Nat} (hr : (R.map (·.1)).Pairwise (· < ·)) (h1 : ∀ j (h : j < R.length), j < z → R[j].1 < seq) (h2 : ∀ h : z < R.length, seq < R[z].1) (s : RS) : insR R seq s = R.take z ++ [(seq, s)] ++ R.drop z := by
  unfold insR
  have e1 : (R.filter fun x => decide (x.1 < seq)) = R.take z := filter_take (fun x hx => by have := take_all (p := fun x => x.1 < seq) h1 x hx; simpa using this) (fun x hx => by have := drop_ge hr h2 x hx; simp; omega)
  have e2 : (R.filter fun x => decide (seq < x.1)) = R.drop z := filter_drop (fun x hx => by have := drop_ge hr h2 x hx; simpa using this) (fun x hx => by have := take_all (p := fun x => x.1 < seq) h1 x hx; simp; omega)
  rw [e1, e2]
theorem lg_ins {z b : Nat} (hr : (R.map (·.1)).Pairwise (· < ·)) (h1 : ∀ j (h : j < R.length), j < z → R[j].1 < seq) (h2 : ∀ h : z < R.length, seq < R[z].1) : lgC n low (insR R seq ⟨b, []⟩) = [int n, int low, .sl 1 ([] ++ ((R.map fun x => [int x.1]).take z) ++ [[int seq]] ++ ((R.map fun x => [int x.1]).drop z)), .sl 1 ([] ++ ((R.map fun x => [ptr x.2.q]).take z) ++ [[ptr b]] ++ ((R.map fun x => [ptr x.2.q]).drop z))] := by
  rw [ins_at (b := b) hr h1 h2]
  unfold lgC
  simp [List.map_take, List.map_drop]
theorem at_ins {z b : Nat} (hz : z ≤ R.length) : ([] ++ ((R.map fun x => [ptr x.2.q]).take z) ++ [[ptr b]] ++ ((R.map fun x => [ptr x.2.q]).drop z))[z]? = some [ptr b] := by
  rw [List.nil_append, List.append_assoc, List.getElem?_append_right (by simp; omega)]
  simp [hz]
theorem rat_out_s (hl : lowOk low) (hi : ¬ inW low seq) : Spec Try.prog 13 [ptr q, int seq] [.rd q 39 (lgC n low R)] (fun _ : Unit => []) (fun _ => .v (.pointer none)) := by
  refine spec_of Try.func13 rfl Try.ntmps13 rfl fun G w => ?_
  refine SC.seq (SC.region ?_)
  refine SL.val (Val.assign rfl) rfl rfl ?_
  refine SL.nil (SE.seq ?_)
  refine SC.seq ?_
  refine SC.seq (SC.region ?_)
  refine SL.val (Val.move rfl) rfl rfl ?_
  refine SL.val (Val.move rfl) rfl rfl ?_
  refine SL.call (rin_s (q := q) (n := n) (low := low) (seq := seq) (R := R) hl) Casts.refl (by kernel_rfl) rfl rfl rfl ?_
  refine After.pure (by repeat (first | exact Reads.nil | (refine Reads.blk ?_ ?_; focus ((repeat first|assumption|exact m0|apply m1); done)) | (refine Reads.rd ?_ ?_; focus ((repeat first|assumption|exact m0|apply m1); done)) | (refine Reads.pc ?_ ?_; focus ((repeat first|assumption|exact m0|apply m1); done)) | (refine Reads.rdpc ?_ ?_; focus ((repeat first|assumption|exact m0|apply m1); done)))) (fun _ => rfl) ?_
  intro _
  refine SL.val (Val.notB rfl) rfl rfl ?_
  refine SL.nil (SE.seq ?_)
  refine SC.cond rfl ?_ (by intro hc9; exfalso; exact hi (by simpa using hc9))
  intro hc9
  refine SC.seq (SC.region ?_)
  refine SL.val (Val.assign rfl) rfl rfl ?_
  refine SL.nil (SE.seq ?_)
  refine SC.ret ?_
  refine SE.then_ (by intro h; cases h) ?_
  refine SE.fin (rs := [.tmp 4]) rfl (RV.tmp rfl RV.nil) (()) (by repeat first|exact s0 _|exact s1 _|apply s2|apply s3) (by simp [It.rids]) ?_
  exact rfl
set_option maxHeartbeats 1000000 in
theorem rat_old_s {c : Nat} (hl : lowOk low) (hin : inW low seq) (hr : (R.map (·.1)).Pairwise (· < ·)) (hn : R.length ≤ 1000) (hc : c < R.length) (he : R[c].1 = seq) : Spec Try.prog 13 [ptr q, int seq] [.rd q 39 (lgC n low R)] (fun _ : Unit => []) (fun _ => ptr R[c].2.q) := by
  have hcs : ∀ z, (∀ j (h : j < R.length), j < z → R[j].1 < seq) → z ≤ c := fun z h => Nat.le_of_not_lt fun h1 => by have := h c hc h1; omega
  have hce : ∀ z (h : z < R.length), z ≤ c → ¬ R[z].1 < seq → z = c := fun z h h1 h2 => (Nat.lt_or_eq_of_le h1).elim (fun h3 => absurd (by have := rise_get hr hc h3; omega) h2) id
  refine spec_of Try.func13 rfl Try.ntmps13 rfl fun G w => ?_
  refine SC.seq (SC.region ?_)
  refine SL.val (Val.assign rfl) rfl rfl ?_
  refine SL.nil (SE.seq ?_)
  refine SC.seq ?_
  refine SC.seq (SC.region ?_)
  refine SL.val (Val.move rfl) rfl rfl ?_
  refine SL.val (Val.move rfl) rfl rfl ?_
  refine SL.call (rin_s (q := q) (n := n) (low := low) (seq := seq) (R := R) hl) Casts.refl (by kernel_rfl) rfl rfl rfl ?_
  refine After.pure (by repeat (first | exact Reads.nil | (refine Reads.blk ?_ ?_; focus ((repeat first|assumption|exact m0|apply m1); done)) | (refine Reads.rd ?_ ?_; focus ((repeat first|assumption|exact m0|apply m1); done)) | (refine Reads.pc ?_ ?_; focus ((repeat first|assumption|exact m0|apply m1); done)) | (refine Reads.rdpc ?_ ?_; focus ((repeat first|assumption|exact m0|apply m1); done)))) (fun _ => rfl) ?_
  intro _
  refine SL.val (Val.notB rfl) rfl rfl ?_
  refine SL.nil (SE.seq ?_)
  refine SC.cond rfl (by intro hc9; exfalso; have := decide_eq_true hin; simp_all) ?_
  intro hc9
  refine SC.skip ?_
  refine SE.seq ?_
  refine SC.seq (SC.region ?_)
  refine SL.val (Val.assign rfl) rfl rfl ?_
  refine SL.nil (SE.seq ?_)
  refine SC.seq ?_
  refine SC.block ?_
  refine SC.loop (ι := Nat) (fun z => [.rd q 39 (lgC n low R)]) (fun z => [(0, ptr q), (1, int seq), (5, int (z : Nat))]) (fun z => z ≤ R.length ∧ ∀ j (h : j < R.length), j < z → R[j].1 < seq) (fun z => R.length - z) (0) (⟨Nat.zero_le _, fun j h hj => by omega⟩) (by exact ⟨rfl, rfl, rfl, trivial⟩) (by repeat first|exact s0 _|exact s1 _|apply s2|apply s3) ?_
  intro z hz
  refine SC.seq ?_
  refine SC.seq (SC.region ?_)
  refine SL.val (Val.move rfl) rfl rfl ?_
  refine SL.val (Val.move rfl) rfl rfl ?_
  refine SL.val (Val.nilCheck rfl) rfl rfl ?_
  refine SL.val (Val.fieldAddr tabOk rfl rfl rfl rfl rfl) rfl rfl ?_
  refine SL.val (Val.load1 tabOk rfl rfl (by first|(apply Or.inl;(repeat first|assumption|exact m0|apply m1);done)|(apply Or.inr;(repeat first|assumption|exact m0|apply m1);done)) List.not_mem_nil (by rfl)) rfl rfl ?_
  first
    | refine SL.val (Val.lenSl rfl Try.underlying34 (List.length_map _)) rfl rfl ?_
    | refine SL.val (Val.lenOwn rfl (by repeat first|assumption|exact m0|apply m1) Try.underlying34 (List.length_map _)) rfl rfl ?_
    | refine SL.val (Val.lenNil rfl Try.underlying34) rfl rfl ?_
  refine SL.val (Val.ltI rfl rfl) rfl rfl ?_
  refine SL.val (Val.move rfl) rfl rfl ?_
  refine SL.bothP (t := 17) rfl ?_ (by intro hc17; exfalso; have := hcs z hz.2; omega)
  intro hc17
  have hlt : z < R.length := by omega
  refine SL.val (Val.move rfl) rfl rfl ?_
  refine SL.val (Val.nilCheck rfl) rfl rfl ?_
  refine SL.val (Val.fieldAddr tabOk rfl rfl rfl rfl rfl) rfl rfl ?_
  refine SL.val (Val.load1 tabOk rfl rfl (by first|(apply Or.inl;(repeat first|assumption|exact m0|apply m1);done)|(apply Or.inr;(repeat first|assumption|exact m0|apply m1);done)) List.not_mem_nil (by rfl)) rfl rfl ?_
  refine SL.val (Val.move rfl) rfl rfl ?_
  refine SL.val (Val.indexSl (q := z) tabOk Try.underlying34 rfl rfl rfl rfl (at_map hlt) rfl rfl) rfl rfl ?_
  refine SL.val (Val.to (C := int (R[z]'hlt).1) (Val.load1R tabOk rfl rfl rfl) rfl) rfl rfl ?_
  refine SL.val (Val.move rfl) rfl rfl ?_
  refine SL.val (Val.ltI rfl rfl) rfl rfl ?_
  refine SL.val (Val.pickT rfl rfl) rfl rfl ?_
  refine SL.nil (SE.seq ?_)
  refine SC.condP rfl ?_ ?_
  · intro hc27
    refine SC.skip ?_
    refine SE.seq ?_
    refine SC.block ?_
    refine SC.region ?_
    refine SL.val (Val.move rfl) rfl rfl ?_
    first
      | refine SL.val (Val.addI rfl rfl (by simp only [InR, lo, hi]; omega)) rfl rfl ?_
      | refine SL.val (Val.addW rfl rfl) rfl rfl ?_
    refine SL.val (Val.assign rfl) rfl rfl ?_
    refine SL.nil ?_
    refine SE.inBlock ?_
    refine SE.round (z + 1) (by first | omega | (dsimp only; omega)) (⟨by omega, fun j h hj => by
          rcases Nat.lt_or_ge j z with h1 | h1
          · exact hz.2 j h h1
          · obtain rfl : j = z := by omega
            assumption⟩) (by exact ⟨rfl, rfl, rfl, trivial⟩) (by repeat first|exact s0 _|exact s1 _|apply s2|apply s3)
  intro hc27
  obtain rfl : z = c := hce z hlt (hcs z hz.2) (by omega)
  refine SC.exit ?_
  refine SE.then_ (by intro h; cases h) ?_
  refine SE.then_ (by intro h; cases h) ?_
  refine SE.exit ?_
  refine SE.seq ?_
  refine SC.seq ?_
  refine SC.seq (SC.region ?_)
  refine SL.val (Val.move rfl) rfl rfl ?_
  refine SL.val (Val.move rfl) rfl rfl ?_
  refine SL.val (Val.nilCheck rfl) rfl rfl ?_
  refine SL.val (Val.fieldAddr tabOk rfl rfl rfl rfl rfl) rfl rfl ?_
  refine SL.val (Val.load1 tabOk rfl rfl (by first|(apply Or.inl;(repeat first|assumption|exact m0|apply m1);done)|(apply Or.inr;(repeat first|assumption|exact m0|apply m1);done)) List.not_mem_nil (by rfl)) rfl rfl ?_
  first
    | refine SL.val (Val.lenSl rfl Try.underlying34 (List.length_map _)) rfl rfl ?_
    | refine SL.val (Val.lenOwn rfl (by repeat first|assumption|exact m0|apply m1) Try.underlying34 (List.length_map _)) rfl rfl ?_
    | refine SL.val (Val.lenNil rfl Try.underlying34) rfl rfl ?_
  refine SL.val (Val.eqI rfl rfl) rfl rfl ?_
  refine SL.val (Val.move rfl) rfl rfl ?_
  refine SL.bothP (t := 37) rfl (by intro hc37; exfalso; omega) ?_
  intro hc37
  refine SL.val (Val.move rfl) rfl rfl ?_
  refine SL.val (Val.nilCheck rfl) rfl rfl ?_
  refine SL.val (Val.fieldAddr tabOk rfl rfl rfl rfl rfl) rfl rfl ?_
  refine SL.val (Val.load1 tabOk rfl rfl (by first|(apply Or.inl;(repeat first|assumption|exact m0|apply m1);done)|(apply Or.inr;(repeat first|assumption|exact m0|apply m1);done)) List.not_mem_nil (by rfl)) rfl rfl ?_
  refine SL.val (Val.move rfl) rfl rfl ?_
  refine SL.val (Val.indexSl (q := z) tabOk Try.underlying34 rfl rfl rfl rfl (at_map hlt) rfl rfl) rfl rfl ?_
  refine SL.val (Val.to (C := int (R[z]'hlt).1) (Val.load1R tabOk rfl rfl rfl) rfl) rfl rfl ?_
  refine SL.val (Val.move rfl) rfl rfl ?_
  refine SL.val (Val.neI rfl rfl) rfl rfl ?_
  refine SL.val (Val.pickF rfl rfl) rfl rfl ?_
  refine SL.nil (SE.seq ?_)
  refine SC.condP rfl (by intro hc47; exfalso; omega) ?_
  intro hc47
  refine SC.skip ?_
  refine SE.seq ?_
  refine SC.seq (SC.region ?_)
  refine SL.val (Val.move rfl) rfl rfl ?_
  refine SL.val (Val.nilCheck rfl) rfl rfl ?_
  refine SL.val (Val.fieldAddr tabOk rfl rfl rfl rfl rfl) rfl rfl ?_
  refine SL.val (Val.load1 tabOk rfl rfl (by first|(apply Or.inl;(repeat first|assumption|exact m0|apply m1);done)|(apply Or.inr;(repeat first|assumption|exact m0|apply m1);done)) List.not_mem_nil (by rfl)) rfl rfl ?_
  refine SL.val (Val.move rfl) rfl rfl ?_
  refine SL.val (Val.indexSl (q := z) tabOk Try.underlying37 rfl rfl rfl rfl (at_map hlt) rfl rfl) rfl rfl ?_
  refine SL.val (Val.to (C := ptr (R[z]'hlt).2.q) (Val.load1R tabOk rfl rfl rfl) rfl) rfl rfl ?_
  refine SL.val (Val.assign rfl) rfl rfl ?_
  refine SL.nil (SE.seq ?_)
  refine SC.ret ?_
  refine SE.fin (rs := [.tmp 4]) rfl (RV.tmp rfl RV.nil) (()) (by repeat first|exact s0 _|exact s1 _|apply s2|apply s3) (by simp [It.rids]) ?_
  exact rfl
set_option maxHeartbeats 4000000 in
theorem rat_new_s (hl : lowOk low) (hin : inW low seq) (hr : (R.map (·.1)).Pairwise (· < ·)) (hn : R.length ≤ 1000) (hno : ∀ j (h : j < R.length), R[j].1 ≠ seq) : Spec Try.prog 13 [ptr q, int seq] [.blk q 39 (lgC n low R)] (fun z : Nat => [.blk z 61 (rsZ n), .blk q 39 (lgC n low (insR R seq ⟨z, []⟩))]) (fun z => ptr z) := by
  refine spec_of Try.func13 rfl Try.ntmps13 rfl fun G w => ?_
  refine SC.seq (SC.region ?_)
  refine SL.val (Val.assign rfl) rfl rfl ?_
  refine SL.nil (SE.seq ?_)
  refine SC.seq ?_
  refine SC.seq (SC.region ?_)
  refine SL.val (Val.move rfl) rfl rfl ?_
  refine SL.val (Val.move rfl) rfl rfl ?_
  refine SL.call (rin_s (q := q) (n := n) (low := low) (seq := seq) (R := R) hl) Casts.refl (by kernel_rfl) rfl rfl rfl ?_
  refine After.pure (by repeat (first | exact Reads.nil | (refine Reads.blk ?_ ?_; focus ((repeat first|assumption|exact m0|apply m1); done)) | (refine Reads.rd ?_ ?_; focus ((repeat first|assumption|exact m0|apply m1); done)) | (refine Reads.pc ?_ ?_; focus ((repeat first|assumption|exact m0|apply m1); done)) | (refine Reads.rdpc ?_ ?_; focus ((repeat first|assumption|exact m0|apply m1); done)))) (fun _ => rfl) ?_
  intro _
  refine SL.val (Val.notB rfl) rfl rfl ?_
  refine SL.nil (SE.seq ?_)
  refine SC.cond rfl (by intro hc9; exfalso; have := decide_eq_true hin; simp_all) ?_
  intro hc9
  refine SC.skip ?_
  refine SE.seq ?_
  refine SC.seq (SC.region ?_)
  refine SL.val (Val.assign rfl) rfl rfl ?_
  refine SL.nil (SE.seq ?_)
  refine SC.cutS (ι := Nat) (fun z => [.blk q 39 (lgC n low R)]) (fun z => [(0, ptr q), (1, int seq), (5, int (z : Nat))]) (fun z => z ≤ R.length ∧ (∀ j (h : j < R.length), j < z → R[j].1 < seq) ∧ ∀ h : z < R.length, seq < (R[z]'h).1) ?_ ?_
  · skip
    refine SC.block ?_
    refine SC.loop (ι := Nat) (fun z => [.blk q 39 (lgC n low R)]) (fun z => [(0, ptr q), (1, int seq), (5, int (z : Nat))]) (fun z => z ≤ R.length ∧ ∀ j (h : j < R.length), j < z → R[j].1 < seq) (fun z => R.length - z) (0) (⟨Nat.zero_le _, fun j h hj => by omega⟩) (by exact ⟨rfl, rfl, rfl, trivial⟩) (by repeat first|exact s0 _|exact s1 _|apply s2|apply s3) ?_
    intro z hz
    refine SC.seq ?_
    refine SC.seq (SC.region ?_)
    refine SL.val (Val.move rfl) rfl rfl ?_
    refine SL.val (Val.move rfl) rfl rfl ?_
    refine SL.val (Val.nilCheck rfl) rfl rfl ?_
    refine SL.val (Val.fieldAddr tabOk rfl rfl rfl rfl rfl) rfl rfl ?_
    refine SL.val (Val.load1 tabOk rfl rfl (by first|(apply Or.inl;(repeat first|assumption|exact m0|apply m1);done)|(apply Or.inr;(repeat first|assumption|exact m0|apply m1);done)) List.not_mem_nil (by rfl)) rfl rfl ?_
    first
      | refine SL.val (Val.lenSl rfl Try.underlying34 (List.length_map _)) rfl rfl ?_
      | refine SL.val (Val.lenOwn rfl (by repeat first|assumption|exact m0|apply m1) Try.underlying34 (List.length_map _)) rfl rfl ?_
      | refine SL.val (Val.lenNil rfl Try.underlying34) rfl rfl ?_
    refine SL.val (Val.ltI rfl rfl) rfl rfl ?_
    refine SL.val (Val.move rfl) rfl rfl ?_
    refine SL.bothP (t := 17) rfl ?_ ?_
    rotate_left
    · intro hc17
      iterate 9 refine SL.skip rfl rfl ?_
      refine SL.val (Val.pickF rfl rfl) rfl rfl ?_
      refine SL.nil (SE.seq ?_)
      refine SC.condF rfl ?_
      refine SC.exit ?_
      refine SE.then_ (by intro h; cases h) ?_
      refine SE.then_ (by intro h; cases h) ?_
      refine SE.exit ?_
      refine SE.meet (z) (⟨hz.1, hz.2, fun h => by have := hno z h; omega⟩) (by exact ⟨rfl, rfl, rfl, trivial⟩) (by repeat first|exact s0 _|exact s1 _|apply s2|apply s3)
    intro hc17
    have hlt : z < R.length := by omega
    refine SL.val (Val.move rfl) rfl rfl ?_
    refine SL.val (Val.nilCheck rfl) rfl rfl ?_
    refine SL.val (Val.fieldAddr tabOk rfl rfl rfl rfl rfl) rfl rfl ?_
    refine SL.val (Val.load1 tabOk rfl rfl (by first|(apply Or.inl;(repeat first|assumption|exact m0|apply m1);done)|(apply Or.inr;(repeat first|assumption|exact m0|apply m1);done)) List.not_mem_nil (by rfl)) rfl rfl ?_
    refine SL.val (Val.move rfl) rfl rfl ?_
    refine SL.val (Val.indexSl (q := z) tabOk Try.underlying34 rfl rfl rfl rfl (at_map hlt) rfl rfl) rfl rfl ?_
    refine SL.val (Val.to (C := int (R[z]'hlt).1) (Val.load1R tabOk rfl rfl rfl) rfl) rfl rfl ?_
    refine SL.val (Val.move rfl) rfl rfl ?_
    refine SL.val (Val.ltI rfl rfl) rfl rfl ?_
    refine SL.val (Val.pickT rfl rfl) rfl rfl ?_
    refine SL.nil (SE.seq ?_)
    refine SC.condP rfl ?_ ?_
    rotate_left
    · intro hc27
      refine SC.exit ?_
      refine SE.then_ (by intro h; cases h) ?_
      refine SE.then_ (by intro h; cases h) ?_
      refine SE.exit ?_
      refine SE.meet (z) (⟨hz.1, hz.2, fun h => by have := hno z h; omega⟩) (by exact ⟨rfl, rfl, rfl, trivial⟩) (by repeat first|exact s0 _|exact s1 _|apply s2|apply s3)
    intro hc27
    refine SC.skip ?_
    refine SE.seq ?_
    refine SC.block ?_
    refine SC.region ?_
    refine SL.val (Val.move rfl) rfl rfl ?_
    first
      | refine SL.val (Val.addI rfl rfl (by simp only [InR, lo, hi]; omega)) rfl rfl ?_
      | refine SL.val (Val.addW rfl rfl) rfl rfl ?_
    refine SL.val (Val.assign rfl) rfl rfl ?_
    refine SL.nil ?_
    refine SE.inBlock ?_
    refine SE.round (z + 1) (by first | omega | (dsimp only; omega)) (⟨by omega, fun j h hj => by
          rcases Nat.lt_or_ge j z with h1 | h1
          · exact hz.2 j h h1
          · obtain rfl : j = z := by omega
            assumption⟩) (by exact ⟨rfl, rfl, rfl, trivial⟩) (by repeat first|exact s0 _|exact s1 _|apply s2|apply s3)
  · intro z hz
    refine SC.seq ?_
    refine SC.cutS (ι := Nat) (fun z => [.blk q 39 (lgC n low R)]) (fun z => [(0, ptr q), (1, int seq), (5, int (z : Nat)), (47, boo true)]) (fun z => z ≤ R.length ∧ (∀ j (h : j < R.length), j < z → R[j].1 < seq) ∧ ∀ h : z < R.length, seq < (R[z]'h).1) ?_ ?_
    · skip
      refine SC.region ?_
      refine SL.val (Val.move rfl) rfl rfl ?_
      refine SL.val (Val.move rfl) rfl rfl ?_
      refine SL.val (Val.nilCheck rfl) rfl rfl ?_
      refine SL.val (Val.fieldAddr tabOk rfl rfl rfl rfl rfl) rfl rfl ?_
      refine SL.val (Val.load1 tabOk rfl rfl (by first|(apply Or.inl;(repeat first|assumption|exact m0|apply m1);done)|(apply Or.inr;(repeat first|assumption|exact m0|apply m1);done)) List.not_mem_nil (by rfl)) rfl rfl ?_
      first
        | refine SL.val (Val.lenSl rfl Try.underlying34 (List.length_map _)) rfl rfl ?_
        | refine SL.val (Val.lenOwn rfl (by repeat first|assumption|exact m0|apply m1) Try.underlying34 (List.length_map _)) rfl rfl ?_
        | refine SL.val (Val.lenNil rfl Try.underlying34) rfl rfl ?_
      refine SL.val (Val.eqI rfl rfl) rfl rfl ?_
      refine SL.val (Val.move rfl) rfl rfl ?_
      refine SL.bothP (t := 37) rfl ?_ ?_
      · intro hc37
        iterate 9 refine SL.skip rfl rfl ?_
        refine SL.val (Val.pickT rfl rfl) rfl rfl ?_
        refine SL.nil ?_
        refine SE.meet (z) (hz) (by exact ⟨rfl, rfl, rfl, rfl, trivial⟩) (by repeat first|exact s0 _|exact s1 _|apply s2|apply s3)
      intro hc37
      have hlt : z < R.length := by have := hz.1; omega
      refine SL.val (Val.move rfl) rfl rfl ?_
      refine SL.val (Val.nilCheck rfl) rfl rfl ?_
      refine SL.val (Val.fieldAddr tabOk rfl rfl rfl rfl rfl) rfl rfl ?_
      refine SL.val (Val.load1 tabOk rfl rfl (by first|(apply Or.inl;(repeat first|assumption|exact m0|apply m1);done)|(apply Or.inr;(repeat first|assumption|exact m0|apply m1);done)) List.not_mem_nil (by rfl)) rfl rfl ?_
      refine SL.val (Val.move rfl) rfl rfl ?_
      refine SL.val (Val.indexSl (q := z) tabOk Try.underlying34 rfl rfl rfl rfl (at_map hlt) rfl rfl) rfl rfl ?_
      refine SL.val (Val.to (C := int (R[z]'hlt).1) (Val.load1R tabOk rfl rfl rfl) rfl) rfl rfl ?_
      refine SL.val (Val.move rfl) rfl rfl ?_
      refine SL.val (Val.to (C := boo true) (Val.neI rfl rfl) (congrArg (fun b => Abs.v (Value.bool b)) (decide_eq_true (hno z hlt)))) rfl rfl ?_
      refine SL.val (Val.pickF rfl rfl) rfl rfl ?_
      refine SL.nil ?_
      refine SE.meet (z) (hz) (by exact ⟨rfl, rfl, rfl, rfl, trivial⟩) (by repeat first|exact s0 _|exact s1 _|apply s2|apply s3)
    · intro z hz
      refine SC.condT rfl ?_
      refine SC.seq ?_
      have hge : ∀ h : z < R.length, seq < (R[z]'h).1 := hz.2.2
      refine SC.drawZ (mids ([] : Blks) ++ []) (.q 0 (.q 2 (.q 3 (.q 4 (.q 5 (.q 6 (.q 7 (.q 9 (.q 12 (.q 13 (.q 14 (.q 15 (.q 16 (.q 17 (.two 1 10 (.two 8 10 (.e 10 (.e 11 (.e 18 (.q 19 (.q 20 .nil))))) (.e 8 (.e 11 (.e 18 (.q 19 (.q 20 .nil)))))) (.e 1 (.e 8 (.e 11 (.e 18 (.q 19 (.q 20 .nil))))))))))))))))))))) (by kernel_rfl) (by kernel_rfl) ?_
      refine SX.val rfl (Val.move rfl) (by first | exact mids_head | (simp [mids, It.mids, ownPc, mapPc]; done) | (intro k hk; simp [mids, It.mids, ownPc, mapPc, mapAtPc] at hk ⊢; grind)) rfl rfl ?_
      refine SX.val rfl (Val.move rfl) (by first | exact mids_head | (simp [mids, It.mids, ownPc, mapPc]; done) | (intro k hk; simp [mids, It.mids, ownPc, mapPc, mapAtPc] at hk ⊢; grind)) rfl rfl ?_
      refine SX.val rfl (Val.nilCheck rfl) (by first | exact mids_head | (simp [mids, It.mids, ownPc, mapPc]; done) | (intro k hk; simp [mids, It.mids, ownPc, mapPc, mapAtPc] at hk ⊢; grind)) rfl rfl ?_
      refine SX.val rfl (Val.fieldAddr tabOk rfl rfl rfl rfl rfl) (by first | exact mids_head | (simp [mids, It.mids, ownPc, mapPc]; done) | (intro k hk; simp [mids, It.mids, ownPc, mapPc, mapAtPc] at hk ⊢; grind)) rfl rfl ?_
      refine SX.val rfl (Val.load1 tabOk rfl rfl (by first|(apply Or.inl;(repeat first|assumption|exact m0|apply m1);done)|(apply Or.inr;(repeat first|assumption|exact m0|apply m1);done)) (by simp [mids, It.mids, ownPc]) (by rfl)) (by first | exact mids_head | (simp [mids, It.mids, ownPc, mapPc]; done) | (intro k hk; simp [mids, It.mids, ownPc, mapPc, mapAtPc] at hk ⊢; grind)) rfl rfl ?_
      refine SX.val rfl (Val.move rfl) (by first | exact mids_head | (simp [mids, It.mids, ownPc, mapPc]; done) | (intro k hk; simp [mids, It.mids, ownPc, mapPc, mapAtPc] at hk ⊢; grind)) rfl rfl ?_
      refine SX.val rfl (Val.sliceHi (q := z) tabOk Try.underlying34 rfl rfl rfl rfl rfl (by rw [List.length_map]; exact hz.1)) (by first | exact mids_head | (simp [mids, It.mids, ownPc, mapPc]; done) | (intro k hk; simp [mids, It.mids, ownPc, mapPc, mapAtPc] at hk ⊢; grind)) rfl rfl ?_
      refine SX.val rfl (Val.move rfl) (by first | exact mids_head | (simp [mids, It.mids, ownPc, mapPc]; done) | (intro k hk; simp [mids, It.mids, ownPc, mapPc, mapAtPc] at hk ⊢; grind)) rfl rfl ?_
      refine SX.val rfl (Val.move rfl) (by first | exact mids_head | (simp [mids, It.mids, ownPc, mapPc]; done) | (intro k hk; simp [mids, It.mids, ownPc, mapPc, mapAtPc] at hk ⊢; grind)) rfl rfl ?_
      refine SX.val rfl (Val.nilCheck rfl) (by first | exact mids_head | (simp [mids, It.mids, ownPc, mapPc]; done) | (intro k hk; simp [mids, It.mids, ownPc, mapPc, mapAtPc] at hk ⊢; grind)) rfl rfl ?_
      refine SX.val rfl (Val.fieldAddr tabOk rfl rfl rfl rfl rfl) (by first | exact mids_head | (simp [mids, It.mids, ownPc, mapPc]; done) | (intro k hk; simp [mids, It.mids, ownPc, mapPc, mapAtPc] at hk ⊢; grind)) rfl rfl ?_
      refine SX.val rfl (Val.load1 tabOk rfl rfl (by first|(apply Or.inl;(repeat first|assumption|exact m0|apply m1);done)|(apply Or.inr;(repeat first|assumption|exact m0|apply m1);done)) (by simp [mids, It.mids, ownPc]) (by rfl)) (by first | exact mids_head | (simp [mids, It.mids, ownPc, mapPc]; done) | (intro k hk; simp [mids, It.mids, ownPc, mapPc, mapAtPc] at hk ⊢; grind)) rfl rfl ?_
      refine SX.val rfl (Val.move rfl) (by first | exact mids_head | (simp [mids, It.mids, ownPc, mapPc]; done) | (intro k hk; simp [mids, It.mids, ownPc, mapPc, mapAtPc] at hk ⊢; grind)) rfl rfl ?_
      refine SX.val rfl (Val.sliceLo (q := z) tabOk Try.underlying34 rfl rfl rfl rfl rfl (by rw [List.length_map]; exact hz.1)) (by first | exact mids_head | (simp [mids, It.mids, ownPc, mapPc]; done) | (intro k hk; simp [mids, It.mids, ownPc, mapPc, mapAtPc] at hk ⊢; grind)) rfl rfl ?_
      refine SX.two ?_ ?_
      · skip
        refine SX.effN [] [] rfl (Eff.buildOwn tabOk Try.underlying34 rfl rfl rfl rfl rfl rfl rfl) rfl (by first | exact own_mid List.mem_cons_self | exact own_mid (List.mem_cons_of_mem _ List.mem_cons_self) | (simp; done)) rfl rfl ?_
        rintro _ _ ⟨r49, rfl, rfl⟩
        refine ⟨[own 2 1 r49 ([])], rfl, ?_⟩
        refine SX.two ?_ ?_
        · skip
          refine SX.effN [own 2 1 r49 ([])] [] rfl (Eff.append tabOk [] Try.underlying34 rfl rfl rfl rfl rfl rfl (by intro c hc; first | (have hc := List.mem_of_mem_take hc; obtain ⟨x, _, rfl⟩ := List.mem_map.1 hc; rfl) | (have hc := List.mem_of_mem_drop hc; obtain ⟨x, _, rfl⟩ := List.mem_map.1 hc; rfl) | (rw [List.mem_singleton] at hc; subst hc; rfl)) (by unfold maxLen; simp only [List.length_append, List.length_take, List.length_drop, List.length_map, List.length_cons, List.length_nil]; omega) (by rw [show Try.prog.bytesOf 2 = 8 by kernel_rfl]; simp only [List.length_append, List.length_take, List.length_drop, List.length_map, List.length_cons, List.length_nil]; omega)) rfl (by first | exact own_mid List.mem_cons_self | exact own_mid (List.mem_cons_of_mem _ List.mem_cons_self) | (simp; done)) rfl rfl ?_
          rintro _ _ ⟨r56, rfl, rfl⟩
          refine ⟨[own 2 1 r56 ([] ++ ((R.map fun x => [int x.1]).take z))], rfl, ?_⟩
          refine SX.eff rfl (Eff.buildSl tabOk Try.underlying34 rfl rfl rfl rfl rfl rfl rfl) (by simp) rfl rfl ?_
          rintro _ _ ⟨rfl, rfl⟩
          refine SX.effN [own 2 1 r56 ([] ++ ((R.map fun x => [int x.1]).take z))] [] rfl (Eff.append tabOk [] Try.underlying34 rfl rfl rfl rfl rfl rfl (by intro c hc; first | (have hc := List.mem_of_mem_take hc; obtain ⟨x, _, rfl⟩ := List.mem_map.1 hc; rfl) | (have hc := List.mem_of_mem_drop hc; obtain ⟨x, _, rfl⟩ := List.mem_map.1 hc; rfl) | (rw [List.mem_singleton] at hc; subst hc; rfl)) (by unfold maxLen; simp only [List.length_append, List.length_take, List.length_drop, List.length_map, List.length_cons, List.length_nil]; omega) (by rw [show Try.prog.bytesOf 2 = 8 by kernel_rfl]; simp only [List.length_append, List.length_take, List.length_drop, List.length_map, List.length_cons, List.length_nil]; omega)) rfl (by first | exact own_mid List.mem_cons_self | exact own_mid (List.mem_cons_of_mem _ List.mem_cons_self) | (simp; done)) rfl rfl ?_
          rintro _ _ ⟨r59, rfl, rfl⟩
          refine ⟨[own 2 1 r59 ([] ++ ((R.map fun x => [int x.1]).take z) ++ [[int seq]])], rfl, ?_⟩
          refine SX.effN [own 2 1 r59 ([] ++ ((R.map fun x => [int x.1]).take z) ++ [[int seq]])] [] rfl (Eff.append tabOk [] Try.underlying34 rfl rfl rfl rfl rfl rfl (by intro c hc; first | (have hc := List.mem_of_mem_take hc; obtain ⟨x, _, rfl⟩ := List.mem_map.1 hc; rfl) | (have hc := List.mem_of_mem_drop hc; obtain ⟨x, _, rfl⟩ := List.mem_map.1 hc; rfl) | (rw [List.mem_singleton] at hc; subst hc; rfl)) (by unfold maxLen; simp only [List.length_append, List.length_take, List.length_drop, List.length_map, List.length_cons, List.length_nil]; omega) (by rw [show Try.prog.bytesOf 2 = 8 by kernel_rfl]; simp only [List.length_append, List.length_take, List.length_drop, List.length_map, List.length_cons, List.length_nil]; omega)) rfl (by first | exact own_mid List.mem_cons_self | exact own_mid (List.mem_cons_of_mem _ List.mem_cons_self) | (simp; done)) rfl rfl ?_
          rintro _ _ ⟨r66, rfl, rfl⟩
          refine ⟨[own 2 1 r66 ([] ++ ((R.map fun x => [int x.1]).take z) ++ [[int seq]] ++ ((R.map fun x => [int x.1]).drop z))], rfl, ?_⟩
          refine SX.val rfl (Val.nilCheck rfl) (by first | exact mids_head | (simp [mids, It.mids, ownPc, mapPc]; done) | (intro k hk; simp [mids, It.mids, ownPc, mapPc, mapAtPc] at hk ⊢; grind)) rfl rfl ?_
          refine SX.val rfl (Val.fieldAddr tabOk rfl rfl rfl rfl rfl) (by first | exact mids_head | (simp [mids, It.mids, ownPc, mapPc]; done) | (intro k hk; simp [mids, It.mids, ownPc, mapPc, mapAtPc] at hk ⊢; grind)) rfl rfl ?_
          refine SX.nil ?_
          refine SE.effZ rfl (Eff.storeOwn tabOk rfl rfl rfl rfl (by repeat first|assumption|exact m0|apply m1) (by repeat first|assumption|exact Upd.here|apply Upd.there) rfl (by rfl)) rfl rfl ?_
          rintro _ _ ⟨rfl, rfl⟩
          refine SE.seq ?_
          first
            | refine SC.freezeC [] 2 rfl Upd.here rfl ?_
            | refine SC.freezeC [_] 2 rfl Upd.here rfl ?_
          refine SC.drawZ (mids ([] : Blks) ++ []) (.q 0 (.q 2 (.q 3 (.q 4 (.q 5 (.q 6 (.q 7 (.q 9 (.q 10 (.q 11 (.q 12 (.q 13 (.q 17 (.q 18 (.q 19 (.q 20 (.q 21 (.q 22 (.two 1 14 (.two 8 14 (.e 14 (.e 15 (.e 16 (.e 23 (.q 24 (.q 25 .nil)))))) (.two 8 15 (.e 15 (.e 16 (.e 23 (.q 24 (.q 25 .nil))))) (.e 8 (.e 16 (.e 23 (.q 24 (.q 25 .nil))))))) (.two 1 15 (.two 8 15 (.e 15 (.e 16 (.e 23 (.q 24 (.q 25 .nil))))) (.e 8 (.e 16 (.e 23 (.q 24 (.q 25 .nil)))))) (.e 1 (.e 8 (.e 16 (.e 23 (.q 24 (.q 25 .nil)))))))))))))))))))))))))) (by kernel_rfl) (by kernel_rfl) ?_
          refine SX.val rfl (Val.move rfl) (by first | exact mids_head | (simp [mids, It.mids, ownPc, mapPc]; done) | (intro k hk; simp [mids, It.mids, ownPc, mapPc, mapAtPc] at hk ⊢; grind)) rfl rfl ?_
          refine SX.val rfl (Val.move rfl) (by first | exact mids_head | (simp [mids, It.mids, ownPc, mapPc]; done) | (intro k hk; simp [mids, It.mids, ownPc, mapPc, mapAtPc] at hk ⊢; grind)) rfl rfl ?_
          refine SX.val rfl (Val.nilCheck rfl) (by first | exact mids_head | (simp [mids, It.mids, ownPc, mapPc]; done) | (intro k hk; simp [mids, It.mids, ownPc, mapPc, mapAtPc] at hk ⊢; grind)) rfl rfl ?_
          refine SX.val rfl (Val.fieldAddr tabOk rfl rfl rfl rfl rfl) (by first | exact mids_head | (simp [mids, It.mids, ownPc, mapPc]; done) | (intro k hk; simp [mids, It.mids, ownPc, mapPc, mapAtPc] at hk ⊢; grind)) rfl rfl ?_
          refine SX.val rfl (Val.load1 tabOk rfl rfl (by first|(apply Or.inl;(repeat first|assumption|exact m0|apply m1);done)|(apply Or.inr;(repeat first|assumption|exact m0|apply m1);done)) (by simp [mids, It.mids, ownPc]) (by rfl)) (by first | exact mids_head | (simp [mids, It.mids, ownPc, mapPc]; done) | (intro k hk; simp [mids, It.mids, ownPc, mapPc, mapAtPc] at hk ⊢; grind)) rfl rfl ?_
          refine SX.val rfl (Val.move rfl) (by first | exact mids_head | (simp [mids, It.mids, ownPc, mapPc]; done) | (intro k hk; simp [mids, It.mids, ownPc, mapPc, mapAtPc] at hk ⊢; grind)) rfl rfl ?_
          refine SX.val rfl (Val.sliceHi (q := z) tabOk Try.underlying37 rfl rfl rfl rfl rfl (by rw [List.length_map]; exact hz.1)) (by first | exact mids_head | (simp [mids, It.mids, ownPc, mapPc]; done) | (intro k hk; simp [mids, It.mids, ownPc, mapPc, mapAtPc] at hk ⊢; grind)) rfl rfl ?_
          refine SX.val rfl (Val.move rfl) (by first | exact mids_head | (simp [mids, It.mids, ownPc, mapPc]; done) | (intro k hk; simp [mids, It.mids, ownPc, mapPc, mapAtPc] at hk ⊢; grind)) rfl rfl ?_
          refine SX.val rfl (Val.nilCheck rfl) (by first | exact mids_head | (simp [mids, It.mids, ownPc, mapPc]; done) | (intro k hk; simp [mids, It.mids, ownPc, mapPc, mapAtPc] at hk ⊢; grind)) rfl rfl ?_
          refine SX.val rfl (Val.fieldAddr tabOk rfl rfl rfl rfl rfl) (by first | exact mids_head | (simp [mids, It.mids, ownPc, mapPc]; done) | (intro k hk; simp [mids, It.mids, ownPc, mapPc, mapAtPc] at hk ⊢; grind)) rfl rfl ?_
          refine SX.val rfl (Val.load1 tabOk rfl rfl (by first|(apply Or.inl;(repeat first|assumption|exact m0|apply m1);done)|(apply Or.inr;(repeat first|assumption|exact m0|apply m1);done)) (by simp [mids, It.mids, ownPc]) (by rfl)) (by first | exact mids_head | (simp [mids, It.mids, ownPc, mapPc]; done) | (intro k hk; simp [mids, It.mids, ownPc, mapPc, mapAtPc] at hk ⊢; grind)) rfl rfl ?_
          refine SX.val rfl (Val.buildS (L := rsZ n) tabOk rfl rfl rfl rfl) (by first | exact mids_head | (simp [mids, It.mids, ownPc, mapPc]; done) | (intro k hk; simp [mids, It.mids, ownPc, mapPc, mapAtPc] at hk ⊢; grind)) rfl rfl ?_
          refine SX.val rfl (Val.move rfl) (by first | exact mids_head | (simp [mids, It.mids, ownPc, mapPc]; done) | (intro k hk; simp [mids, It.mids, ownPc, mapPc, mapAtPc] at hk ⊢; grind)) rfl rfl ?_
          refine SX.val rfl (Val.nilCheck rfl) (by first | exact mids_head | (simp [mids, It.mids, ownPc, mapPc]; done) | (intro k hk; simp [mids, It.mids, ownPc, mapPc, mapAtPc] at hk ⊢; grind)) rfl rfl ?_
          refine SX.val rfl (Val.fieldAddr tabOk rfl rfl rfl rfl rfl) (by first | exact mids_head | (simp [mids, It.mids, ownPc, mapPc]; done) | (intro k hk; simp [mids, It.mids, ownPc, mapPc, mapAtPc] at hk ⊢; grind)) rfl rfl ?_
          refine SX.val rfl (Val.load1 tabOk rfl rfl (by first|(apply Or.inl;(repeat first|assumption|exact m0|apply m1);done)|(apply Or.inr;(repeat first|assumption|exact m0|apply m1);done)) (by simp [mids, It.mids, ownPc]) (by rfl)) (by first | exact mids_head | (simp [mids, It.mids, ownPc, mapPc]; done) | (intro k hk; simp [mids, It.mids, ownPc, mapPc, mapAtPc] at hk ⊢; grind)) rfl rfl ?_
          refine SX.val rfl (Val.move rfl) (by first | exact mids_head | (simp [mids, It.mids, ownPc, mapPc]; done) | (intro k hk; simp [mids, It.mids, ownPc, mapPc, mapAtPc] at hk ⊢; grind)) rfl rfl ?_
          refine SX.val rfl (Val.sliceLo (q := z) tabOk Try.underlying37 rfl rfl rfl rfl rfl (by rw [List.length_map]; exact hz.1)) (by first | exact mids_head | (simp [mids, It.mids, ownPc, mapPc]; done) | (intro k hk; simp [mids, It.mids, ownPc, mapPc, mapAtPc] at hk ⊢; grind)) rfl rfl ?_
          refine SX.two ?_ ?_
          · skip
            refine SX.effN [] [] rfl (Eff.buildOwn tabOk Try.underlying37 rfl rfl rfl rfl rfl rfl rfl) rfl (by first | exact own_mid List.mem_cons_self | exact own_mid (List.mem_cons_of_mem _ List.mem_cons_self) | (simp; done)) rfl rfl ?_
            rintro _ _ ⟨r70, rfl, rfl⟩
            refine ⟨[own 44 1 r70 ([])], rfl, ?_⟩
            refine SX.two ?_ ?_
            · skip
              refine SX.effN [own 44 1 r70 ([])] [] rfl (Eff.append tabOk [] Try.underlying37 rfl rfl rfl rfl rfl rfl (by intro c hc; first | (have hc := List.mem_of_mem_take hc; obtain ⟨x, _, rfl⟩ := List.mem_map.1 hc; rfl) | (have hc := List.mem_of_mem_drop hc; obtain ⟨x, _, rfl⟩ := List.mem_map.1 hc; rfl) | (rw [List.mem_singleton] at hc; subst hc; rfl)) (by unfold maxLen; simp only [List.length_append, List.length_take, List.length_drop, List.length_map, List.length_cons, List.length_nil]; omega) (by rw [show Try.prog.bytesOf 44 = 8 by kernel_rfl]; simp only [List.length_append, List.length_take, List.length_drop, List.length_map, List.length_cons, List.length_nil]; omega)) rfl (by first | exact own_mid List.mem_cons_self | exact own_mid (List.mem_cons_of_mem _ List.mem_cons_self) | (simp; done)) rfl rfl ?_
              rintro _ _ ⟨r77, rfl, rfl⟩
              refine ⟨[own 44 1 r77 ([] ++ ((R.map fun x => [ptr x.2.q]).take z))], rfl, ?_⟩
              refine SX.effN [own 44 1 r77 ([] ++ ((R.map fun x => [ptr x.2.q]).take z))] [] rfl (Eff.boxA (cs := rsZ n) rfl) rfl (by first | exact own_mid List.mem_cons_self | exact own_mid (List.mem_cons_of_mem _ List.mem_cons_self) | (simp; done)) rfl rfl ?_
              rintro _ _ ⟨b83, rfl, rfl⟩
              refine ⟨[.blk b83 61 (rsZ n), own 44 1 r77 ([] ++ ((R.map fun x => [ptr x.2.q]).take z))], rfl, ?_⟩
              refine SX.eff rfl (Eff.buildSl tabOk Try.underlying37 rfl rfl rfl rfl rfl rfl rfl) (by simp) rfl rfl ?_
              rintro _ _ ⟨rfl, rfl⟩
              refine SX.effN [.blk b83 61 (rsZ n), own 44 1 r77 ([] ++ ((R.map fun x => [ptr x.2.q]).take z))] [] rfl (Eff.append tabOk [_] Try.underlying37 rfl rfl rfl rfl rfl rfl (by intro c hc; first | (have hc := List.mem_of_mem_take hc; obtain ⟨x, _, rfl⟩ := List.mem_map.1 hc; rfl) | (have hc := List.mem_of_mem_drop hc; obtain ⟨x, _, rfl⟩ := List.mem_map.1 hc; rfl) | (rw [List.mem_singleton] at hc; subst hc; rfl)) (by unfold maxLen; simp only [List.length_append, List.length_take, List.length_drop, List.length_map, List.length_cons, List.length_nil]; omega) (by rw [show Try.prog.bytesOf 44 = 8 by kernel_rfl]; simp only [List.length_append, List.length_take, List.length_drop, List.length_map, List.length_cons, List.length_nil]; omega)) rfl (by first | exact own_mid List.mem_cons_self | exact own_mid (List.mem_cons_of_mem _ List.mem_cons_self) | (simp; done)) rfl rfl ?_
              rintro _ _ ⟨r85, rfl, rfl⟩
              refine ⟨[.blk b83 61 (rsZ n), own 44 1 r85 ([] ++ ((R.map fun x => [ptr x.2.q]).take z) ++ [[ptr b83]])], rfl, ?_⟩
              refine SX.effN [.blk b83 61 (rsZ n), own 44 1 r85 ([] ++ ((R.map fun x => [ptr x.2.q]).take z) ++ [[ptr b83]])] [] rfl (Eff.append tabOk [_] Try.underlying37 rfl rfl rfl rfl rfl rfl (by intro c hc; first | (have hc := List.mem_of_mem_take hc; obtain ⟨x, _, rfl⟩ := List.mem_map.1 hc; rfl) | (have hc := List.mem_of_mem_drop hc; obtain ⟨x, _, rfl⟩ := List.mem_map.1 hc; rfl) | (rw [List.mem_singleton] at hc; subst hc; rfl)) (by unfold maxLen; simp only [List.length_append, List.length_take, List.length_drop, List.length_map, List.length_cons, List.length_nil]; omega) (by rw [show Try.prog.bytesOf 44 = 8 by kernel_rfl]; simp only [List.length_append, List.length_take, List.length_drop, List.length_map, List.length_cons, List.length_nil]; omega)) rfl (by first | exact own_mid List.mem_cons_self | exact own_mid (List.mem_cons_of_mem _ List.mem_cons_self) | (simp; done)) rfl rfl ?_
              rintro _ _ ⟨r92, rfl, rfl⟩
              refine ⟨[.blk b83 61 (rsZ n), own 44 1 r92 ([] ++ ((R.map fun x => [ptr x.2.q]).take z) ++ [[ptr b83]] ++ ((R.map fun x => [ptr x.2.q]).drop z))], rfl, ?_⟩
              refine SX.val rfl (Val.nilCheck rfl) (by first | exact mids_head | (simp [mids, It.mids, ownPc, mapPc]; done) | (intro k hk; simp [mids, It.mids, ownPc, mapPc, mapAtPc] at hk ⊢; grind)) rfl rfl ?_
              refine SX.val rfl (Val.fieldAddr tabOk rfl rfl rfl rfl rfl) (by first | exact mids_head | (simp [mids, It.mids, ownPc, mapPc]; done) | (intro k hk; simp [mids, It.mids, ownPc, mapPc, mapAtPc] at hk ⊢; grind)) rfl rfl ?_
              refine SX.nil ?_
              refine SE.effZ rfl (Eff.storeOwn tabOk rfl rfl rfl rfl (by repeat first|assumption|exact m0|apply m1) (by repeat first|assumption|exact Upd.here|apply Upd.there) rfl (by rfl)) rfl rfl ?_
              rintro _ _ ⟨rfl, rfl⟩
              refine SE.seq ?_
              refine SC.seq ?_
              first
                | refine SC.freezeC [] 3 rfl (Upd.there Upd.here) rfl ?_
                | refine SC.freezeC [_] 3 rfl (Upd.there Upd.here) rfl ?_
              refine SC.region ?_
              refine SL.val (Val.move rfl) rfl rfl ?_
              refine SL.val (Val.nilCheck rfl) rfl rfl ?_
              refine SL.val (Val.fieldAddr tabOk rfl rfl rfl rfl rfl) rfl rfl ?_
              refine SL.val (Val.load1 tabOk rfl rfl (by first|(apply Or.inl;(repeat first|assumption|exact m0|apply m1);done)|(apply Or.inr;(repeat first|assumption|exact m0|apply m1);done)) List.not_mem_nil (by rfl)) rfl rfl ?_
              refine SL.val (Val.move rfl) rfl rfl ?_
              refine SL.val (Val.indexSl (q := z) tabOk Try.underlying37 rfl rfl rfl rfl (at_ins hz.1) rfl rfl) rfl rfl ?_
              refine SL.val (Val.to (C := ptr b83) (Val.load1R tabOk rfl rfl rfl) rfl) rfl rfl ?_
              refine SL.val (Val.assign rfl) rfl rfl ?_
              refine SL.nil (SE.seq ?_)
              refine SC.ret ?_
              have he : lgC n low (insR R seq ⟨b83, []⟩) = [int n, int low, .sl 1 ([] ++ ((R.map fun x => [int x.1]).take z) ++ [[int seq]] ++ ((R.map fun x => [int x.1]).drop z)), .sl 1 ([] ++ ((R.map fun x => [ptr x.2.q]).take z) ++ [[ptr b83]] ++ ((R.map fun x => [ptr x.2.q]).drop z))] := lg_ins hr hz.2.1 hge
              refine SE.fin (rs := [.tmp 4]) rfl (RV.tmp rfl RV.nil) (b83) (by rw [he]; exact List.Sublist.refl _) (by simp [It.rids]) ?_
              exact rfl
            · skip
              refine SX.effN [own 44 1 r70 ([])] [] rfl (Eff.boxA (cs := rsZ n) rfl) rfl (by first | exact own_mid List.mem_cons_self | exact own_mid (List.mem_cons_of_mem _ List.mem_cons_self) | (simp; done)) rfl rfl ?_
              rintro _ _ ⟨b83, rfl, rfl⟩
              refine ⟨[.blk b83 61 (rsZ n), own 44 1 r70 ([])], rfl, ?_⟩
              refine SX.two ?_ ?_
              · skip
                refine SX.effN [.blk b83 61 (rsZ n), own 44 1 r70 ([])] [] rfl (Eff.append tabOk [_] Try.underlying37 rfl rfl rfl rfl rfl rfl (by intro c hc; first | (have hc := List.mem_of_mem_take hc; obtain ⟨x, _, rfl⟩ := List.mem_map.1 hc; rfl) | (have hc := List.mem_of_mem_drop hc; obtain ⟨x, _, rfl⟩ := List.mem_map.1 hc; rfl) | (rw [List.mem_singleton] at hc; subst hc; rfl)) (by unfold maxLen; simp only [List.length_append, List.length_take, List.length_drop, List.length_map, List.length_cons, List.length_nil]; omega) (by rw [show Try.prog.bytesOf 44 = 8 by kernel_rfl]; simp only [List.length_append, List.length_take, List.length_drop, List.length_map, List.length_cons, List.length_nil]; omega)) rfl (by first | exact own_mid List.mem_cons_self | exact own_mid (List.mem_cons_of_mem _ List.mem_cons_self) | (simp; done)) rfl rfl ?_
                rintro _ _ ⟨r77, rfl, rfl⟩
                refine ⟨[.blk b83 61 (rsZ n), own 44 1 r77 ([] ++ ((R.map fun x => [ptr x.2.q]).take z))], rfl, ?_⟩
                refine SX.eff rfl (Eff.buildSl tabOk Try.underlying37 rfl rfl rfl rfl rfl rfl rfl) (by simp) rfl rfl ?_
                rintro _ _ ⟨rfl, rfl⟩
                refine SX.effN [.blk b83 61 (rsZ n), own 44 1 r77 ([] ++ ((R.map fun x => [ptr x.2.q]).take z))] [] rfl (Eff.append tabOk [_] Try.underlying37 rfl rfl rfl rfl rfl rfl (by intro c hc; first | (have hc := List.mem_of_mem_take hc; obtain ⟨x, _, rfl⟩ := List.mem_map.1 hc; rfl) | (have hc := List.mem_of_mem_drop hc; obtain ⟨x, _, rfl⟩ := List.mem_map.1 hc; rfl) | (rw [List.mem_singleton] at hc; subst hc; rfl)) (by unfold maxLen; simp only [List.length_append, List.length_take, List.length_drop, List.length_map, List.length_cons, List.length_nil]; omega) (by rw [show Try.prog.bytesOf 44 = 8 by kernel_rfl]; simp only [List.length_append, List.length_take, List.length_drop, List.length_map, List.length_cons, List.length_nil]; omega)) rfl (by first | exact own_mid List.mem_cons_self | exact own_mid (List.mem_cons_of_mem _ List.mem_cons_self) | (simp; done)) rfl rfl ?_
                rintro _ _ ⟨r85, rfl, rfl⟩
                refine ⟨[.blk b83 61 (rsZ n), own 44 1 r85 ([] ++ ((R.map fun x => [ptr x.2.q]).take z) ++ [[ptr b83]])], rfl, ?_⟩
                refine SX.effN [.blk b83 61 (rsZ n), own 44 1 r85 ([] ++ ((R.map fun x => [ptr x.2.q]).take z) ++ [[ptr b83]])] [] rfl (Eff.append tabOk [_] Try.underlying37 rfl rfl rfl rfl rfl rfl (by intro c hc; first | (have hc := List.mem_of_mem_take hc; obtain ⟨x, _, rfl⟩ := List.mem_map.1 hc; rfl) | (have hc := List.mem_of_mem_drop hc; obtain ⟨x, _, rfl⟩ := List.mem_map.1 hc; rfl) | (rw [List.mem_singleton] at hc; subst hc; rfl)) (by unfold maxLen; simp only [List.length_append, List.length_take, List.length_drop, List.length_map, List.length_cons, List.length_nil]; omega) (by rw [show Try.prog.bytesOf 44 = 8 by kernel_rfl]; simp only [List.length_append, List.length_take, List.length_drop, List.length_map, List.length_cons, List.length_nil]; omega)) rfl (by first | exact own_mid List.mem_cons_self | exact own_mid (List.mem_cons_of_mem _ List.mem_cons_self) | (simp; done)) rfl rfl ?_
                rintro _ _ ⟨r92, rfl, rfl⟩
                refine ⟨[.blk b83 61 (rsZ n), own 44 1 r92 ([] ++ ((R.map fun x => [ptr x.2.q]).take z) ++ [[ptr b83]] ++ ((R.map fun x => [ptr x.2.q]).drop z))], rfl, ?_⟩
                refine SX.val rfl (Val.nilCheck rfl) (by first | exact mids_head | (simp [mids, It.mids, ownPc, mapPc]; done) | (intro k hk; simp [mids, It.mids, ownPc, mapPc, mapAtPc] at hk ⊢; grind)) rfl rfl ?_
                refine SX.val rfl (Val.fieldAddr tabOk rfl rfl rfl rfl rfl) (by first | exact mids_head | (simp [mids, It.mids, ownPc, mapPc]; done) | (intro k hk; simp [mids, It.mids, ownPc, mapPc, mapAtPc] at hk ⊢; grind)) rfl rfl ?_
                refine SX.nil ?_
                refine SE.effZ rfl (Eff.storeOwn tabOk rfl rfl rfl rfl (by repeat first|assumption|exact m0|apply m1) (by repeat first|assumption|exact Upd.here|apply Upd.there) rfl (by rfl)) rfl rfl ?_
                rintro _ _ ⟨rfl, rfl⟩
                refine SE.seq ?_
                refine SC.seq ?_
                first
                  | refine SC.freezeC [] 3 rfl (Upd.there Upd.here) rfl ?_
                  | refine SC.freezeC [_] 3 rfl (Upd.there Upd.here) rfl ?_
                refine SC.region ?_
                refine SL.val (Val.move rfl) rfl rfl ?_
                refine SL.val (Val.nilCheck rfl) rfl rfl ?_
                refine SL.val (Val.fieldAddr tabOk rfl rfl rfl rfl rfl) rfl rfl ?_
                refine SL.val (Val.load1 tabOk rfl rfl (by first|(apply Or.inl;(repeat first|assumption|exact m0|apply m1);done)|(apply Or.inr;(repeat first|assumption|exact m0|apply m1);done)) List.not_mem_nil (by rfl)) rfl rfl ?_
                refine SL.val (Val.move rfl) rfl rfl ?_
                refine SL.val (Val.indexSl (q := z) tabOk Try.underlying37 rfl rfl rfl rfl (at_ins hz.1) rfl rfl) rfl rfl ?_
                refine SL.val (Val.to (C := ptr b83) (Val.load1R tabOk rfl rfl rfl) rfl) rfl rfl ?_
                refine SL.val (Val.assign rfl) rfl rfl ?_
                refine SL.nil (SE.seq ?_)
                refine SC.ret ?_
                have he : lgC n low (insR R seq ⟨b83, []⟩) = [int n, int low, .sl 1 ([] ++ ((R.map fun x => [int x.1]).take z) ++ [[int seq]] ++ ((R.map fun x => [int x.1]).drop z)), .sl 1 ([] ++ ((R.map fun x => [ptr x.2.q]).take z) ++ [[ptr b83]] ++ ((R.map fun x => [ptr x.2.q]).drop z))] := lg_ins hr hz.2.1 hge
                refine SE.fin (rs := [.tmp 4]) rfl (RV.tmp rfl RV.nil) (b83) (by rw [he]; exact List.Sublist.refl _) (by simp [It.rids]) ?_
                exact rfl
              · skip
                refine SX.eff rfl (Eff.buildSl tabOk Try.underlying37 rfl rfl rfl rfl rfl rfl rfl) (by simp) rfl rfl ?_
                rintro _ _ ⟨rfl, rfl⟩
                refine SX.effN [.blk b83 61 (rsZ n), own 44 1 r70 ([])] [] rfl (Eff.append tabOk [_] Try.underlying37 rfl rfl rfl rfl rfl rfl (by intro c hc; first | (have hc := List.mem_of_mem_take hc; obtain ⟨x, _, rfl⟩ := List.mem_map.1 hc; rfl) | (have hc := List.mem_of_mem_drop hc; obtain ⟨x, _, rfl⟩ := List.mem_map.1 hc; rfl) | (rw [List.mem_singleton] at hc; subst hc; rfl)) (by unfold maxLen; simp only [List.length_append, List.length_take, List.length_drop, List.length_map, List.length_cons, List.length_nil]; omega) (by rw [show Try.prog.bytesOf 44 = 8 by kernel_rfl]; simp only [List.length_append, List.length_take, List.length_drop, List.length_map, List.length_cons, List.length_nil]; omega)) rfl (by first | exact own_mid List.mem_cons_self | exact own_mid (List.mem_cons_of_mem _ List.mem_cons_self) | (simp; done)) rfl rfl ?_
                rintro _ _ ⟨r77, rfl, rfl⟩
                refine ⟨[.blk b83 61 (rsZ n), own 44 1 r77 ([] ++ ((R.map fun x => [ptr x.2.q]).take z))], rfl, ?_⟩
                refine SX.effN [.blk b83 61 (rsZ n), own 44 1 r77 ([] ++ ((R.map fun x => [ptr x.2.q]).take z))] [] rfl (Eff.append tabOk [_] Try.underlying37 rfl rfl rfl rfl rfl rfl (by intro c hc; first | (have hc := List.mem_of_mem_take hc; obtain ⟨x, _, rfl⟩ := List.mem_map.1 hc; rfl) | (have hc := List.mem_of_mem_drop hc; obtain ⟨x, _, rfl⟩ := List.mem_map.1 hc; rfl) | (rw [List.mem_singleton] at hc; subst hc; rfl)) (by unfold maxLen; simp only [List.length_append, List.length_take, List.length_drop, List.length_map, List.length_cons, List.length_nil]; omega) (by rw [show Try.prog.bytesOf 44 = 8 by kernel_rfl]; simp only [List.length_append, List.length_take, List.length_drop, List.length_map, List.length_cons, List.length_nil]; omega)) rfl (by first | exact own_mid List.mem_cons_self | exact own_mid (List.mem_cons_of_mem _ List.mem_cons_self) | (simp; done)) rfl rfl ?_
                rintro _ _ ⟨r85, rfl, rfl⟩
                refine ⟨[.blk b83 61 (rsZ n), own 44 1 r85 ([] ++ ((R.map fun x => [ptr x.2.q]).take z) ++ [[ptr b83]])], rfl, ?_⟩
                refine SX.effN [.blk b83 61 (rsZ n), own 44 1 r85 ([] ++ ((R.map fun x => [ptr x.2.q]).take z) ++ [[ptr b83]])] [] rfl (Eff.append tabOk [_] Try.underlying37 rfl rfl rfl rfl rfl rfl (by intro c hc; first | (have hc := List.mem_of_mem_take hc; obtain ⟨x, _, rfl⟩ := List.mem_map.1 hc; rfl) | (have hc := List.mem_of_mem_drop hc; obtain ⟨x, _, rfl⟩ := List.mem_map.1 hc; rfl) | (rw [List.mem_singleton] at hc; subst hc; rfl)) (by unfold maxLen; simp only [List.length_append, List.length_take, List.length_drop, List.length_map, List.length_cons, List.length_nil]; omega) (by rw [show Try.prog.bytesOf 44 = 8 by kernel_rfl]; simp only [List.length_append, List.length_take, List.length_drop, List.length_map, List.length_cons, List.length_nil]; omega)) rfl (by first | exact own_mid List.mem_cons_self | exact own_mid (List.mem_cons_of_mem _ List.mem_cons_self) | (simp; done)) rfl rfl ?_
                rintro _ _ ⟨r92, rfl, rfl⟩
                refine ⟨[.blk b83 61 (rsZ n), own 44 1 r92 ([] ++ ((R.map fun x => [ptr x.2.q]).take z) ++ [[ptr b83]] ++ ((R.map fun x => [ptr x.2.q]).drop z))], rfl, ?_⟩
                refine SX.val rfl (Val.nilCheck rfl) (by first | exact mids_head | (simp [mids, It.mids, ownPc, mapPc]; done) | (intro k hk; simp [mids, It.mids, ownPc, mapPc, mapAtPc] at hk ⊢; grind)) rfl rfl ?_
                refine SX.val rfl (Val.fieldAddr tabOk rfl rfl rfl rfl rfl) (by first | exact mids_head | (simp [mids, It.mids, ownPc, mapPc]; done) | (intro k hk; simp [mids, It.mids, ownPc, mapPc, mapAtPc] at hk ⊢; grind)) rfl rfl ?_
                refine SX.nil ?_
                refine SE.effZ rfl (Eff.storeOwn tabOk rfl rfl rfl rfl (by repeat first|assumption|exact m0|apply m1) (by repeat first|assumption|exact Upd.here|apply Upd.there) rfl (by rfl)) rfl rfl ?_
                rintro _ _ ⟨rfl, rfl⟩
                refine SE.seq ?_
                refine SC.seq ?_
                first
                  | refine SC.freezeC [] 3 rfl (Upd.there Upd.here) rfl ?_
                  | refine SC.freezeC [_] 3 rfl (Upd.there Upd.here) rfl ?_
                refine SC.region ?_
                refine SL.val (Val.move rfl) rfl rfl ?_
                refine SL.val (Val.nilCheck rfl) rfl rfl ?_
                refine SL.val (Val.fieldAddr tabOk rfl rfl rfl rfl rfl) rfl rfl ?_
                refine SL.val (Val.load1 tabOk rfl rfl (by first|(apply Or.inl;(repeat first|assumption|exact m0|apply m1);done)|(apply Or.inr;(repeat first|assumption|exact m0|apply m1);done)) List.not_mem_nil (by rfl)) rfl rfl ?_
                refine SL.val (Val.move rfl) rfl rfl ?_
                refine SL.val (Val.indexSl (q := z) tabOk Try.underlying37 rfl rfl rfl rfl (at_ins hz.1) rfl rfl) rfl rfl ?_
                refine SL.val (Val.to (C := ptr b83) (Val.load1R tabOk rfl rfl rfl) rfl) rfl rfl ?_
                refine SL.val (Val.assign rfl) rfl rfl ?_
                refine SL.nil (SE.seq ?_)
                refine SC.ret ?_
                have he : lgC n low (insR R seq ⟨b83, []⟩) = [int n, int low, .sl 1 ([] ++ ((R.map fun x => [int x.1]).take z) ++ [[int seq]] ++ ((R.map fun x => [int x.1]).drop z)), .sl 1 ([] ++ ((R.map fun x => [ptr x.2.q]).take z) ++ [[ptr b83]] ++ ((R.map fun x => [ptr x.2.q]).drop z))] := lg_ins hr hz.2.1 hge
                refine SE.fin (rs := [.tmp 4]) rfl (RV.tmp rfl RV.nil) (b83) (by rw [he]; exact List.Sublist.refl _) (by simp [It.rids]) ?_
                exact rfl
          · skip
            refine SX.effN [] [] rfl (Eff.boxA (cs := rsZ n) rfl) rfl (by first | exact own_mid List.mem_cons_self | exact own_mid (List.mem_cons_of_mem _ List.mem_cons_self) | (simp; done)) rfl rfl ?_
            rintro _ _ ⟨b83, rfl, rfl⟩
            refine ⟨[.blk b83 61 (rsZ n)], rfl, ?_⟩
            refine SX.two ?_ ?_
            · skip
              refine SX.effN [.blk b83 61 (rsZ n)] [] rfl (Eff.buildOwn tabOk Try.underlying37 rfl rfl rfl rfl rfl rfl rfl) rfl (by first | exact own_mid List.mem_cons_self | exact own_mid (List.mem_cons_of_mem _ List.mem_cons_self) | (simp; done)) rfl rfl ?_
              rintro _ _ ⟨r70, rfl, rfl⟩
              refine ⟨[own 44 1 r70 ([]), .blk b83 61 (rsZ n)], rfl, ?_⟩
              refine SX.two ?_ ?_
              · skip
                refine SX.effN [own 44 1 r70 ([]), .blk b83 61 (rsZ n)] [] rfl (Eff.append tabOk [] Try.underlying37 rfl rfl rfl rfl rfl rfl (by intro c hc; first | (have hc := List.mem_of_mem_take hc; obtain ⟨x, _, rfl⟩ := List.mem_map.1 hc; rfl) | (have hc := List.mem_of_mem_drop hc; obtain ⟨x, _, rfl⟩ := List.mem_map.1 hc; rfl) | (rw [List.mem_singleton] at hc; subst hc; rfl)) (by unfold maxLen; simp only [List.length_append, List.length_take, List.length_drop, List.length_map, List.length_cons, List.length_nil]; omega) (by rw [show Try.prog.bytesOf 44 = 8 by kernel_rfl]; simp only [List.length_append, List.length_take, List.length_drop, List.length_map, List.length_cons, List.length_nil]; omega)) rfl (by first | exact own_mid List.mem_cons_self | exact own_mid (List.mem_cons_of_mem _ List.mem_cons_self) | (simp; done)) rfl rfl ?_
                rintro _ _ ⟨r77, rfl, rfl⟩
                refine ⟨[own 44 1 r77 ([] ++ ((R.map fun x => [ptr x.2.q]).take z)), .blk b83 61 (rsZ n)], rfl, ?_⟩
                refine SX.eff rfl (Eff.buildSl tabOk Try.underlying37 rfl rfl rfl rfl rfl rfl rfl) (by simp) rfl rfl ?_
                rintro _ _ ⟨rfl, rfl⟩
                refine SX.effN [own 44 1 r77 ([] ++ ((R.map fun x => [ptr x.2.q]).take z)), .blk b83 61 (rsZ n)] [] rfl (Eff.append tabOk [] Try.underlying37 rfl rfl rfl rfl rfl rfl (by intro c hc; first | (have hc := List.mem_of_mem_take hc; obtain ⟨x, _, rfl⟩ := List.mem_map.1 hc; rfl) | (have hc := List.mem_of_mem_drop hc; obtain ⟨x, _, rfl⟩ := List.mem_map.1 hc; rfl) | (rw [List.mem_singleton] at hc; subst hc; rfl)) (by unfold maxLen; simp only [List.length_append, List.length_take, List.length_drop, List.length_map, List.length_cons, List.length_nil]; omega) (by rw [show Try.prog.bytesOf 44 = 8 by kernel_rfl]; simp only [List.length_append, List.length_take, List.length_drop, List.length_map, List.length_cons, List.length_nil]; omega)) rfl (by first | exact own_mid List.mem_cons_self | exact own_mid (List.mem_cons_of_mem _ List.mem_cons_self) | (simp; done)) rfl rfl ?_
                rintro _ _ ⟨r85, rfl, rfl⟩
                refine ⟨[own 44 1 r85 ([] ++ ((R.map fun x => [ptr x.2.q]).take z) ++ [[ptr b83]]), .blk b83 61 (rsZ n)], rfl, ?_⟩
                refine SX.effN [own 44 1 r85 ([] ++ ((R.map fun x => [ptr x.2.q]).take z) ++ [[ptr b83]]), .blk b83 61 (rsZ n)] [] rfl (Eff.append tabOk [] Try.underlying37 rfl rfl rfl rfl rfl rfl (by intro c hc; first | (have hc := List.mem_of_mem_take hc; obtain ⟨x, _, rfl⟩ := List.mem_map.1 hc; rfl) | (have hc := List.mem_of_mem_drop hc; obtain ⟨x, _, rfl⟩ := List.mem_map.1 hc; rfl) | (rw [List.mem_singleton] at hc; subst hc; rfl)) (by unfold maxLen; simp only [List.length_append, List.length_take, List.length_drop, List.length_map, List.length_cons, List.length_nil]; omega) (by rw [show Try.prog.bytesOf 44 = 8 by kernel_rfl]; simp only [List.length_append, List.length_take, List.length_drop, List.length_map, List.length_cons, List.length_nil]; omega)) rfl (by first | exact own_mid List.mem_cons_self | exact own_mid (List.mem_cons_of_mem _ List.mem_cons_self) | (simp; done)) rfl rfl ?_
                rintro _ _ ⟨r92, rfl, rfl⟩
                refine ⟨[own 44 1 r92 ([] ++ ((R.map fun x => [ptr x.2.q]).take z) ++ [[ptr b83]] ++ ((R.map fun x => [ptr x.2.q]).drop z)), .blk b83 61 (rsZ n)], rfl, ?_⟩
                refine SX.val rfl (Val.nilCheck rfl) (by first | exact mids_head | (simp [mids, It.mids, ownPc, mapPc]; done) | (intro k hk; simp [mids, It.mids, ownPc, mapPc, mapAtPc] at hk ⊢; grind)) rfl rfl ?_
                refine SX.val rfl (Val.fieldAddr tabOk rfl rfl rfl rfl rfl) (by first | exact mids_head | (simp [mids, It.mids, ownPc, mapPc]; done) | (intro k hk; simp [mids, It.mids, ownPc, mapPc, mapAtPc] at hk ⊢; grind)) rfl rfl ?_
                refine SX.nil ?_
                refine SE.effZ rfl (Eff.storeOwn tabOk rfl rfl rfl rfl (by repeat first|assumption|exact m0|apply m1) (by repeat first|assumption|exact Upd.here|apply Upd.there) rfl (by rfl)) rfl rfl ?_
                rintro _ _ ⟨rfl, rfl⟩
                refine SE.seq ?_
                refine SC.seq ?_
                first
                  | refine SC.freezeC [] 3 rfl (Upd.there Upd.here) rfl ?_
                  | refine SC.freezeC [_] 3 rfl (Upd.there Upd.here) rfl ?_
                refine SC.region ?_
                refine SL.val (Val.move rfl) rfl rfl ?_
                refine SL.val (Val.nilCheck rfl) rfl rfl ?_
                refine SL.val (Val.fieldAddr tabOk rfl rfl rfl rfl rfl) rfl rfl ?_
                refine SL.val (Val.load1 tabOk rfl rfl (by first|(apply Or.inl;(repeat first|assumption|exact m0|apply m1);done)|(apply Or.inr;(repeat first|assumption|exact m0|apply m1);done)) List.not_mem_nil (by rfl)) rfl rfl ?_
                refine SL.val (Val.move rfl) rfl rfl ?_
                refine SL.val (Val.indexSl (q := z) tabOk Try.underlying37 rfl rfl rfl rfl (at_ins hz.1) rfl rfl) rfl rfl ?_
                refine SL.val (Val.to (C := ptr b83) (Val.load1R tabOk rfl rfl rfl) rfl) rfl rfl ?_
                refine SL.val (Val.assign rfl) rfl rfl ?_
                refine SL.nil (SE.seq ?_)
                refine SC.ret ?_
                have he : lgC n low (insR R seq ⟨b83, []⟩) = [int n, int low, .sl 1 ([] ++ ((R.map fun x => [int x.1]).take z) ++ [[int seq]] ++ ((R.map fun x => [int x.1]).drop z)), .sl 1 ([] ++ ((R.map fun x => [ptr x.2.q]).take z) ++ [[ptr b83]] ++ ((R.map fun x => [ptr x.2.q]).drop z))] := lg_ins hr hz.2.1 hge
                refine SE.fin (rs := [.tmp 4]) rfl (RV.tmp rfl RV.nil) (b83) (by rw [he]; exact List.Sublist.refl _) (by simp [It.rids]) ?_
                exact rfl
              · skip
                refine SX.eff rfl (Eff.buildSl tabOk Try.underlying37 rfl rfl rfl rfl rfl rfl rfl) (by simp) rfl rfl ?_
                rintro _ _ ⟨rfl, rfl⟩
                refine SX.effN [own 44 1 r70 ([]), .blk b83 61 (rsZ n)] [] rfl (Eff.append tabOk [] Try.underlying37 rfl rfl rfl rfl rfl rfl (by intro c hc; first | (have hc := List.mem_of_mem_take hc; obtain ⟨x, _, rfl⟩ := List.mem_map.1 hc; rfl) | (have hc := List.mem_of_mem_drop hc; obtain ⟨x, _, rfl⟩ := List.mem_map.1 hc; rfl) | (rw [List.mem_singleton] at hc; subst hc; rfl)) (by unfold maxLen; simp only [List.length_append, List.length_take, List.length_drop, List.length_map, List.length_cons, List.length_nil]; omega) (by rw [show Try.prog.bytesOf 44 = 8 by kernel_rfl]; simp only [List.length_append, List.length_take, List.length_drop, List.length_map, List.length_cons, List.length_nil]; omega)) rfl (by first | exact own_mid List.mem_cons_self | exact own_mid (List.mem_cons_of_mem _ List.mem_cons_self) | (simp; done)) rfl rfl ?_
                rintro _ _ ⟨r77, rfl, rfl⟩
                refine ⟨[own 44 1 r77 ([] ++ ((R.map fun x => [ptr x.2.q]).take z)), .blk b83 61 (rsZ n)], rfl, ?_⟩
                refine SX.effN [own 44 1 r77 ([] ++ ((R.map fun x => [ptr x.2.q]).take z)), .blk b83 61 (rsZ n)] [] rfl (Eff.append tabOk [] Try.underlying37 rfl rfl rfl rfl rfl rfl (by intro c hc; first | (have hc := List.mem_of_mem_take hc; obtain ⟨x, _, rfl⟩ := List.mem_map.1 hc; rfl) | (have hc := List.mem_of_mem_drop hc; obtain ⟨x, _, rfl⟩ := List.mem_map.1 hc; rfl) | (rw [List.mem_singleton] at hc; subst hc; rfl)) (by unfold maxLen; simp only [List.length_append, List.length_take, List.length_drop, List.length_map, List.length_cons, List.length_nil]; omega) (by rw [show Try.prog.bytesOf 44 = 8 by kernel_rfl]; simp only [List.length_append, List.length_take, List.length_drop, List.length_map, List.length_cons, List.length_nil]; omega)) rfl (by first | exact own_mid List.mem_cons_self | exact own_mid (List.mem_cons_of_mem _ List.mem_cons_self) | (simp; done)) rfl rfl ?_
                rintro _ _ ⟨r85, rfl, rfl⟩
                refine ⟨[own 44 1 r85 ([] ++ ((R.map fun x => [ptr x.2.q]).take z) ++ [[ptr b83]]), .blk b83 61 (rsZ n)], rfl, ?_⟩
                refine SX.effN [own 44 1 r85 ([] ++ ((R.map fun x => [ptr x.2.q]).take z) ++ [[ptr b83]]), .blk b83 61 (rsZ n)] [] rfl (Eff.append tabOk [] Try.underlying37 rfl rfl rfl rfl rfl rfl (by intro c hc; first | (have hc := List.mem_of_mem_take hc; obtain ⟨x, _, rfl⟩ := List.mem_map.1 hc; rfl) | (have hc := List.mem_of_mem_drop hc; obtain ⟨x, _, rfl⟩ := List.mem_map.1 hc; rfl) | (rw [List.mem_singleton] at hc; subst hc; rfl)) (by unfold maxLen; simp only [List.length_append, List.length_take, List.length_drop, List.length_map, List.length_cons, List.length_nil]; omega) (by rw [show Try.prog.bytesOf 44 = 8 by kernel_rfl]; simp only [List.length_append, List.length_take, List.length_drop, List.length_map, List.length_cons, List.length_nil]; omega)) rfl (by first | exact own_mid List.mem_cons_self | exact own_mid (List.mem_cons_of_mem _ List.mem_cons_self) | (simp; done)) rfl rfl ?_
                rintro _ _ ⟨r92, rfl, rfl⟩
                refine ⟨[own 44 1 r92 ([] ++ ((R.map fun x => [ptr x.2.q]).take z) ++ [[ptr b83]] ++ ((R.map fun x => [ptr x.2.q]).drop z)), .blk b83 61 (rsZ n)], rfl, ?_⟩
                refine SX.val rfl (Val.nilCheck rfl) (by first | exact mids_head | (simp [mids, It.mids, ownPc, mapPc]; done) | (intro k hk; simp [mids, It.mids, ownPc, mapPc, mapAtPc] at hk ⊢; grind)) rfl rfl ?_
                refine SX.val rfl (Val.fieldAddr tabOk rfl rfl rfl rfl rfl) (by first | exact mids_head | (simp [mids, It.mids, ownPc, mapPc]; done) | (intro k hk; simp [mids, It.mids, ownPc, mapPc, mapAtPc] at hk ⊢; grind)) rfl rfl ?_
                refine SX.nil ?_
                refine SE.effZ rfl (Eff.storeOwn tabOk rfl rfl rfl rfl (by repeat first|assumption|exact m0|apply m1) (by repeat first|assumption|exact Upd.here|apply Upd.there) rfl (by rfl)) rfl rfl ?_
                rintro _ _ ⟨rfl, rfl⟩
                refine SE.seq ?_
                refine SC.seq ?_
                first
                  | refine SC.freezeC [] 3 rfl (Upd.there Upd.here) rfl ?_
                  | refine SC.freezeC [_] 3 rfl (Upd.there Upd.here) rfl ?_
                refine SC.region ?_
                refine SL.val (Val.move rfl) rfl rfl ?_
                refine SL.val (Val.nilCheck rfl) rfl rfl ?_
                refine SL.val (Val.fieldAddr tabOk rfl rfl rfl rfl rfl) rfl rfl ?_
                refine SL.val (Val.load1 tabOk rfl rfl (by first|(apply Or.inl;(repeat first|assumption|exact m0|apply m1);done)|(apply Or.inr;(repeat first|assumption|exact m0|apply m1);done)) List.not_mem_nil (by rfl)) rfl rfl ?_
                refine SL.val (Val.move rfl) rfl rfl ?_
                refine SL.val (Val.indexSl (q := z) tabOk Try.underlying37 rfl rfl rfl rfl (at_ins hz.1) rfl rfl) rfl rfl ?_
                refine SL.val (Val.to (C := ptr b83) (Val.load1R tabOk rfl rfl rfl) rfl) rfl rfl ?_
                refine SL.val (Val.assign rfl) rfl rfl ?_
                refine SL.nil (SE.seq ?_)
                refine SC.ret ?_
                have he : lgC n low (insR R seq ⟨b83, []⟩) = [int n, int low, .sl 1 ([] ++ ((R.map fun x => [int x.1]).take z) ++ [[int seq]] ++ ((R.map fun x => [int x.1]).drop z)), .sl 1 ([] ++ ((R.map fun x => [ptr x.2.q]).take z) ++ [[ptr b83]] ++ ((R.map fun x => [ptr x.2.q]).drop z))] := lg_ins hr hz.2.1 hge
                refine SE.fin (rs := [.tmp 4]) rfl (RV.tmp rfl RV.nil) (b83) (by rw [he]; exact List.Sublist.refl _) (by simp [It.rids]) ?_
                exact rfl
            · skip
              refine SX.eff rfl (Eff.buildSl tabOk Try.underlying37 rfl rfl rfl rfl rfl rfl rfl) (by simp) rfl rfl ?_
              rintro _ _ ⟨rfl, rfl⟩
              refine SX.effN [.blk b83 61 (rsZ n)] [] rfl (Eff.buildOwn tabOk Try.underlying37 rfl rfl rfl rfl rfl rfl rfl) rfl (by first | exact own_mid List.mem_cons_self | exact own_mid (List.mem_cons_of_mem _ List.mem_cons_self) | (simp; done)) rfl rfl ?_
              rintro _ _ ⟨r70, rfl, rfl⟩
              refine ⟨[own 44 1 r70 ([]), .blk b83 61 (rsZ n)], rfl, ?_⟩
              refine SX.effN [own 44 1 r70 ([]), .blk b83 61 (rsZ n)] [] rfl (Eff.append tabOk [] Try.underlying37 rfl rfl rfl rfl rfl rfl (by intro c hc; first | (have hc := List.mem_of_mem_take hc; obtain ⟨x, _, rfl⟩ := List.mem_map.1 hc; rfl) | (have hc := List.mem_of_mem_drop hc; obtain ⟨x, _, rfl⟩ := List.mem_map.1 hc; rfl) | (rw [List.mem_singleton] at hc; subst hc; rfl)) (by unfold maxLen; simp only [List.length_append, List.length_take, List.length_drop, List.length_map, List.length_cons, List.length_nil]; omega) (by rw [show Try.prog.bytesOf 44 = 8 by kernel_rfl]; simp only [List.length_append, List.length_take, List.length_drop, List.length_map, List.length_cons, List.length_nil]; omega)) rfl (by first | exact own_mid List.mem_cons_self | exact own_mid (List.mem_cons_of_mem _ List.mem_cons_self) | (simp; done)) rfl rfl ?_
              rintro _ _ ⟨r77, rfl, rfl⟩
              refine ⟨[own 44 1 r77 ([] ++ ((R.map fun x => [ptr x.2.q]).take z)), .blk b83 61 (rsZ n)], rfl, ?_⟩
              refine SX.effN [own 44 1 r77 ([] ++ ((R.map fun x => [ptr x.2.q]).take z)), .blk b83 61 (rsZ n)] [] rfl (Eff.append tabOk [] Try.underlying37 rfl rfl rfl rfl rfl rfl (by intro c hc; first | (have hc := List.mem_of_mem_take hc; obtain ⟨x, _, rfl⟩ := List.mem_map.1 hc; rfl) | (have hc := List.mem_of_mem_drop hc; obtain ⟨x, _, rfl⟩ := List.mem_map.1 hc; rfl) | (rw [List.mem_singleton] at hc; subst hc; rfl)) (by unfold maxLen; simp only [List.length_append, List.length_take, List.length_drop, List.length_map, List.length_cons, List.length_nil]; omega) (by rw [show Try.prog.bytesOf 44 = 8 by kernel_rfl]; simp only [List.length_append, List.length_take, List.length_drop, List.length_map, List.length_cons, List.length_nil]; omega)) rfl (by first | exact own_mid List.mem_cons_self | exact own_mid (List.mem_cons_of_mem _ List.mem_cons_self) | (simp; done)) rfl rfl ?_
              rintro _ _ ⟨r85, rfl, rfl⟩
              refine ⟨[own 44 1 r85 ([] ++ ((R.map fun x => [ptr x.2.q]).take z) ++ [[ptr b83]]), .blk b83 61 (rsZ n)], rfl, ?_⟩
              refine SX.effN [own 44 1 r85 ([] ++ ((R.map fun x => [ptr x.2.q]).take z) ++ [[ptr b83]]), .blk b83 61 (rsZ n)] [] rfl (Eff.append tabOk [] Try.underlying37 rfl rfl rfl rfl rfl rfl (by intro c hc; first | (have hc := List.mem_of_mem_take hc; obtain ⟨x, _, rfl⟩ := List.mem_map.1 hc; rfl) | (have hc := List.mem_of_mem_drop hc; obtain ⟨x, _, rfl⟩ := List.mem_map.1 hc; rfl) | (rw [List.mem_singleton] at hc; subst hc; rfl)) (by unfold maxLen; simp only [List.length_append, List.length_take, List.length_drop, List.length_map, List.length_cons, List.length_nil]; omega) (by rw [show Try.prog.bytesOf 44 = 8 by kernel_rfl]; simp only [List.length_append, List.length_take, List.length_drop, List.length_map, List.length_cons, List.length_nil]; omega)) rfl (by first | exact own_mid List.mem_cons_self | exact own_mid (List.mem_cons_of_mem _ List.mem_cons_self) | (simp; done)) rfl rfl ?_
              rintro _ _ ⟨r92, rfl, rfl⟩
              refine ⟨[own 44 1 r92 ([] ++ ((R.map fun x => [ptr x.2.q]).take z) ++ [[ptr b83]] ++ ((R.map fun x => [ptr x.2.q]).drop z)), .blk b83 61 (rsZ n)], rfl, ?_⟩
              refine SX.val rfl (Val.nilCheck rfl) (by first | exact mids_head | (simp [mids, It.mids, ownPc, mapPc]; done) | (intro k hk; simp [mids, It.mids, ownPc, mapPc, mapAtPc] at hk ⊢; grind)) rfl rfl ?_
              refine SX.val rfl (Val.fieldAddr tabOk rfl rfl rfl rfl rfl) (by first | exact mids_head | (simp [mids, It.mids, ownPc, mapPc]; done) | (intro k hk; simp [mids, It.mids, ownPc, mapPc, mapAtPc] at hk ⊢; grind)) rfl rfl ?_
              refine SX.nil ?_
              refine SE.effZ rfl (Eff.storeOwn tabOk rfl rfl rfl rfl (by repeat first|assumption|exact m0|apply m1) (by repeat first|assumption|exact Upd.here|apply Upd.there) rfl (by rfl)) rfl rfl ?_
              rintro _ _ ⟨rfl, rfl⟩
              refine SE.seq ?_
              refine SC.seq ?_
              first
                | refine SC.freezeC [] 3 rfl (Upd.there Upd.here) rfl ?_
                | refine SC.freezeC [_] 3 rfl (Upd.there Upd.here) rfl ?_
              refine SC.region ?_
              refine SL.val (Val.move rfl) rfl rfl ?_
              refine SL.val (Val.nilCheck rfl) rfl rfl ?_
              refine SL.val (Val.fieldAddr tabOk rfl rfl rfl rfl rfl) rfl rfl ?_
              refine SL.val (Val.load1 tabOk rfl rfl (by first|(apply Or.inl;(repeat first|assumption|exact m0|apply m1);done)|(apply Or.inr;(repeat first|assumption|exact m0|apply m1);done)) List.not_mem_nil (by rfl)) rfl rfl ?_
              refine SL.val (Val.move rfl) rfl rfl ?_
              refine SL.val (Val.indexSl (q := z) tabOk Try.underlying37 rfl rfl rfl rfl (at_ins hz.1) rfl rfl) rfl rfl ?_
              refine SL.val (Val.to (C := ptr b83) (Val.load1R tabOk rfl rfl rfl) rfl) rfl rfl ?_
              refine SL.val (Val.assign rfl) rfl rfl ?_
              refine SL.nil (SE.seq ?_)
              refine SC.ret ?_
              have he : lgC n low (insR R seq ⟨b83, []⟩) = [int n, int low, .sl 1 ([] ++ ((R.map fun x => [int x.1]).take z) ++ [[int seq]] ++ ((R.map fun x => [int x.1]).drop z)), .sl 1 ([] ++ ((R.map fun x => [ptr x.2.q]).take z) ++ [[ptr b83]] ++ ((R.map fun x => [ptr x.2.q]).drop z))] := lg_ins hr hz.2.1 hge
              refine SE.fin (rs := [.tmp 4]) rfl (RV.tmp rfl RV.nil) (b83) (by rw [he]; exact List.Sublist.refl _) (by simp [It.rids]) ?_
              exact rfl
        · skip
          refine SX.eff rfl (Eff.buildSl tabOk Try.underlying34 rfl rfl rfl rfl rfl rfl rfl) (by simp) rfl rfl ?_
          rintro _ _ ⟨rfl, rfl⟩
          refine SX.effN [own 2 1 r49 ([])] [] rfl (Eff.append tabOk [] Try.underlying34 rfl rfl rfl rfl rfl rfl (by intro c hc; first | (have hc := List.mem_of_mem_take hc; obtain ⟨x, _, rfl⟩ := List.mem_map.1 hc; rfl) | (have hc := List.mem_of_mem_drop hc; obtain ⟨x, _, rfl⟩ := List.mem_map.1 hc; rfl) | (rw [List.mem_singleton] at hc; subst hc; rfl)) (by unfold maxLen; simp only [List.length_append, List.length_take, List.length_drop, List.length_map, List.length_cons, List.length_nil]; omega) (by rw [show Try.prog.bytesOf 2 = 8 by kernel_rfl]; simp only [List.length_append, List.length_take, List.length_drop, List.length_map, List.length_cons, List.length_nil]; omega)) rfl (by first | exact own_mid List.mem_cons_self | exact own_mid (List.mem_cons_of_mem _ List.mem_cons_self) | (simp; done)) rfl rfl ?_
          rintro _ _ ⟨r56, rfl, rfl⟩
          refine ⟨[own 2 1 r56 ([] ++ ((R.map fun x => [int x.1]).take z))], rfl, ?_⟩
          refine SX.effN [own 2 1 r56 ([] ++ ((R.map fun x => [int x.1]).take z))] [] rfl (Eff.append tabOk [] Try.underlying34 rfl rfl rfl rfl rfl rfl (by intro c hc; first | (have hc := List.mem_of_mem_take hc; obtain ⟨x, _, rfl⟩ := List.mem_map.1 hc; rfl) | (have hc := List.mem_of_mem_drop hc; obtain ⟨x, _, rfl⟩ := List.mem_map.1 hc; rfl) | (rw [List.mem_singleton] at hc; subst hc; rfl)) (by unfold maxLen; simp only [List.length_append, List.length_take, List.length_drop, List.length_map, List.length_cons, List.length_nil]; omega) (by rw [show Try.prog.bytesOf 2 = 8 by kernel_rfl]; simp only [List.length_append, List.length_take, List.length_drop, List.length_map, List.length_cons, List.length_nil]; omega)) rfl (by first | exact own_mid List.mem_cons_self | exact own_mid (List.mem_cons_of_mem _ List.mem_cons_self) | (simp; done)) rfl rfl ?_
          rintro _ _ ⟨r59, rfl, rfl⟩
          refine ⟨[own 2 1 r59 ([] ++ ((R.map fun x => [int x.1]).take z) ++ [[int seq]])], rfl, ?_⟩
          refine SX.effN [own 2 1 r59 ([] ++ ((R.map fun x => [int x.1]).take z) ++ [[int seq]])] [] rfl (Eff.append tabOk [] Try.underlying34 rfl rfl rfl rfl rfl rfl (by intro c hc; first | (have hc := List.mem_of_mem_take hc; obtain ⟨x, _, rfl⟩ := List.mem_map.1 hc; rfl) | (have hc := List.mem_of_mem_drop hc; obtain ⟨x, _, rfl⟩ := List.mem_map.1 hc; rfl) | (rw [List.mem_singleton] at hc; subst hc; rfl)) (by unfold maxLen; simp only [List.length_append, List.length_take, List.length_drop, List.length_map, List.length_cons, List.length_nil]; omega) (by rw [show Try.prog.bytesOf 2 = 8 by kernel_rfl]; simp only [List.length_append, List.length_take, List.length_drop, List.length_map, List.length_cons, List.length_nil]; omega)) rfl (by first | exact own_mid List.mem_cons_self | exact own_mid (List.mem_cons_of_mem _ List.mem_cons_self) | (simp; done)) rfl rfl ?_
          rintro _ _ ⟨r66, rfl, rfl⟩
          refine ⟨[own 2 1 r66 ([] ++ ((R.map fun x => [int x.1]).take z) ++ [[int seq]] ++ ((R.map fun x => [int x.1]).drop z))], rfl, ?_⟩
          refine SX.val rfl (Val.nilCheck rfl) (by first | exact mids_head | (simp [mids, It.mids, ownPc, mapPc]; done) | (intro k hk; simp [mids, It.mids, ownPc, mapPc, mapAtPc] at hk ⊢; grind)) rfl rfl ?_
          refine SX.val rfl (Val.fieldAddr tabOk rfl rfl rfl rfl rfl) (by first | exact mids_head | (simp [mids, It.mids, ownPc, mapPc]; done) | (intro k hk; simp [mids, It.mids, ownPc, mapPc, mapAtPc] at hk ⊢; grind)) rfl rfl ?_
          refine SX.nil ?_
          refine SE.effZ rfl (Eff.storeOwn tabOk rfl rfl rfl rfl (by repeat first|assumption|exact m0|apply m1) (by repeat first|assumption|exact Upd.here|apply Upd.there) rfl (by rfl)) rfl rfl ?_
          rintro _ _ ⟨rfl, rfl⟩
          refine SE.seq ?_
          first
            | refine SC.freezeC [] 2 rfl Upd.here rfl ?_
            | refine SC.freezeC [_] 2 rfl Upd.here rfl ?_
          refine SC.drawZ (mids ([] : Blks) ++ []) (.q 0 (.q 2 (.q 3 (.q 4 (.q 5 (.q 6 (.q 7 (.q 9 (.q 10 (.q 11 (.q 12 (.q 13 (.q 17 (.q 18 (.q 19 (.q 20 (.q 21 (.q 22 (.two 1 14 (.two 8 14 (.e 14 (.e 15 (.e 16 (.e 23 (.q 24 (.q 25 .nil)))))) (.two 8 15 (.e 15 (.e 16 (.e 23 (.q 24 (.q 25 .nil))))) (.e 8 (.e 16 (.e 23 (.q 24 (.q 25 .nil))))))) (.two 1 15 (.two 8 15 (.e 15 (.e 16 (.e 23 (.q 24 (.q 25 .nil))))) (.e 8 (.e 16 (.e 23 (.q 24 (.q 25 .nil)))))) (.e 1 (.e 8 (.e 16 (.e 23 (.q 24 (.q 25 .nil)))))))))))))))))))))))))) (by kernel_rfl) (by kernel_rfl) ?_
          refine SX.val rfl (Val.move rfl) (by first | exact mids_head | (simp [mids, It.mids, ownPc, mapPc]; done) | (intro k hk; simp [mids, It.mids, ownPc, mapPc, mapAtPc] at hk ⊢; grind)) rfl rfl ?_
          refine SX.val rfl (Val.move rfl) (by first | exact mids_head | (simp [mids, It.mids, ownPc, mapPc]; done) | (intro k hk; simp [mids, It.mids, ownPc, mapPc, mapAtPc] at hk ⊢; grind)) rfl rfl ?_
          refine SX.val rfl (Val.nilCheck rfl) (by first | exact mids_head | (simp [mids, It.mids, ownPc, mapPc]; done) | (intro k hk; simp [mids, It.mids, ownPc, mapPc, mapAtPc] at hk ⊢; grind)) rfl rfl ?_
          refine SX.val rfl (Val.fieldAddr tabOk rfl rfl rfl rfl rfl) (by first | exact mids_head | (simp [mids, It.mids, ownPc, mapPc]; done) | (intro k hk; simp [mids, It.mids, ownPc, mapPc, mapAtPc] at hk ⊢; grind)) rfl rfl ?_
          refine SX.val rfl (Val.load1 tabOk rfl rfl (by first|(apply Or.inl;(repeat first|assumption|exact m0|apply m1);done)|(apply Or.inr;(repeat first|assumption|exact m0|apply m1);done)) (by simp [mids, It.mids, ownPc]) (by rfl)) (by first | exact mids_head | (simp [mids, It.mids, ownPc, mapPc]; done) | (intro k hk; simp [mids, It.mids, ownPc, mapPc, mapAtPc] at hk ⊢; grind)) rfl rfl ?_
          refine SX.val rfl (Val.move rfl) (by first | exact mids_head | (simp [mids, It.mids, ownPc, mapPc]; done) | (intro k hk; simp [mids, It.mids, ownPc, mapPc, mapAtPc] at hk ⊢; grind)) rfl rfl ?_
          refine SX.val rfl (Val.sliceHi (q := z) tabOk Try.underlying37 rfl rfl rfl rfl rfl (by rw [List.length_map]; exact hz.1)) (by first | exact mids_head | (simp [mids, It.mids, ownPc, mapPc]; done) | (intro k hk; simp [mids, It.mids, ownPc, mapPc, mapAtPc] at hk ⊢; grind)) rfl rfl ?_
          refine SX.val rfl (Val.move rfl) (by first | exact mids_head | (simp [mids, It.mids, ownPc, mapPc]; done) | (intro k hk; simp [mids, It.mids, ownPc, mapPc, mapAtPc] at hk ⊢; grind)) rfl rfl ?_
          refine SX.val rfl (Val.nilCheck rfl) (by first | exact mids_head | (simp [mids, It.mids, ownPc, mapPc]; done) | (intro k hk; simp [mids, It.mids, ownPc, mapPc, mapAtPc] at hk ⊢; grind)) rfl rfl ?_
          refine SX.val rfl (Val.fieldAddr tabOk rfl rfl rfl rfl rfl) (by first | exact mids_head | (simp [mids, It.mids, ownPc, mapPc]; done) | (intro k hk; simp [mids, It.mids, ownPc, mapPc, mapAtPc] at hk ⊢; grind)) rfl rfl ?_
          refine SX.val rfl (Val.load1 tabOk rfl rfl (by first|(apply Or.inl;(repeat first|assumption|exact m0|apply m1);done)|(apply Or.inr;(repeat first|assumption|exact m0|apply m1);done)) (by simp [mids, It.mids, ownPc]) (by rfl)) (by first | exact mids_head | (simp [mids, It.mids, ownPc, mapPc]; done) | (intro k hk; simp [mids, It.mids, ownPc, mapPc, mapAtPc] at hk ⊢; grind)) rfl rfl ?_
          refine SX.val rfl (Val.buildS (L := rsZ n) tabOk rfl rfl rfl rfl) (by first | exact mids_head | (simp [mids, It.mids, ownPc, mapPc]; done) | (intro k hk; simp [mids, It.mids, ownPc, mapPc, mapAtPc] at hk ⊢; grind)) rfl rfl ?_
          refine SX.val rfl (Val.move rfl) (by first | exact mids_head | (simp [mids, It.mids, ownPc, mapPc]; done) | (intro k hk; simp [mids, It.mids, ownPc, mapPc, mapAtPc] at hk ⊢; grind)) rfl rfl ?_
          refine SX.val rfl (Val.nilCheck rfl) (by first | exact mids_head | (simp [mids, It.mids, ownPc, mapPc]; done) | (intro k hk; simp [mids, It.mids, ownPc, mapPc, mapAtPc] at hk ⊢; grind)) rfl rfl ?_
          refine SX.val rfl (Val.fieldAddr tabOk rfl rfl rfl rfl rfl) (by first | exact mids_head | (simp [mids, It.mids, ownPc, mapPc]; done) | (intro k hk; simp [mids, It.mids, ownPc, mapPc, mapAtPc] at hk ⊢; grind)) rfl rfl ?_
          refine SX.val rfl (Val.load1 tabOk rfl rfl (by first|(apply Or.inl;(repeat first|assumption|exact m0|apply m1);done)|(apply Or.inr;(repeat first|assumption|exact m0|apply m1);done)) (by simp [mids, It.mids, ownPc]) (by rfl)) (by first | exact mids_head | (simp [mids, It.mids, ownPc, mapPc]; done) | (intro k hk; simp [mids, It.mids, ownPc, mapPc, mapAtPc] at hk ⊢; grind)) rfl rfl ?_
          refine SX.val rfl (Val.move rfl) (by first | exact mids_head | (simp [mids, It.mids, ownPc, mapPc]; done) | (intro k hk; simp [mids, It.mids, ownPc, mapPc, mapAtPc] at hk ⊢; grind)) rfl rfl ?_
          refine SX.val rfl (Val.sliceLo (q := z) tabOk Try.underlying37 rfl rfl rfl rfl rfl (by rw [List.length_map]; exact hz.1)) (by first | exact mids_head | (simp [mids, It.mids, ownPc, mapPc]; done) | (intro k hk; simp [mids, It.mids, ownPc, mapPc, mapAtPc] at hk ⊢; grind)) rfl rfl ?_
          refine SX.two ?_ ?_
          · skip
            refine SX.effN [] [] rfl (Eff.buildOwn tabOk Try.underlying37 rfl rfl rfl rfl rfl rfl rfl) rfl (by first | exact own_mid List.mem_cons_self | exact own_mid (List.mem_cons_of_mem _ List.mem_cons_self) | (simp; done)) rfl rfl ?_
            rintro _ _ ⟨r70, rfl, rfl⟩
            refine ⟨[own 44 1 r70 ([])], rfl, ?_⟩
            refine SX.two ?_ ?_
            · skip
              refine SX.effN [own 44 1 r70 ([])] [] rfl (Eff.append tabOk [] Try.underlying37 rfl rfl rfl rfl rfl rfl (by intro c hc; first | (have hc := List.mem_of_mem_take hc; obtain ⟨x, _, rfl⟩ := List.mem_map.1 hc; rfl) | (have hc := List.mem_of_mem_drop hc; obtain ⟨x, _, rfl⟩ := List.mem_map.1 hc; rfl) | (rw [List.mem_singleton] at hc; subst hc; rfl)) (by unfold maxLen; simp only [List.length_append, List.length_take, List.length_drop, List.length_map, List.length_cons, List.length_nil]; omega) (by rw [show Try.prog.bytesOf 44 = 8 by kernel_rfl]; simp only [List.length_append, List.length_take, List.length_drop, List.length_map, List.length_cons, List.length_nil]; omega)) rfl (by first | exact own_mid List.mem_cons_self | exact own_mid (List.mem_cons_of_mem _ List.mem_cons_self) | (simp; done)) rfl rfl ?_
              rintro _ _ ⟨r77, rfl, rfl⟩
              refine ⟨[own 44 1 r77 ([] ++ ((R.map fun x => [ptr x.2.q]).take z))], rfl, ?_⟩
              refine SX.effN [own 44 1 r77 ([] ++ ((R.map fun x => [ptr x.2.q]).take z))] [] rfl (Eff.boxA (cs := rsZ n) rfl) rfl (by first | exact own_mid List.mem_cons_self | exact own_mid (List.mem_cons_of_mem _ List.mem_cons_self) | (simp; done)) rfl rfl ?_
              rintro _ _ ⟨b83, rfl, rfl⟩
              refine ⟨[.blk b83 61 (rsZ n), own 44 1 r77 ([] ++ ((R.map fun x => [ptr x.2.q]).take z))], rfl, ?_⟩
              refine SX.eff rfl (Eff.buildSl tabOk Try.underlying37 rfl rfl rfl rfl rfl rfl rfl) (by simp) rfl rfl ?_
              rintro _ _ ⟨rfl, rfl⟩
              refine SX.effN [.blk b83 61 (rsZ n), own 44 1 r77 ([] ++ ((R.map fun x => [ptr x.2.q]).take z))] [] rfl (Eff.append tabOk [_] Try.underlying37 rfl rfl rfl rfl rfl rfl (by intro c hc; first | (have hc := List.mem_of_mem_take hc; obtain ⟨x, _, rfl⟩ := List.mem_map.1 hc; rfl) | (have hc := List.mem_of_mem_drop hc; obtain ⟨x, _, rfl⟩ := List.mem_map.1 hc; rfl) | (rw [List.mem_singleton] at hc; subst hc; rfl)) (by unfold maxLen; simp only [List.length_append, List.length_take, List.length_drop, List.length_map, List.length_cons, List.length_nil]; omega) (by rw [show Try.prog.bytesOf 44 = 8 by kernel_rfl]; simp only [List.length_append, List.length_take, List.length_drop, List.length_map, List.length_cons, List.length_nil]; omega)) rfl (by first | exact own_mid List.mem_cons_self | exact own_mid (List.mem_cons_of_mem _ List.mem_cons_self) | (simp; done)) rfl rfl ?_
              rintro _ _ ⟨r85, rfl, rfl⟩
              refine ⟨[.blk b83 61 (rsZ n), own 44 1 r85 ([] ++ ((R.map fun x => [ptr x.2.q]).take z) ++ [[ptr b83]])], rfl, ?_⟩
              refine SX.effN [.blk b83 61 (rsZ n), own 44 1 r85 ([] ++ ((R.map fun x => [ptr x.2.q]).take z) ++ [[ptr b83]])] [] rfl (Eff.append tabOk [_] Try.underlying37 rfl rfl rfl rfl rfl rfl (by intro c hc; first | (have hc := List.mem_of_mem_take hc; obtain ⟨x, _, rfl⟩ := List.mem_map.1 hc; rfl) | (have hc := List.mem_of_mem_drop hc; obtain ⟨x, _, rfl⟩ := List.mem_map.1 hc; rfl) | (rw [List.mem_singleton] at hc; subst hc; rfl)) (by unfold maxLen; simp only [List.length_append, List.length_take, List.length_drop, List.length_map, List.length_cons, List.length_nil]; omega) (by rw [show Try.prog.bytesOf 44 = 8 by kernel_rfl]; simp only [List.length_append, List.length_take, List.length_drop, List.length_map, List.length_cons, List.length_nil]; omega)) rfl (by first | exact own_mid List.mem_cons_self | exact own_mid (List.mem_cons_of_mem _ List.mem_cons_self) | (simp; done)) rfl rfl ?_
              rintro _ _ ⟨r92, rfl, rfl⟩
              refine ⟨[.blk b83 61 (rsZ n), own 44 1 r92 ([] ++ ((R.map fun x => [ptr x.2.q]).take z) ++ [[ptr b83]] ++ ((R.map fun x => [ptr x.2.q]).drop z))], rfl, ?_⟩
              refine SX.val rfl (Val.nilCheck rfl) (by first | exact mids_head | (simp [mids, It.mids, ownPc, mapPc]; done) | (intro k hk; simp [mids, It.mids, ownPc, mapPc, mapAtPc] at hk ⊢; grind)) rfl rfl ?_
              refine SX.val rfl (Val.fieldAddr tabOk rfl rfl rfl rfl rfl) (by first | exact mids_head | (simp [mids, It.mids, ownPc, mapPc]; done) | (intro k hk; simp [mids, It.mids, ownPc, mapPc, mapAtPc] at hk ⊢; grind)) rfl rfl ?_
              refine SX.nil ?_
              refine SE.effZ rfl (Eff.storeOwn tabOk rfl rfl rfl rfl (by repeat first|assumption|exact m0|apply m1) (by repeat first|assumption|exact Upd.here|apply Upd.there) rfl (by rfl)) rfl rfl ?_
              rintro _ _ ⟨rfl, rfl⟩
              refine SE.seq ?_
              refine SC.seq ?_
              first
                | refine SC.freezeC [] 3 rfl (Upd.there Upd.here) rfl ?_
                | refine SC.freezeC [_] 3 rfl (Upd.there Upd.here) rfl ?_
              refine SC.region ?_
              refine SL.val (Val.move rfl) rfl rfl ?_
              refine SL.val (Val.nilCheck rfl) rfl rfl ?_
              refine SL.val (Val.fieldAddr tabOk rfl rfl rfl rfl rfl) rfl rfl ?_
              refine SL.val (Val.load1 tabOk rfl rfl (by first|(apply Or.inl;(repeat first|assumption|exact m0|apply m1);done)|(apply Or.inr;(repeat first|assumption|exact m0|apply m1);done)) List.not_mem_nil (by rfl)) rfl rfl ?_
              refine SL.val (Val.move rfl) rfl rfl ?_
              refine SL.val (Val.indexSl (q := z) tabOk Try.underlying37 rfl rfl rfl rfl (at_ins hz.1) rfl rfl) rfl rfl ?_
              refine SL.val (Val.to (C := ptr b83) (Val.load1R tabOk rfl rfl rfl) rfl) rfl rfl ?_
              refine SL.val (Val.assign rfl) rfl rfl ?_
              refine SL.nil (SE.seq ?_)
              refine SC.ret ?_
              have he : lgC n low (insR R seq ⟨b83, []⟩) = [int n, int low, .sl 1 ([] ++ ((R.map fun x => [int x.1]).take z) ++ [[int seq]] ++ ((R.map fun x => [int x.1]).drop z)), .sl 1 ([] ++ ((R.map fun x => [ptr x.2.q]).take z) ++ [[ptr b83]] ++ ((R.map fun x => [ptr x.2.q]).drop z))] := lg_ins hr hz.2.1 hge
              refine SE.fin (rs := [.tmp 4]) rfl (RV.tmp rfl RV.nil) (b83) (by rw [he]; exact List.Sublist.refl _) (by simp [It.rids]) ?_
              exact rfl
            · skip
              refine SX.effN [own 44 1 r70 ([])] [] rfl (Eff.boxA (cs := rsZ n) rfl) rfl (by first | exact own_mid List.mem_cons_self | exact own_mid (List.mem_cons_of_mem _ List.mem_cons_self) | (simp; done)) rfl rfl ?_
              rintro _ _ ⟨b83, rfl, rfl⟩
              refine ⟨[.blk b83 61 (rsZ n), own 44 1 r70 ([])], rfl, ?_⟩
              refine SX.two ?_ ?_
              · skip
                refine SX.effN [.blk b83 61 (rsZ n), own 44 1 r70 ([])] [] rfl (Eff.append tabOk [_] Try.underlying37 rfl rfl rfl rfl rfl rfl (by intro c hc; first | (have hc := List.mem_of_mem_take hc; obtain ⟨x, _, rfl⟩ := List.mem_map.1 hc; rfl) | (have hc := List.mem_of_mem_drop hc; obtain ⟨x, _, rfl⟩ := List.mem_map.1 hc; rfl) | (rw [List.mem_singleton] at hc; subst hc; rfl)) (by unfold maxLen; simp only [List.length_append, List.length_take, List.length_drop, List.length_map, List.length_cons, List.length_nil]; omega) (by rw [show Try.prog.bytesOf 44 = 8 by kernel_rfl]; simp only [List.length_append, List.length_take, List.length_drop, List.length_map, List.length_cons, List.length_nil]; omega)) rfl (by first | exact own_mid List.mem_cons_self | exact own_mid (List.mem_cons_of_mem _ List.mem_cons_self) | (simp; done)) rfl rfl ?_
                rintro _ _ ⟨r77, rfl, rfl⟩
                refine ⟨[.blk b83 61 (rsZ n), own 44 1 r77 ([] ++ ((R.map fun x => [ptr x.2.q]).take z))], rfl, ?_⟩
                refine SX.eff rfl (Eff.buildSl tabOk Try.underlying37 rfl rfl rfl rfl rfl rfl rfl) (by simp) rfl rfl ?_
                rintro _ _ ⟨rfl, rfl⟩
                refine SX.effN [.blk b83 61 (rsZ n), own 44 1 r77 ([] ++ ((R.map fun x => [ptr x.2.q]).take z))] [] rfl (Eff.append tabOk [_] Try.underlying37 rfl rfl rfl rfl rfl rfl (by intro c hc; first | (have hc := List.mem_of_mem_take hc; obtain ⟨x, _, rfl⟩ := List.mem_map.1 hc; rfl) | (have hc := List.mem_of_mem_drop hc; obtain ⟨x, _, rfl⟩ := List.mem_map.1 hc; rfl) | (rw [List.mem_singleton] at hc; subst hc; rfl)) (by unfold maxLen; simp only [List.length_append, List.length_take, List.length_drop, List.length_map, List.length_cons, List.length_nil]; omega) (by rw [show Try.prog.bytesOf 44 = 8 by kernel_rfl]; simp only [List.length_append, List.length_take, List.length_drop, List.length_map, List.length_cons, List.length_nil]; omega)) rfl (by first | exact own_mid List.mem_cons_self | exact own_mid (List.mem_cons_of_mem _ List.mem_cons_self) | (simp; done)) rfl rfl ?_
                rintro _ _ ⟨r85, rfl, rfl⟩
                refine ⟨[.blk b83 61 (rsZ n), own 44 1 r85 ([] ++ ((R.map fun x => [ptr x.2.q]).take z) ++ [[ptr b83]])], rfl, ?_⟩
                refine SX.effN [.blk b83 61 (rsZ n), own 44 1 r85 ([] ++ ((R.map fun x => [ptr x.2.q]).take z) ++ [[ptr b83]])] [] rfl (Eff.append tabOk [_] Try.underlying37 rfl rfl rfl rfl rfl rfl (by intro c hc; first | (have hc := List.mem_of_mem_take hc; obtain ⟨x, _, rfl⟩ := List.mem_map.1 hc; rfl) | (have hc := List.mem_of_mem_drop hc; obtain ⟨x, _, rfl⟩ := List.mem_map.1 hc; rfl) | (rw [List.mem_singleton] at hc; subst hc; rfl)) (by unfold maxLen; simp only [List.length_append, List.length_take, List.length_drop, List.length_map, List.length_cons, List.length_nil]; omega) (by rw [show Try.prog.bytesOf 44 = 8 by kernel_rfl]; simp only [List.length_append, List.length_take, List.length_drop, List.length_map, List.length_cons, List.length_nil]; omega)) rfl (by first | exact own_mid List.mem_cons_self | exact own_mid (List.mem_cons_of_mem _ List.mem_cons_self) | (simp; done)) rfl rfl ?_
                rintro _ _ ⟨r92, rfl, rfl⟩
                refine ⟨[.blk b83 61 (rsZ n), own 44 1 r92 ([] ++ ((R.map fun x => [ptr x.2.q]).take z) ++ [[ptr b83]] ++ ((R.map fun x => [ptr x.2.q]).drop z))], rfl, ?_⟩
                refine SX.val rfl (Val.nilCheck rfl) (by first | exact mids_head | (simp [mids, It.mids, ownPc, mapPc]; done) | (intro k hk; simp [mids, It.mids, ownPc, mapPc, mapAtPc] at hk ⊢; grind)) rfl rfl ?_
                refine SX.val rfl (Val.fieldAddr tabOk rfl rfl rfl rfl rfl) (by first | exact mids_head | (simp [mids, It.mids, ownPc, mapPc]; done) | (intro k hk; simp [mids, It.mids, ownPc, mapPc, mapAtPc] at hk ⊢; grind)) rfl rfl ?_
                refine SX.nil ?_
                refine SE.effZ rfl (Eff.storeOwn tabOk rfl rfl rfl rfl (by repeat first|assumption|exact m0|apply m1) (by repeat first|assumption|exact Upd.here|apply Upd.there) rfl (by rfl)) rfl rfl ?_
                rintro _ _ ⟨rfl, rfl⟩
                refine SE.seq ?_
                refine SC.seq ?_
                first
                  | refine SC.freezeC [] 3 rfl (Upd.there Upd.here) rfl ?_
                  | refine SC.freezeC [_] 3 rfl (Upd.there Upd.here) rfl ?_
                refine SC.region ?_
                refine SL.val (Val.move rfl) rfl rfl ?_
                refine SL.val (Val.nilCheck rfl) rfl rfl ?_
                refine SL.val (Val.fieldAddr tabOk rfl rfl rfl rfl rfl) rfl rfl ?_
                refine SL.val (Val.load1 tabOk rfl rfl (by first|(apply Or.inl;(repeat first|assumption|exact m0|apply m1);done)|(apply Or.inr;(repeat first|assumption|exact m0|apply m1);done)) List.not_mem_nil (by rfl)) rfl rfl ?_
                refine SL.val (Val.move rfl) rfl rfl ?_
                refine SL.val (Val.indexSl (q := z) tabOk Try.underlying37 rfl rfl rfl rfl (at_ins hz.1) rfl rfl) rfl rfl ?_
                refine SL.val (Val.to (C := ptr b83) (Val.load1R tabOk rfl rfl rfl) rfl) rfl rfl ?_
                refine SL.val (Val.assign rfl) rfl rfl ?_
                refine SL.nil (SE.seq ?_)
                refine SC.ret ?_
                have he : lgC n low (insR R seq ⟨b83, []⟩) = [int n, int low, .sl 1 ([] ++ ((R.map fun x => [int x.1]).take z) ++ [[int seq]] ++ ((R.map fun x => [int x.1]).drop z)), .sl 1 ([] ++ ((R.map fun x => [ptr x.2.q]).take z) ++ [[ptr b83]] ++ ((R.map fun x => [ptr x.2.q]).drop z))] := lg_ins hr hz.2.1 hge
                refine SE.fin (rs := [.tmp 4]) rfl (RV.tmp rfl RV.nil) (b83) (by rw [he]; exact List.Sublist.refl _) (by simp [It.rids]) ?_
                exact rfl
              · skip
                refine SX.eff rfl (Eff.buildSl tabOk Try.underlying37 rfl rfl rfl rfl rfl rfl rfl) (by simp) rfl rfl ?_
                rintro _ _ ⟨rfl, rfl⟩
                refine SX.effN [.blk b83 61 (rsZ n), own 44 1 r70 ([])] [] rfl (Eff.append tabOk [_] Try.underlying37 rfl rfl rfl rfl rfl rfl (by intro c hc; first | (have hc := List.mem_of_mem_take hc; obtain ⟨x, _, rfl⟩ := List.mem_map.1 hc; rfl) | (have hc := List.mem_of_mem_drop hc; obtain ⟨x, _, rfl⟩ := List.mem_map.1 hc; rfl) | (rw [List.mem_singleton] at hc; subst hc; rfl)) (by unfold maxLen; simp only [List.length_append, List.length_take, List.length_drop, List.length_map, List.length_cons, List.length_nil]; omega) (by rw [show Try.prog.bytesOf 44 = 8 by kernel_rfl]; simp only [List.length_append, List.length_take, List.length_drop, List.length_map, List.length_cons, List.length_nil]; omega)) rfl (by first | exact own_mid List.mem_cons_self | exact own_mid (List.mem_cons_of_mem _ List.mem_cons_self) | (simp; done)) rfl rfl ?_
                rintro _ _ ⟨r77, rfl, rfl⟩
                refine ⟨[.blk b83 61 (rsZ n), own 44 1 r77 ([] ++ ((R.map fun x => [ptr x.2.q]).take z))], rfl, ?_⟩
                refine SX.effN [.blk b83 61 (rsZ n), own 44 1 r77 ([] ++ ((R.map fun x => [ptr x.2.q]).take z))] [] rfl (Eff.append tabOk [_] Try.underlying37 rfl rfl rfl rfl rfl rfl (by intro c hc; first | (have hc := List.mem_of_mem_take hc; obtain ⟨x, _, rfl⟩ := List.mem_map.1 hc; rfl) | (have hc := List.mem_of_mem_drop hc; obtain ⟨x, _, rfl⟩ := List.mem_map.1 hc; rfl) | (rw [List.mem_singleton] at hc; subst hc; rfl)) (by unfold maxLen; simp only [List.length_append, List.length_take, List.length_drop, List.length_map, List.length_cons, List.length_nil]; omega) (by rw [show Try.prog.bytesOf 44 = 8 by kernel_rfl]; simp only [List.length_append, List.length_take, List.length_drop, List.length_map, List.length_cons, List.length_nil]; omega)) rfl (by first | exact own_mid List.mem_cons_self | exact own_mid (List.mem_cons_of_mem _ List.mem_cons_self) | (simp; done)) rfl rfl ?_
                rintro _ _ ⟨r85, rfl, rfl⟩
                refine ⟨[.blk b83 61 (rsZ n), own 44 1 r85 ([] ++ ((R.map fun x => [ptr x.2.q]).take z) ++ [[ptr b83]])], rfl, ?_⟩
                refine SX.effN [.blk b83 61 (rsZ n), own 44 1 r85 ([] ++ ((R.map fun x => [ptr x.2.q]).take z) ++ [[ptr b83]])] [] rfl (Eff.append tabOk [_] Try.underlying37 rfl rfl rfl rfl rfl rfl (by intro c hc; first | (have hc := List.mem_of_mem_take hc; obtain ⟨x, _, rfl⟩ := List.mem_map.1 hc; rfl) | (have hc := List.mem_of_mem_drop hc; obtain ⟨x, _, rfl⟩ := List.mem_map.1 hc; rfl) | (rw [List.mem_singleton] at hc; subst hc; rfl)) (by unfold maxLen; simp only [List.length_append, List.length_take, List.length_drop, List.length_map, List.length_cons, List.length_nil]; omega) (by rw [show Try.prog.bytesOf 44 = 8 by kernel_rfl]; simp only [List.length_append, List.length_take, List.length_drop, List.length_map, List.length_cons, List.length_nil]; omega)) rfl (by first | exact own_mid List.mem_cons_self | exact own_mid (List.mem_cons_of_mem _ List.mem_cons_self) | (simp; done)) rfl rfl ?_
                rintro _ _ ⟨r92, rfl, rfl⟩
                refine ⟨[.blk b83 61 (rsZ n), own 44 1 r92 ([] ++ ((R.map fun x => [ptr x.2.q]).take z) ++ [[ptr b83]] ++ ((R.map fun x => [ptr x.2.q]).drop z))], rfl, ?_⟩
                refine SX.val rfl (Val.nilCheck rfl) (by first | exact mids_head | (simp [mids, It.mids, ownPc, mapPc]; done) | (intro k hk; simp [mids, It.mids, ownPc, mapPc, mapAtPc] at hk ⊢; grind)) rfl rfl ?_
                refine SX.val rfl (Val.fieldAddr tabOk rfl rfl rfl rfl rfl) (by first | exact mids_head | (simp [mids, It.mids, ownPc, mapPc]; done) | (intro k hk; simp [mids, It.mids, ownPc, mapPc, mapAtPc] at hk ⊢; grind)) rfl rfl ?_
                refine SX.nil ?_
                refine SE.effZ rfl (Eff.storeOwn tabOk rfl rfl rfl rfl (by repeat first|assumption|exact m0|apply m1) (by repeat first|assumption|exact Upd.here|apply Upd.there) rfl (by rfl)) rfl rfl ?_
                rintro _ _ ⟨rfl, rfl⟩
                refine SE.seq ?_
                refine SC.seq ?_
                first
                  | refine SC.freezeC [] 3 rfl (Upd.there Upd.here) rfl ?_
                  | refine SC.freezeC [_] 3 rfl (Upd.there Upd.here) rfl ?_
                refine SC.region ?_
                refine SL.val (Val.move rfl) rfl rfl ?_
                refine SL.val (Val.nilCheck rfl) rfl rfl ?_
                refine SL.val (Val.fieldAddr tabOk rfl rfl rfl rfl rfl) rfl rfl ?_
                refine SL.val (Val.load1 tabOk rfl rfl (by first|(apply Or.inl;(repeat first|assumption|exact m0|apply m1);done)|(apply Or.inr;(repeat first|assumption|exact m0|apply m1);done)) List.not_mem_nil (by rfl)) rfl rfl ?_
                refine SL.val (Val.move rfl) rfl rfl ?_
                refine SL.val (Val.indexSl (q := z) tabOk Try.underlying37 rfl rfl rfl rfl (at_ins hz.1) rfl rfl) rfl rfl ?_
                refine SL.val (Val.to (C := ptr b83) (Val.load1R tabOk rfl rfl rfl) rfl) rfl rfl ?_
                refine SL.val (Val.assign rfl) rfl rfl ?_
                refine SL.nil (SE.seq ?_)
                refine SC.ret ?_
                have he : lgC n low (insR R seq ⟨b83, []⟩) = [int n, int low, .sl 1 ([] ++ ((R.map fun x => [int x.1]).take z) ++ [[int seq]] ++ ((R.map fun x => [int x.1]).drop z)), .sl 1 ([] ++ ((R.map fun x => [ptr x.2.q]).take z) ++ [[ptr b83]] ++ ((R.map fun x => [ptr x.2.q]).drop z))] := lg_ins hr hz.2.1 hge
                refine SE.fin (rs := [.tmp 4]) rfl (RV.tmp rfl RV.nil) (b83) (by rw [he]; exact List.Sublist.refl _) (by simp [It.rids]) ?_
                exact rfl
          · skip
            refine SX.effN [] [] rfl (Eff.boxA (cs := rsZ n) rfl) rfl (by first | exact own_mid List.mem_cons_self | exact own_mid (List.mem_cons_of_mem _ List.mem_cons_self) | (simp; done)) rfl rfl ?_
            rintro _ _ ⟨b83, rfl, rfl⟩
            refine ⟨[.blk b83 61 (rsZ n)], rfl, ?_⟩
            refine SX.two ?_ ?_
            · skip
              refine SX.effN [.blk b83 61 (rsZ n)] [] rfl (Eff.buildOwn tabOk Try.underlying37 rfl rfl rfl rfl rfl rfl rfl) rfl (by first | exact own_mid List.mem_cons_self | exact own_mid (List.mem_cons_of_mem _ List.mem_cons_self) | (simp; done)) rfl rfl ?_
              rintro _ _ ⟨r70, rfl, rfl⟩
              refine ⟨[own 44 1 r70 ([]), .blk b83 61 (rsZ n)], rfl, ?_⟩
              refine SX.two ?_ ?_
              · skip
                refine SX.effN [own 44 1 r70 ([]), .blk b83 61 (rsZ n)] [] rfl (Eff.append tabOk [] Try.underlying37 rfl rfl rfl rfl rfl rfl (by intro c hc; first | (have hc := List.mem_of_mem_take hc; obtain ⟨x, _, rfl⟩ := List.mem_map.1 hc; rfl) | (have hc := List.mem_of_mem_drop hc; obtain ⟨x, _, rfl⟩ := List.mem_map.1 hc; rfl) | (rw [List.mem_singleton] at hc; subst hc; rfl)) (by unfold maxLen; simp only [List.length_append, List.length_take, List.length_drop, List.length_map, List.length_cons, List.length_nil]; omega) (by rw [show Try.prog.bytesOf 44 = 8 by kernel_rfl]; simp only [List.length_append, List.length_take, List.length_drop, List.length_map, List.length_cons, List.length_nil]; omega)) rfl (by first | exact own_mid List.mem_cons_self | exact own_mid (List.mem_cons_of_mem _ List.mem_cons_self) | (simp; done)) rfl rfl ?_
                rintro _ _ ⟨r77, rfl, rfl⟩
                refine ⟨[own 44 1 r77 ([] ++ ((R.map fun x => [ptr x.2.q]).take z)), .blk b83 61 (rsZ n)], rfl, ?_⟩
                refine SX.eff rfl (Eff.buildSl tabOk Try.underlying37 rfl rfl rfl rfl rfl rfl rfl) (by simp) rfl rfl ?_
                rintro _ _ ⟨rfl, rfl⟩
                refine SX.effN [own 44 1 r77 ([] ++ ((R.map fun x => [ptr x.2.q]).take z)), .blk b83 61 (rsZ n)] [] rfl (Eff.append tabOk [] Try.underlying37 rfl rfl rfl rfl rfl rfl (by intro c hc; first | (have hc := List.mem_of_mem_take hc; obtain ⟨x, _, rfl⟩ := List.mem_map.1 hc; rfl) | (have hc := List.mem_of_mem_drop hc; obtain ⟨x, _, rfl⟩ := List.mem_map.1 hc; rfl) | (rw [List.mem_singleton] at hc; subst hc; rfl)) (by unfold maxLen; simp only [List.length_append, List.length_take, List.length_drop, List.length_map, List.length_cons, List.length_nil]; omega) (by rw [show Try.prog.bytesOf 44 = 8 by kernel_rfl]; simp only [List.length_append, List.length_take, List.length_drop, List.length_map, List.length_cons, List.length_nil]; omega)) rfl (by first | exact own_mid List.mem_cons_self | exact own_mid (List.mem_cons_of_mem _ List.mem_cons_self) | (simp; done)) rfl rfl ?_
                rintro _ _ ⟨r85, rfl, rfl⟩
                refine ⟨[own 44 1 r85 ([] ++ ((R.map fun x => [ptr x.2.q]).take z) ++ [[ptr b83]]), .blk b83 61 (rsZ n)], rfl, ?_⟩
                refine SX.effN [own 44 1 r85 ([] ++ ((R.map fun x => [ptr x.2.q]).take z) ++ [[ptr b83]]), .blk b83 61 (rsZ n)] [] rfl (Eff.append tabOk [] Try.underlying37 rfl rfl rfl rfl rfl rfl (by intro c hc; first | (have hc := List.mem_of_mem_take hc; obtain ⟨x, _, rfl⟩ := List.mem_map.1 hc; rfl) | (have hc := List.mem_of_mem_drop hc; obtain ⟨x, _, rfl⟩ := List.mem_map.1 hc; rfl) | (rw [List.mem_singleton] at hc; subst hc; rfl)) (by unfold maxLen; simp only [List.length_append, List.length_take, List.length_drop, List.length_map, List.length_cons, List.length_nil]; omega) (by rw [show Try.prog.bytesOf 44 = 8 by kernel_rfl]; simp only [List.length_append, List.length_take, List.length_drop, List.length_map, List.length_cons, List.length_nil]; omega)) rfl (by first | exact own_mid List.mem_cons_self | exact own_mid (List.mem_cons_of_mem _ List.mem_cons_self) | (simp; done)) rfl rfl ?_
                rintro _ _ ⟨r92, rfl, rfl⟩
                refine ⟨[own 44 1 r92 ([] ++ ((R.map fun x => [ptr x.2.q]).take z) ++ [[ptr b83]] ++ ((R.map fun x => [ptr x.2.q]).drop z)), .blk b83 61 (rsZ n)], rfl, ?_⟩
                refine SX.val rfl (Val.nilCheck rfl) (by first | exact mids_head | (simp [mids, It.mids, ownPc, mapPc]; done) | (intro k hk; simp [mids, It.mids, ownPc, mapPc, mapAtPc] at hk ⊢; grind)) rfl rfl ?_
                refine SX.val rfl (Val.fieldAddr tabOk rfl rfl rfl rfl rfl) (by first | exact mids_head | (simp [mids, It.mids, ownPc, mapPc]; done) | (intro k hk; simp [mids, It.mids, ownPc, mapPc, mapAtPc] at hk ⊢; grind)) rfl rfl ?_
                refine SX.nil ?_
                refine SE.effZ rfl (Eff.storeOwn tabOk rfl rfl rfl rfl (by repeat first|assumption|exact m0|apply m1) (by repeat first|assumption|exact Upd.here|apply Upd.there) rfl (by rfl)) rfl rfl ?_
                rintro _ _ ⟨rfl, rfl⟩
                refine SE.seq ?_
                refine SC.seq ?_
                first
                  | refine SC.freezeC [] 3 rfl (Upd.there Upd.here) rfl ?_
                  | refine SC.freezeC [_] 3 rfl (Upd.there Upd.here) rfl ?_
                refine SC.region ?_
                refine SL.val (Val.move rfl) rfl rfl ?_
                refine SL.val (Val.nilCheck rfl) rfl rfl ?_
                refine SL.val (Val.fieldAddr tabOk rfl rfl rfl rfl rfl) rfl rfl ?_
                refine SL.val (Val.load1 tabOk rfl rfl (by first|(apply Or.inl;(repeat first|assumption|exact m0|apply m1);done)|(apply Or.inr;(repeat first|assumption|exact m0|apply m1);done)) List.not_mem_nil (by rfl)) rfl rfl ?_
                refine SL.val (Val.move rfl) rfl rfl ?_
                refine SL.val (Val.indexSl (q := z) tabOk Try.underlying37 rfl rfl rfl rfl (at_ins hz.1) rfl rfl) rfl rfl ?_
                refine SL.val (Val.to (C := ptr b83) (Val.load1R tabOk rfl rfl rfl) rfl) rfl rfl ?_
                refine SL.val (Val.assign rfl) rfl rfl ?_
                refine SL.nil (SE.seq ?_)
                refine SC.ret ?_
                have he : lgC n low (insR R seq ⟨b83, []⟩) = [int n, int low, .sl 1 ([] ++ ((R.map fun x => [int x.1]).take z) ++ [[int seq]] ++ ((R.map fun x => [int x.1]).drop z)), .sl 1 ([] ++ ((R.map fun x => [ptr x.2.q]).take z) ++ [[ptr b83]] ++ ((R.map fun x => [ptr x.2.q]).drop z))] := lg_ins hr hz.2.1 hge
                refine SE.fin (rs := [.tmp 4]) rfl (RV.tmp rfl RV.nil) (b83) (by rw [he]; exact List.Sublist.refl _) (by simp [It.rids]) ?_
                exact rfl
              · skip
                refine SX.eff rfl (Eff.buildSl tabOk Try.underlying37 rfl rfl rfl rfl rfl rfl rfl) (by simp) rfl rfl ?_
                rintro _ _ ⟨rfl, rfl⟩
                refine SX.effN [own 44 1 r70 ([]), .blk b83 61 (rsZ n)] [] rfl (Eff.append tabOk [] Try.underlying37 rfl rfl rfl rfl rfl rfl (by intro c hc; first | (have hc := List.mem_of_mem_take hc; obtain ⟨x, _, rfl⟩ := List.mem_map.1 hc; rfl) | (have hc := List.mem_of_mem_drop hc; obtain ⟨x, _, rfl⟩ := List.mem_map.1 hc; rfl) | (rw [List.mem_singleton] at hc; subst hc; rfl)) (by unfold maxLen; simp only [List.length_append, List.length_take, List.length_drop, List.length_map, List.length_cons, List.length_nil]; omega) (by rw [show Try.prog.bytesOf 44 = 8 by kernel_rfl]; simp only [List.length_append, List.length_take, List.length_drop, List.length_map, List.length_cons, List.length_nil]; omega)) rfl (by first | exact own_mid List.mem_cons_self | exact own_mid (List.mem_cons_of_mem _ List.mem_cons_self) | (simp; done)) rfl rfl ?_
                rintro _ _ ⟨r77, rfl, rfl⟩
                refine ⟨[own 44 1 r77 ([] ++ ((R.map fun x => [ptr x.2.q]).take z)), .blk b83 61 (rsZ n)], rfl, ?_⟩
                refine SX.effN [own 44 1 r77 ([] ++ ((R.map fun x => [ptr x.2.q]).take z)), .blk b83 61 (rsZ n)] [] rfl (Eff.append tabOk [] Try.underlying37 rfl rfl rfl rfl rfl rfl (by intro c hc; first | (have hc := List.mem_of_mem_take hc; obtain ⟨x, _, rfl⟩ := List.mem_map.1 hc; rfl) | (have hc := List.mem_of_mem_drop hc; obtain ⟨x, _, rfl⟩ := List.mem_map.1 hc; rfl) | (rw [List.mem_singleton] at hc; subst hc; rfl)) (by unfold maxLen; simp only [List.length_append, List.length_take, List.length_drop, List.length_map, List.length_cons, List.length_nil]; omega) (by rw [show Try.prog.bytesOf 44 = 8 by kernel_rfl]; simp only [List.length_append, List.length_take, List.length_drop, List.length_map, List.length_cons, List.length_nil]; omega)) rfl (by first | exact own_mid List.mem_cons_self | exact own_mid (List.mem_cons_of_mem _ List.mem_cons_self) | (simp; done)) rfl rfl ?_
                rintro _ _ ⟨r85, rfl, rfl⟩
                refine ⟨[own 44 1 r85 ([] ++ ((R.map fun x => [ptr x.2.q]).take z) ++ [[ptr b83]]), .blk b83 61 (rsZ n)], rfl, ?_⟩
                refine SX.effN [own 44 1 r85 ([] ++ ((R.map fun x => [ptr x.2.q]).take z) ++ [[ptr b83]]), .blk b83 61 (rsZ n)] [] rfl (Eff.append tabOk [] Try.underlying37 rfl rfl rfl rfl rfl rfl (by intro c hc; first | (have hc := List.mem_of_mem_take hc; obtain ⟨x, _, rfl⟩ := List.mem_map.1 hc; rfl) | (have hc := List.mem_of_mem_drop hc; obtain ⟨x, _, rfl⟩ := List.mem_map.1 hc; rfl) | (rw [List.mem_singleton] at hc; subst hc; rfl)) (by unfold maxLen; simp only [List.length_append, List.length_take, List.length_drop, List.length_map, List.length_cons, List.length_nil]; omega) (by rw [show Try.prog.bytesOf 44 = 8 by kernel_rfl]; simp only [List.length_append, List.length_take, List.length_drop, List.length_map, List.length_cons, List.length_nil]; omega)) rfl (by first | exact own_mid List.mem_cons_self | exact own_mid (List.mem_cons_of_mem _ List.mem_cons_self) | (simp; done)) rfl rfl ?_
                rintro _ _ ⟨r92, rfl, rfl⟩
                refine ⟨[own 44 1 r92 ([] ++ ((R.map fun x => [ptr x.2.q]).take z) ++ [[ptr b83]] ++ ((R.map fun x => [ptr x.2.q]).drop z)), .blk b83 61 (rsZ n)], rfl, ?_⟩
                refine SX.val rfl (Val.nilCheck rfl) (by first | exact mids_head | (simp [mids, It.mids, ownPc, mapPc]; done) | (intro k hk; simp [mids, It.mids, ownPc, mapPc, mapAtPc] at hk ⊢; grind)) rfl rfl ?_
                refine SX.val rfl (Val.fieldAddr tabOk rfl rfl rfl rfl rfl) (by first | exact mids_head | (simp [mids, It.mids, ownPc, mapPc]; done) | (intro k hk; simp [mids, It.mids, ownPc, mapPc, mapAtPc] at hk ⊢; grind)) rfl rfl ?_
                refine SX.nil ?_
                refine SE.effZ rfl (Eff.storeOwn tabOk rfl rfl rfl rfl (by repeat first|assumption|exact m0|apply m1) (by repeat first|assumption|exact Upd.here|apply Upd.there) rfl (by rfl)) rfl rfl ?_
                rintro _ _ ⟨rfl, rfl⟩
                refine SE.seq ?_
                refine SC.seq ?_
                first
                  | refine SC.freezeC [] 3 rfl (Upd.there Upd.here) rfl ?_
                  | refine SC.freezeC [_] 3 rfl (Upd.there Upd.here) rfl ?_
                refine SC.region ?_
                refine SL.val (Val.move rfl) rfl rfl ?_
                refine SL.val (Val.nilCheck rfl) rfl rfl ?_
                refine SL.val (Val.fieldAddr tabOk rfl rfl rfl rfl rfl) rfl rfl ?_
                refine SL.val (Val.load1 tabOk rfl rfl (by first|(apply Or.inl;(repeat first|assumption|exact m0|apply m1);done)|(apply Or.inr;(repeat first|assumption|exact m0|apply m1);done)) List.not_mem_nil (by rfl)) rfl rfl ?_
                refine SL.val (Val.move rfl) rfl rfl ?_
                refine SL.val (Val.indexSl (q := z) tabOk Try.underlying37 rfl rfl rfl rfl (at_ins hz.1) rfl rfl) rfl rfl ?_
                refine SL.val (Val.to (C := ptr b83) (Val.load1R tabOk rfl rfl rfl) rfl) rfl rfl ?_
                refine SL.val (Val.assign rfl) rfl rfl ?_
                refine SL.nil (SE.seq ?_)
                refine SC.ret ?_
                have he : lgC n low (insR R seq ⟨b83, []⟩) = [int n, int low, .sl 1 ([] ++ ((R.map fun x => [int x.1]).take z) ++ [[int seq]] ++ ((R.map fun x => [int x.1]).drop z)), .sl 1 ([] ++ ((R.map fun x => [ptr x.2.q]).take z) ++ [[ptr b83]] ++ ((R.map fun x => [ptr x.2.q]).drop z))] := lg_ins hr hz.2.1 hge
                refine SE.fin (rs := [.tmp 4]) rfl (RV.tmp rfl RV.nil) (b83) (by rw [he]; exact List.Sublist.refl _) (by simp [It.rids]) ?_
                exact rfl
            · skip
              refine SX.eff rfl (Eff.buildSl tabOk Try.underlying37 rfl rfl rfl rfl rfl rfl rfl) (by simp) rfl rfl ?_
              rintro _ _ ⟨rfl, rfl⟩
              refine SX.effN [.blk b83 61 (rsZ n)] [] rfl (Eff.buildOwn tabOk Try.underlying37 rfl rfl rfl rfl rfl rfl rfl) rfl (by first | exact own_mid List.mem_cons_self | exact own_mid (List.mem_cons_of_mem _ List.mem_cons_self) | (simp; done)) rfl rfl ?_
              rintro _ _ ⟨r70, rfl, rfl⟩
              refine ⟨[own 44 1 r70 ([]), .blk b83 61 (rsZ n)], rfl, ?_⟩
              refine SX.effN [own 44 1 r70 ([]), .blk b83 61 (rsZ n)] [] rfl (Eff.append tabOk [] Try.underlying37 rfl rfl rfl rfl rfl rfl (by intro c hc; first | (have hc := List.mem_of_mem_take hc; obtain ⟨x, _, rfl⟩ := List.mem_map.1 hc; rfl) | (have hc := List.mem_of_mem_drop hc; obtain ⟨x, _, rfl⟩ := List.mem_map.1 hc; rfl) | (rw [List.mem_singleton] at hc; subst hc; rfl)) (by unfold maxLen; simp only [List.length_append, List.length_take, List.length_drop, List.length_map, List.length_cons, List.length_nil]; omega) (by rw [show Try.prog.bytesOf 44 = 8 by kernel_rfl]; simp only [List.length_append, List.length_take, List.length_drop, List.length_map, List.length_cons, List.length_nil]; omega)) rfl (by first | exact own_mid List.mem_cons_self | exact own_mid (List.mem_cons_of_mem _ List.mem_cons_self) | (simp; done)) rfl rfl ?_
              rintro _ _ ⟨r77, rfl, rfl⟩
              refine ⟨[own 44 1 r77 ([] ++ ((R.map fun x => [ptr x.2.q]).take z)), .blk b83 61 (rsZ n)], rfl, ?_⟩
              refine SX.effN [own 44 1 r77 ([] ++ ((R.map fun x => [ptr x.2.q]).take z)), .blk b83 61 (rsZ n)] [] rfl (Eff.append tabOk [] Try.underlying37 rfl rfl rfl rfl rfl rfl (by intro c hc; first | (have hc := List.mem_of_mem_take hc; obtain ⟨x, _, rfl⟩ := List.mem_map.1 hc; rfl) | (have hc := List.mem_of_mem_drop hc; obtain ⟨x, _, rfl⟩ := List.mem_map.1 hc; rfl) | (rw [List.mem_singleton] at hc; subst hc; rfl)) (by unfold maxLen; simp only [List.length_append, List.length_take, List.length_drop, List.length_map, List.length_cons, List.length_nil]; omega) (by rw [show Try.prog.bytesOf 44 = 8 by kernel_rfl]; simp only [List.length_append, List.length_take, List.length_drop, List.length_map, List.length_cons, List.length_nil]; omega)) rfl (by first | exact own_mid List.mem_cons_self | exact own_mid (List.mem_cons_of_mem _ List.mem_cons_self) | (simp; done)) rfl rfl ?_
              rintro _ _ ⟨r85, rfl, rfl⟩
              refine ⟨[own 44 1 r85 ([] ++ ((R.map fun x => [ptr x.2.q]).take z) ++ [[ptr b83]]), .blk b83 61 (rsZ n)], rfl, ?_⟩
              refine SX.effN [own 44 1 r85 ([] ++ ((R.map fun x => [ptr x.2.q]).take z) ++ [[ptr b83]]), .blk b83 61 (rsZ n)] [] rfl (Eff.append tabOk [] Try.underlying37 rfl rfl rfl rfl rfl rfl (by intro c hc; first | (have hc := List.mem_of_mem_take hc; obtain ⟨x, _, rfl⟩ := List.mem_map.1 hc; rfl) | (have hc := List.mem_of_mem_drop hc; obtain ⟨x, _, rfl⟩ := List.mem_map.1 hc; rfl) | (rw [List.mem_singleton] at hc; subst hc; rfl)) (by unfold maxLen; simp only [List.length_append, List.length_take, List.length_drop, List.length_map, List.length_cons, List.length_nil]; omega) (by rw [show Try.prog.bytesOf 44 = 8 by kernel_rfl]; simp only [List.length_append, List.length_take, List.length_drop, List.length_map, List.length_cons, List.length_nil]; omega)) rfl (by first | exact own_mid List.mem_cons_self | exact own_mid (List.mem_cons_of_mem _ List.mem_cons_self) | (simp; done)) rfl rfl ?_
              rintro _ _ ⟨r92, rfl, rfl⟩
              refine ⟨[own 44 1 r92 ([] ++ ((R.map fun x => [ptr x.2.q]).take z) ++ [[ptr b83]] ++ ((R.map fun x => [ptr x.2.q]).drop z)), .blk b83 61 (rsZ n)], rfl, ?_⟩
              refine SX.val rfl (Val.nilCheck rfl) (by first | exact mids_head | (simp [mids, It.mids, ownPc, mapPc]; done) | (intro k hk; simp [mids, It.mids, ownPc, mapPc, mapAtPc] at hk ⊢; grind)) rfl rfl ?_
              refine SX.val rfl (Val.fieldAddr tabOk rfl rfl rfl rfl rfl) (by first | exact mids_head | (simp [mids, It.mids, ownPc, mapPc]; done) | (intro k hk; simp [mids, It.mids, ownPc, mapPc, mapAtPc] at hk ⊢; grind)) rfl rfl ?_
              refine SX.nil ?_
              refine SE.effZ rfl (Eff.storeOwn tabOk rfl rfl rfl rfl (by repeat first|assumption|exact m0|apply m1) (by repeat first|assumption|exact Upd.here|apply Upd.there) rfl (by rfl)) rfl rfl ?_
              rintro _ _ ⟨rfl, rfl⟩
              refine SE.seq ?_
              refine SC.seq ?_
              first
                | refine SC.freezeC [] 3 rfl (Upd.there Upd.here) rfl ?_
                | refine SC.freezeC [_] 3 rfl (Upd.there Upd.here) rfl ?_
              refine SC.region ?_
              refine SL.val (Val.move rfl) rfl rfl ?_
              refine SL.val (Val.nilCheck rfl) rfl rfl ?_
              refine SL.val (Val.fieldAddr tabOk rfl rfl rfl rfl rfl) rfl rfl ?_
              refine SL.val (Val.load1 tabOk rfl rfl (by first|(apply Or.inl;(repeat first|assumption|exact m0|apply m1);done)|(apply Or.inr;(repeat first|assumption|exact m0|apply m1);done)) List.not_mem_nil (by rfl)) rfl rfl ?_
              refine SL.val (Val.move rfl) rfl rfl ?_
              refine SL.val (Val.indexSl (q := z) tabOk Try.underlying37 rfl rfl rfl rfl (at_ins hz.1) rfl rfl) rfl rfl ?_
              refine SL.val (Val.to (C := ptr b83) (Val.load1R tabOk rfl rfl rfl) rfl) rfl rfl ?_
              refine SL.val (Val.assign rfl) rfl rfl ?_
              refine SL.nil (SE.seq ?_)
              refine SC.ret ?_
              have he : lgC n low (insR R seq ⟨b83, []⟩) = [int n, int low, .sl 1 ([] ++ ((R.map fun x => [int x.1]).take z) ++ [[int seq]] ++ ((R.map fun x => [int x.1]).drop z)), .sl 1 ([] ++ ((R.map fun x => [ptr x.2.q]).take z) ++ [[ptr b83]] ++ ((R.map fun x => [ptr x.2.q]).drop z))] := lg_ins hr hz.2.1 hge
              refine SE.fin (rs := [.tmp 4]) rfl (RV.tmp rfl RV.nil) (b83) (by rw [he]; exact List.Sublist.refl _) (by simp [It.rids]) ?_
              exact rfl
      · skip
        refine SX.eff rfl (Eff.buildSl tabOk Try.underlying34 rfl rfl rfl rfl rfl rfl rfl) (by simp) rfl rfl ?_
        rintro _ _ ⟨rfl, rfl⟩
        refine SX.effN [] [] rfl (Eff.buildOwn tabOk Try.underlying34 rfl rfl rfl rfl rfl rfl rfl) rfl (by first | exact own_mid List.mem_cons_self | exact own_mid (List.mem_cons_of_mem _ List.mem_cons_self) | (simp; done)) rfl rfl ?_
        rintro _ _ ⟨r49, rfl, rfl⟩
        refine ⟨[own 2 1 r49 ([])], rfl, ?_⟩
        refine SX.effN [own 2 1 r49 ([])] [] rfl (Eff.append tabOk [] Try.underlying34 rfl rfl rfl rfl rfl rfl (by intro c hc; first | (have hc := List.mem_of_mem_take hc; obtain ⟨x, _, rfl⟩ := List.mem_map.1 hc; rfl) | (have hc := List.mem_of_mem_drop hc; obtain ⟨x, _, rfl⟩ := List.mem_map.1 hc; rfl) | (rw [List.mem_singleton] at hc; subst hc; rfl)) (by unfold maxLen; simp only [List.length_append, List.length_take, List.length_drop, List.length_map, List.length_cons, List.length_nil]; omega) (by rw [show Try.prog.bytesOf 2 = 8 by kernel_rfl]; simp only [List.length_append, List.length_take, List.length_drop, List.length_map, List.length_cons, List.length_nil]; omega)) rfl (by first | exact own_mid List.mem_cons_self | exact own_mid (List.mem_cons_of_mem _ List.mem_cons_self) | (simp; done)) rfl rfl ?_
        rintro _ _ ⟨r56, rfl, rfl⟩
        refine ⟨[own 2 1 r56 ([] ++ ((R.map fun x => [int x.1]).take z))], rfl, ?_⟩
        refine SX.effN [own 2 1 r56 ([] ++ ((R.map fun x => [int x.1]).take z))] [] rfl (Eff.append tabOk [] Try.underlying34 rfl rfl rfl rfl rfl rfl (by intro c hc; first | (have hc := List.mem_of_mem_take hc; obtain ⟨x, _, rfl⟩ := List.mem_map.1 hc; rfl) | (have hc := List.mem_of_mem_drop hc; obtain ⟨x, _, rfl⟩ := List.mem_map.1 hc; rfl) | (rw [List.mem_singleton] at hc; subst hc; rfl)) (by unfold maxLen; simp only [List.length_append, List.length_take, List.length_drop, List.length_map, List.length_cons, List.length_nil]; omega) (by rw [show Try.prog.bytesOf 2 = 8 by kernel_rfl]; simp only [List.length_append, List.length_take, List.length_drop, List.length_map, List.length_cons, List.length_nil]; omega)) rfl (by first | exact own_mid List.mem_cons_self | exact own_mid (List.mem_cons_of_mem _ List.mem_cons_self) | (simp; done)) rfl rfl ?_
        rintro _ _ ⟨r59, rfl, rfl⟩
        refine ⟨[own 2 1 r59 ([] ++ ((R.map fun x => [int x.1]).take z) ++ [[int seq]])], rfl, ?_⟩
        refine SX.effN [own 2 1 r59 ([] ++ ((R.map fun x => [int x.1]).take z) ++ [[int seq]])] [] rfl (Eff.append tabOk [] Try.underlying34 rfl rfl rfl rfl rfl rfl (by intro c hc; first | (have hc := List.mem_of_mem_take hc; obtain ⟨x, _, rfl⟩ := List.mem_map.1 hc; rfl) | (have hc := List.mem_of_mem_drop hc; obtain ⟨x, _, rfl⟩ := List.mem_map.1 hc; rfl) | (rw [List.mem_singleton] at hc; subst hc; rfl)) (by unfold maxLen; simp only [List.length_append, List.length_take, List.length_drop, List.length_map, List.length_cons, List.length_nil]; omega) (by rw [show Try.prog.bytesOf 2 = 8 by kernel_rfl]; simp only [List.length_append, List.length_take, List.length_drop, List.length_map, List.length_cons, List.length_nil]; omega)) rfl (by first | exact own_mid List.mem_cons_self | exact own_mid (List.mem_cons_of_mem _ List.mem_cons_self) | (simp; done)) rfl rfl ?_
        rintro _ _ ⟨r66, rfl, rfl⟩
        refine ⟨[own 2 1 r66 ([] ++ ((R.map fun x => [int x.1]).take z) ++ [[int seq]] ++ ((R.map fun x => [int x.1]).drop z))], rfl, ?_⟩
        refine SX.val rfl (Val.nilCheck rfl) (by first | exact mids_head | (simp [mids, It.mids, ownPc, mapPc]; done) | (intro k hk; simp [mids, It.mids, ownPc, mapPc, mapAtPc] at hk ⊢; grind)) rfl rfl ?_
        refine SX.val rfl (Val.fieldAddr tabOk rfl rfl rfl rfl rfl) (by first | exact mids_head | (simp [mids, It.mids, ownPc, mapPc]; done) | (intro k hk; simp [mids, It.mids, ownPc, mapPc, mapAtPc] at hk ⊢; grind)) rfl rfl ?_
        refine SX.nil ?_
        refine SE.effZ rfl (Eff.storeOwn tabOk rfl rfl rfl rfl (by repeat first|assumption|exact m0|apply m1) (by repeat first|assumption|exact Upd.here|apply Upd.there) rfl (by rfl)) rfl rfl ?_
        rintro _ _ ⟨rfl, rfl⟩
        refine SE.seq ?_
        first
          | refine SC.freezeC [] 2 rfl Upd.here rfl ?_
          | refine SC.freezeC [_] 2 rfl Upd.here rfl ?_
        refine SC.drawZ (mids ([] : Blks) ++ []) (.q 0 (.q 2 (.q 3 (.q 4 (.q 5 (.q 6 (.q 7 (.q 9 (.q 10 (.q 11 (.q 12 (.q 13 (.q 17 (.q 18 (.q 19 (.q 20 (.q 21 (.q 22 (.two 1 14 (.two 8 14 (.e 14 (.e 15 (.e 16 (.e 23 (.q 24 (.q 25 .nil)))))) (.two 8 15 (.e 15 (.e 16 (.e 23 (.q 24 (.q 25 .nil))))) (.e 8 (.e 16 (.e 23 (.q 24 (.q 25 .nil))))))) (.two 1 15 (.two 8 15 (.e 15 (.e 16 (.e 23 (.q 24 (.q 25 .nil))))) (.e 8 (.e 16 (.e 23 (.q 24 (.q 25 .nil)))))) (.e 1 (.e 8 (.e 16 (.e 23 (.q 24 (.q 25 .nil)))))))))))))))))))))))))) (by kernel_rfl) (by kernel_rfl) ?_
        refine SX.val rfl (Val.move rfl) (by first | exact mids_head | (simp [mids, It.mids, ownPc, mapPc]; done) | (intro k hk; simp [mids, It.mids, ownPc, mapPc, mapAtPc] at hk ⊢; grind)) rfl rfl ?_
        refine SX.val rfl (Val.move rfl) (by first | exact mids_head | (simp [mids, It.mids, ownPc, mapPc]; done) | (intro k hk; simp [mids, It.mids, ownPc, mapPc, mapAtPc] at hk ⊢; grind)) rfl rfl ?_
        refine SX.val rfl (Val.nilCheck rfl) (by first | exact mids_head | (simp [mids, It.mids, ownPc, mapPc]; done) | (intro k hk; simp [mids, It.mids, ownPc, mapPc, mapAtPc] at hk ⊢; grind)) rfl rfl ?_
        refine SX.val rfl (Val.fieldAddr tabOk rfl rfl rfl rfl rfl) (by first | exact mids_head | (simp [mids, It.mids, ownPc, mapPc]; done) | (intro k hk; simp [mids, It.mids, ownPc, mapPc, mapAtPc] at hk ⊢; grind)) rfl rfl ?_
        refine SX.val rfl (Val.load1 tabOk rfl rfl (by first|(apply Or.inl;(repeat first|assumption|exact m0|apply m1);done)|(apply Or.inr;(repeat first|assumption|exact m0|apply m1);done)) (by simp [mids, It.mids, ownPc]) (by rfl)) (by first | exact mids_head | (simp [mids, It.mids, ownPc, mapPc]; done) | (intro k hk; simp [mids, It.mids, ownPc, mapPc, mapAtPc] at hk ⊢; grind)) rfl rfl ?_
        refine SX.val rfl (Val.move rfl) (by first | exact mids_head | (simp [mids, It.mids, ownPc, mapPc]; done) | (intro k hk; simp [mids, It.mids, ownPc, mapPc, mapAtPc] at hk ⊢; grind)) rfl rfl ?_
        refine SX.val rfl (Val.sliceHi (q := z) tabOk Try.underlying37 rfl rfl rfl rfl rfl (by rw [List.length_map]; exact hz.1)) (by first | exact mids_head | (simp [mids, It.mids, ownPc, mapPc]; done) | (intro k hk; simp [mids, It.mids, ownPc, mapPc, mapAtPc] at hk ⊢; grind)) rfl rfl ?_
        refine SX.val rfl (Val.move rfl) (by first | exact mids_head | (simp [mids, It.mids, ownPc, mapPc]; done) | (intro k hk; simp [mids, It.mids, ownPc, mapPc, mapAtPc] at hk ⊢; grind)) rfl rfl ?_
        refine SX.val rfl (Val.nilCheck rfl) (by first | exact mids_head | (simp [mids, It.mids, ownPc, mapPc]; done) | (intro k hk; simp [mids, It.mids, ownPc, mapPc, mapAtPc] at hk ⊢; grind)) rfl rfl ?_
        refine SX.val rfl (Val.fieldAddr tabOk rfl rfl rfl rfl rfl) (by first | exact mids_head | (simp [mids, It.mids, ownPc, mapPc]; done) | (intro k hk; simp [mids, It.mids, ownPc, mapPc, mapAtPc] at hk ⊢; grind)) rfl rfl ?_
        refine SX.val rfl (Val.load1 tabOk rfl rfl (by first|(apply Or.inl;(repeat first|assumption|exact m0|apply m1);done)|(apply Or.inr;(repeat first|assumption|exact m0|apply m1);done)) (by simp [mids, It.mids, ownPc]) (by rfl)) (by first | exact mids_head | (simp [mids, It.mids, ownPc, mapPc]; done) | (intro k hk; simp [mids, It.mids, ownPc, mapPc, mapAtPc] at hk ⊢; grind)) rfl rfl ?_
        refine SX.val rfl (Val.buildS (L := rsZ n) tabOk rfl rfl rfl rfl) (by first | exact mids_head | (simp [mids, It.mids, ownPc, mapPc]; done) | (intro k hk; simp [mids, It.mids, ownPc, mapPc, mapAtPc] at hk ⊢; grind)) rfl rfl ?_
        refine SX.val rfl (Val.move rfl) (by first | exact mids_head | (simp [mids, It.mids, ownPc, mapPc]; done) | (intro k hk; simp [mids, It.mids, ownPc, mapPc, mapAtPc] at hk ⊢; grind)) rfl rfl ?_
        refine SX.val rfl (Val.nilCheck rfl) (by first | exact mids_head | (simp [mids, It.mids, ownPc, mapPc]; done) | (intro k hk; simp [mids, It.mids, ownPc, mapPc, mapAtPc] at hk ⊢; grind)) rfl rfl ?_
        refine SX.val rfl (Val.fieldAddr tabOk rfl rfl rfl rfl rfl) (by first | exact mids_head | (simp [mids, It.mids, ownPc, mapPc]; done) | (intro k hk; simp [mids, It.mids, ownPc, mapPc, mapAtPc] at hk ⊢; grind)) rfl rfl ?_
        refine SX.val rfl (Val.load1 tabOk rfl rfl (by first|(apply Or.inl;(repeat first|assumption|exact m0|apply m1);done)|(apply Or.inr;(repeat first|assumption|exact m0|apply m1);done)) (by simp [mids, It.mids, ownPc]) (by rfl)) (by first | exact mids_head | (simp [mids, It.mids, ownPc, mapPc]; done) | (intro k hk; simp [mids, It.mids, ownPc, mapPc, mapAtPc] at hk ⊢; grind)) rfl rfl ?_
        refine SX.val rfl (Val.move rfl) (by first | exact mids_head | (simp [mids, It.mids, ownPc, mapPc]; done) | (intro k hk; simp [mids, It.mids, ownPc, mapPc, mapAtPc] at hk ⊢; grind)) rfl rfl ?_
        refine SX.val rfl (Val.sliceLo (q := z) tabOk Try.underlying37 rfl rfl rfl rfl rfl (by rw [List.length_map]; exact hz.1)) (by first | exact mids_head | (simp [mids, It.mids, ownPc, mapPc]; done) | (intro k hk; simp [mids, It.mids, ownPc, mapPc, mapAtPc] at hk ⊢; grind)) rfl rfl ?_
        refine SX.two ?_ ?_
        · skip
          refine SX.effN [] [] rfl (Eff.buildOwn tabOk Try.underlying37 rfl rfl rfl rfl rfl rfl rfl) rfl (by first | exact own_mid List.mem_cons_self | exact own_mid (List.mem_cons_of_mem _ List.mem_cons_self) | (simp; done)) rfl rfl ?_
          rintro _ _ ⟨r70, rfl, rfl⟩
          refine ⟨[own 44 1 r70 ([])], rfl, ?_⟩
          refine SX.two ?_ ?_
          · skip
            refine SX.effN [own 44 1 r70 ([])] [] rfl (Eff.append tabOk [] Try.underlying37 rfl rfl rfl rfl rfl rfl (by intro c hc; first | (have hc := List.mem_of_mem_take hc; obtain ⟨x, _, rfl⟩ := List.mem_map.1 hc; rfl) | (have hc := List.mem_of_mem_drop hc; obtain ⟨x, _, rfl⟩ := List.mem_map.1 hc; rfl) | (rw [List.mem_singleton] at hc; subst hc; rfl)) (by unfold maxLen; simp only [List.length_append, List.length_take, List.length_drop, List.length_map, List.length_cons, List.length_nil]; omega) (by rw [show Try.prog.bytesOf 44 = 8 by kernel_rfl]; simp only [List.length_append, List.length_take, List.length_drop, List.length_map, List.length_cons, List.length_nil]; omega)) rfl (by first | exact own_mid List.mem_cons_self | exact own_mid (List.mem_cons_of_mem _ List.mem_cons_self) | (simp; done)) rfl rfl ?_
            rintro _ _ ⟨r77, rfl, rfl⟩
            refine ⟨[own 44 1 r77 ([] ++ ((R.map fun x => [ptr x.2.q]).take z))], rfl, ?_⟩
            refine SX.effN [own 44 1 r77 ([] ++ ((R.map fun x => [ptr x.2.q]).take z))] [] rfl (Eff.boxA (cs := rsZ n) rfl) rfl (by first | exact own_mid List.mem_cons_self | exact own_mid (List.mem_cons_of_mem _ List.mem_cons_self) | (simp; done)) rfl rfl ?_
            rintro _ _ ⟨b83, rfl, rfl⟩
            refine ⟨[.blk b83 61 (rsZ n), own 44 1 r77 ([] ++ ((R.map fun x => [ptr x.2.q]).take z))], rfl, ?_⟩
            refine SX.eff rfl (Eff.buildSl tabOk Try.underlying37 rfl rfl rfl rfl rfl rfl rfl) (by simp) rfl rfl ?_
            rintro _ _ ⟨rfl, rfl⟩
            refine SX.effN [.blk b83 61 (rsZ n), own 44 1 r77 ([] ++ ((R.map fun x => [ptr x.2.q]).take z))] [] rfl (Eff.append tabOk [_] Try.underlying37 rfl rfl rfl rfl rfl rfl (by intro c hc; first | (have hc := List.mem_of_mem_take hc; obtain ⟨x, _, rfl⟩ := List.mem_map.1 hc; rfl) | (have hc := List.mem_of_mem_drop hc; obtain ⟨x, _, rfl⟩ := List.mem_map.1 hc; rfl) | (rw [List.mem_singleton] at hc; subst hc; rfl)) (by unfold maxLen; simp only [List.length_append, List.length_take, List.length_drop, List.length_map, List.length_cons, List.length_nil]; omega) (by rw [show Try.prog.bytesOf 44 = 8 by kernel_rfl]; simp only [List.length_append, List.length_take, List.length_drop, List.length_map, List.length_cons, List.length_nil]; omega)) rfl (by first | exact own_mid List.mem_cons_self | exact own_mid (List.mem_cons_of_mem _ List.mem_cons_self) | (simp; done)) rfl rfl ?_
            rintro _ _ ⟨r85, rfl, rfl⟩
            refine ⟨[.blk b83 61 (rsZ n), own 44 1 r85 ([] ++ ((R.map fun x => [ptr x.2.q]).take z) ++ [[ptr b83]])], rfl, ?_⟩
            refine SX.effN [.blk b83 61 (rsZ n), own 44 1 r85 ([] ++ ((R.map fun x => [ptr x.2.q]).take z) ++ [[ptr b83]])] [] rfl (Eff.append tabOk [_] Try.underlying37 rfl rfl rfl rfl rfl rfl (by intro c hc; first | (have hc := List.mem_of_mem_take hc; obtain ⟨x, _, rfl⟩ := List.mem_map.1 hc; rfl) | (have hc := List.mem_of_mem_drop hc; obtain ⟨x, _, rfl⟩ := List.mem_map.1 hc; rfl) | (rw [List.mem_singleton] at hc; subst hc; rfl)) (by unfold maxLen; simp only [List.length_append, List.length_take, List.length_drop, List.length_map, List.length_cons, List.length_nil]; omega) (by rw [show Try.prog.bytesOf 44 = 8 by kernel_rfl]; simp only [List.length_append, List.length_take, List.length_drop, List.length_map, List.length_cons, List.length_nil]; omega)) rfl (by first | exact own_mid List.mem_cons_self | exact own_mid (List.mem_cons_of_mem _ List.mem_cons_self) | (simp; done)) rfl rfl ?_
            rintro _ _ ⟨r92, rfl, rfl⟩
            refine ⟨[.blk b83 61 (rsZ n), own 44 1 r92 ([] ++ ((R.map fun x => [ptr x.2.q]).take z) ++ [[ptr b83]] ++ ((R.map fun x => [ptr x.2.q]).drop z))], rfl, ?_⟩
            refine SX.val rfl (Val.nilCheck rfl) (by first | exact mids_head | (simp [mids, It.mids, ownPc, mapPc]; done) | (intro k hk; simp [mids, It.mids, ownPc, mapPc, mapAtPc] at hk ⊢; grind)) rfl rfl ?_
            refine SX.val rfl (Val.fieldAddr tabOk rfl rfl rfl rfl rfl) (by first | exact mids_head | (simp [mids, It.mids, ownPc, mapPc]; done) | (intro k hk; simp [mids, It.mids, ownPc, mapPc, mapAtPc] at hk ⊢; grind)) rfl rfl ?_
            refine SX.nil ?_
            refine SE.effZ rfl (Eff.storeOwn tabOk rfl rfl rfl rfl (by repeat first|assumption|exact m0|apply m1) (by repeat first|assumption|exact Upd.here|apply Upd.there) rfl (by rfl)) rfl rfl ?_
            rintro _ _ ⟨rfl, rfl⟩
            refine SE.seq ?_
            refine SC.seq ?_
            first
              | refine SC.freezeC [] 3 rfl (Upd.there Upd.here) rfl ?_
              | refine SC.freezeC [_] 3 rfl (Upd.there Upd.here) rfl ?_
            refine SC.region ?_
            refine SL.val (Val.move rfl) rfl rfl ?_
            refine SL.val (Val.nilCheck rfl) rfl rfl ?_
            refine SL.val (Val.fieldAddr tabOk rfl rfl rfl rfl rfl) rfl rfl ?_
            refine SL.val (Val.load1 tabOk rfl rfl (by first|(apply Or.inl;(repeat first|assumption|exact m0|apply m1);done)|(apply Or.inr;(repeat first|assumption|exact m0|apply m1);done)) List.not_mem_nil (by rfl)) rfl rfl ?_
            refine SL.val (Val.move rfl) rfl rfl ?_
            refine SL.val (Val.indexSl (q := z) tabOk Try.underlying37 rfl rfl rfl rfl (at_ins hz.1) rfl rfl) rfl rfl ?_
            refine SL.val (Val.to (C := ptr b83) (Val.load1R tabOk rfl rfl rfl) rfl) rfl rfl ?_
            refine SL.val (Val.assign rfl) rfl rfl ?_
            refine SL.nil (SE.seq ?_)
            refine SC.ret ?_
            have he : lgC n low (insR R seq ⟨b83, []⟩) = [int n, int low, .sl 1 ([] ++ ((R.map fun x => [int x.1]).take z) ++ [[int seq]] ++ ((R.map fun x => [int x.1]).drop z)), .sl 1 ([] ++ ((R.map fun x => [ptr x.2.q]).take z) ++ [[ptr b83]] ++ ((R.map fun x => [ptr x.2.q]).drop z))] := lg_ins hr hz.2.1 hge
            refine SE.fin (rs := [.tmp 4]) rfl (RV.tmp rfl RV.nil) (b83) (by rw [he]; exact List.Sublist.refl _) (by simp [It.rids]) ?_
            exact rfl
          · skip
            refine SX.effN [own 44 1 r70 ([])] [] rfl (Eff.boxA (cs := rsZ n) rfl) rfl (by first | exact own_mid List.mem_cons_self | exact own_mid (List.mem_cons_of_mem _ List.mem_cons_self) | (simp; done)) rfl rfl ?_
            rintro _ _ ⟨b83, rfl, rfl⟩
            refine ⟨[.blk b83 61 (rsZ n), own 44 1 r70 ([])], rfl, ?_⟩
            refine SX.two ?_ ?_
            · skip
              refine SX.effN [.blk b83 61 (rsZ n), own 44 1 r70 ([])] [] rfl (Eff.append tabOk [_] Try.underlying37 rfl rfl rfl rfl rfl rfl (by intro c hc; first | (have hc := List.mem_of_mem_take hc; obtain ⟨x, _, rfl⟩ := List.mem_map.1 hc; rfl) | (have hc := List.mem_of_mem_drop hc; obtain ⟨x, _, rfl⟩ := List.mem_map.1 hc; rfl) | (rw [List.mem_singleton] at hc; subst hc; rfl)) (by unfold maxLen; simp only [List.length_append, List.length_take, List.length_drop, List.length_map, List.length_cons, List.length_nil]; omega) (by rw [show Try.prog.bytesOf 44 = 8 by kernel_rfl]; simp only [List.length_append, List.length_take, List.length_drop, List.length_map, List.length_cons, List.length_nil]; omega)) rfl (by first | exact own_mid List.mem_cons_self | exact own_mid (List.mem_cons_of_mem _ List.mem_cons_self) | (simp; done)) rfl rfl ?_
              rintro _ _ ⟨r77, rfl, rfl⟩
              refine ⟨[.blk b83 61 (rsZ n), own 44 1 r77 ([] ++ ((R.map fun x => [ptr x.2.q]).take z))], rfl, ?_⟩
              refine SX.eff rfl (Eff.buildSl tabOk Try.underlying37 rfl rfl rfl rfl rfl rfl rfl) (by simp) rfl rfl ?_
              rintro _ _ ⟨rfl, rfl⟩
              refine SX.effN [.blk b83 61 (rsZ n), own 44 1 r77 ([] ++ ((R.map fun x => [ptr x.2.q]).take z))] [] rfl (Eff.append tabOk [_] Try.underlying37 rfl rfl rfl rfl rfl rfl (by intro c hc; first | (have hc := List.mem_of_mem_take hc; obtain ⟨x, _, rfl⟩ := List.mem_map.1 hc; rfl) | (have hc := List.mem_of_mem_drop hc; obtain ⟨x, _, rfl⟩ := List.mem_map.1 hc; rfl) | (rw [List.mem_singleton] at hc; subst hc; rfl)) (by unfold maxLen; simp only [List.length_append, List.length_take, List.length_drop, List.length_map, List.length_cons, List.length_nil]; omega) (by rw [show Try.prog.bytesOf 44 = 8 by kernel_rfl]; simp only [List.length_append, List.length_take, List.length_drop, List.length_map, List.length_cons, List.length_nil]; omega)) rfl (by first | exact own_mid List.mem_cons_self | exact own_mid (List.mem_cons_of_mem _ List.mem_cons_self) | (simp; done)) rfl rfl ?_
              rintro _ _ ⟨r85, rfl, rfl⟩
              refine ⟨[.blk b83 61 (rsZ n), own 44 1 r85 ([] ++ ((R.map fun x => [ptr x.2.q]).take z) ++ [[ptr b83]])], rfl, ?_⟩
              refine SX.effN [.blk b83 61 (rsZ n), own 44 1 r85 ([] ++ ((R.map fun x => [ptr x.2.q]).take z) ++ [[ptr b83]])] [] rfl (Eff.append tabOk [_] Try.underlying37 rfl rfl rfl rfl rfl rfl (by intro c hc; first | (have hc := List.mem_of_mem_take hc; obtain ⟨x, _, rfl⟩ := List.mem_map.1 hc; rfl) | (have hc := List.mem_of_mem_drop hc; obtain ⟨x, _, rfl⟩ := List.mem_map.1 hc; rfl) | (rw [List.mem_singleton] at hc; subst hc; rfl)) (by unfold maxLen; simp only [List.length_append, List.length_take, List.length_drop, List.length_map, List.length_cons, List.length_nil]; omega) (by rw [show Try.prog.bytesOf 44 = 8 by kernel_rfl]; simp only [List.length_append, List.length_take, List.length_drop, List.length_map, List.length_cons, List.length_nil]; omega)) rfl (by first | exact own_mid List.mem_cons_self | exact own_mid (List.mem_cons_of_mem _ List.mem_cons_self) | (simp; done)) rfl rfl ?_
              rintro _ _ ⟨r92, rfl, rfl⟩
              refine ⟨[.blk b83 61 (rsZ n), own 44 1 r92 ([] ++ ((R.map fun x => [ptr x.2.q]).take z) ++ [[ptr b83]] ++ ((R.map fun x => [ptr x.2.q]).drop z))], rfl, ?_⟩
              refine SX.val rfl (Val.nilCheck rfl) (by first | exact mids_head | (simp [mids, It.mids, ownPc, mapPc]; done) | (intro k hk; simp [mids, It.mids, ownPc, mapPc, mapAtPc] at hk ⊢; grind)) rfl rfl ?_
              refine SX.val rfl (Val.fieldAddr tabOk rfl rfl rfl rfl rfl) (by first | exact mids_head | (simp [mids, It.mids, ownPc, mapPc]; done) | (intro k hk; simp [mids, It.mids, ownPc, mapPc, mapAtPc] at hk ⊢; grind)) rfl rfl ?_
              refine SX.nil ?_
              refine SE.effZ rfl (Eff.storeOwn tabOk rfl rfl rfl rfl (by repeat first|assumption|exact m0|apply m1) (by repeat first|assumption|exact Upd.here|apply Upd.there) rfl (by rfl)) rfl rfl ?_
              rintro _ _ ⟨rfl, rfl⟩
              refine SE.seq ?_
              refine SC.seq ?_
              first
                | refine SC.freezeC [] 3 rfl (Upd.there Upd.here) rfl ?_
                | refine SC.freezeC [_] 3 rfl (Upd.there Upd.here) rfl ?_
              refine SC.region ?_
              refine SL.val (Val.move rfl) rfl rfl ?_
              refine SL.val (Val.nilCheck rfl) rfl rfl ?_
              refine SL.val (Val.fieldAddr tabOk rfl rfl rfl rfl rfl) rfl rfl ?_
              refine SL.val (Val.load1 tabOk rfl rfl (by first|(apply Or.inl;(repeat first|assumption|exact m0|apply m1);done)|(apply Or.inr;(repeat first|assumption|exact m0|apply m1);done)) List.not_mem_nil (by rfl)) rfl rfl ?_
              refine SL.val (Val.move rfl) rfl rfl ?_
              refine SL.val (Val.indexSl (q := z) tabOk Try.underlying37 rfl rfl rfl rfl (at_ins hz.1) rfl rfl) rfl rfl ?_
              refine SL.val (Val.to (C := ptr b83) (Val.load1R tabOk rfl rfl rfl) rfl) rfl rfl ?_
              refine SL.val (Val.assign rfl) rfl rfl ?_
              refine SL.nil (SE.seq ?_)
              refine SC.ret ?_
              have he : lgC n low (insR R seq ⟨b83, []⟩) = [int n, int low, .sl 1 ([] ++ ((R.map fun x => [int x.1]).take z) ++ [[int seq]] ++ ((R.map fun x => [int x.1]).drop z)), .sl 1 ([] ++ ((R.map fun x => [ptr x.2.q]).take z) ++ [[ptr b83]] ++ ((R.map fun x => [ptr x.2.q]).drop z))] := lg_ins hr hz.2.1 hge
              refine SE.fin (rs := [.tmp 4]) rfl (RV.tmp rfl RV.nil) (b83) (by rw [he]; exact List.Sublist.refl _) (by simp [It.rids]) ?_
              exact rfl
            · skip
              refine SX.eff rfl (Eff.buildSl tabOk Try.underlying37 rfl rfl rfl rfl rfl rfl rfl) (by simp) rfl rfl ?_
              rintro _ _ ⟨rfl, rfl⟩
              refine SX.effN [.blk b83 61 (rsZ n), own 44 1 r70 ([])] [] rfl (Eff.append tabOk [_] Try.underlying37 rfl rfl rfl rfl rfl rfl (by intro c hc; first | (have hc := List.mem_of_mem_take hc; obtain ⟨x, _, rfl⟩ := List.mem_map.1 hc; rfl) | (have hc := List.mem_of_mem_drop hc; obtain ⟨x, _, rfl⟩ := List.mem_map.1 hc; rfl) | (rw [List.mem_singleton] at hc; subst hc; rfl)) (by unfold maxLen; simp only [List.length_append, List.length_take, List.length_drop, List.length_map, List.length_cons, List.length_nil]; omega) (by rw [show Try.prog.bytesOf 44 = 8 by kernel_rfl]; simp only [List.length_append, List.length_take, List.length_drop, List.length_map, List.length_cons, List.length_nil]; omega)) rfl (by first | exact own_mid List.mem_cons_self | exact own_mid (List.mem_cons_of_mem _ List.mem_cons_self) | (simp; done)) rfl rfl ?_
              rintro _ _ ⟨r77, rfl, rfl⟩
              refine ⟨[.blk b83 61 (rsZ n), own 44 1 r77 ([] ++ ((R.map fun x => [ptr x.2.q]).take z))], rfl, ?_⟩
              refine SX.effN [.blk b83 61 (rsZ n), own 44 1 r77 ([] ++ ((R.map fun x => [ptr x.2.q]).take z))] [] rfl (Eff.append tabOk [_] Try.underlying37 rfl rfl rfl rfl rfl rfl (by intro c hc; first | (have hc := List.mem_of_mem_take hc; obtain ⟨x, _, rfl⟩ := List.mem_map.1 hc; rfl) | (have hc := List.mem_of_mem_drop hc; obtain ⟨x, _, rfl⟩ := List.mem_map.1 hc; rfl) | (rw [List.mem_singleton] at hc; subst hc; rfl)) (by unfold maxLen; simp only [List.length_append, List.length_take, List.length_drop, List.length_map, List.length_cons, List.length_nil]; omega) (by rw [show Try.prog.bytesOf 44 = 8 by kernel_rfl]; simp only [List.length_append, List.length_take, List.length_drop, List.length_map, List.length_cons, List.length_nil]; omega)) rfl (by first | exact own_mid List.mem_cons_self | exact own_mid (List.mem_cons_of_mem _ List.mem_cons_self) | (simp; done)) rfl rfl ?_
              rintro _ _ ⟨r85, rfl, rfl⟩
              refine ⟨[.blk b83 61 (rsZ n), own 44 1 r85 ([] ++ ((R.map fun x => [ptr x.2.q]).take z) ++ [[ptr b83]])], rfl, ?_⟩
              refine SX.effN [.blk b83 61 (rsZ n), own 44 1 r85 ([] ++ ((R.map fun x => [ptr x.2.q]).take z) ++ [[ptr b83]])] [] rfl (Eff.append tabOk [_] Try.underlying37 rfl rfl rfl rfl rfl rfl (by intro c hc; first | (have hc := List.mem_of_mem_take hc; obtain ⟨x, _, rfl⟩ := List.mem_map.1 hc; rfl) | (have hc := List.mem_of_mem_drop hc; obtain ⟨x, _, rfl⟩ := List.mem_map.1 hc; rfl) | (rw [List.mem_singleton] at hc; subst hc; rfl)) (by unfold maxLen; simp only [List.length_append, List.length_take, List.length_drop, List.length_map, List.length_cons, List.length_nil]; omega) (by rw [show Try.prog.bytesOf 44 = 8 by kernel_rfl]; simp only [List.length_append, List.length_take, List.length_drop, List.length_map, List.length_cons, List.length_nil]; omega)) rfl (by first | exact own_mid List.mem_cons_self | exact own_mid (List.mem_cons_of_mem _ List.mem_cons_self) | (simp; done)) rfl rfl ?_
              rintro _ _ ⟨r92, rfl, rfl⟩
              refine ⟨[.blk b83 61 (rsZ n), own 44 1 r92 ([] ++ ((R.map fun x => [ptr x.2.q]).take z) ++ [[ptr b83]] ++ ((R.map fun x => [ptr x.2.q]).drop z))], rfl, ?_⟩
              refine SX.val rfl (Val.nilCheck rfl) (by first | exact mids_head | (simp [mids, It.mids, ownPc, mapPc]; done) | (intro k hk; simp [mids, It.mids, ownPc, mapPc, mapAtPc] at hk ⊢; grind)) rfl rfl ?_
              refine SX.val rfl (Val.fieldAddr tabOk rfl rfl rfl rfl rfl) (by first | exact mids_head | (simp [mids, It.mids, ownPc, mapPc]; done) | (intro k hk; simp [mids, It.mids, ownPc, mapPc, mapAtPc] at hk ⊢; grind)) rfl rfl ?_
              refine SX.nil ?_
              refine SE.effZ rfl (Eff.storeOwn tabOk rfl rfl rfl rfl (by repeat first|assumption|exact m0|apply m1) (by repeat first|assumption|exact Upd.here|apply Upd.there) rfl (by rfl)) rfl rfl ?_
              rintro _ _ ⟨rfl, rfl⟩
              refine SE.seq ?_
              refine SC.seq ?_
              first
                | refine SC.freezeC [] 3 rfl (Upd.there Upd.here) rfl ?_
                | refine SC.freezeC [_] 3 rfl (Upd.there Upd.here) rfl ?_
              refine SC.region ?_
              refine SL.val (Val.move rfl) rfl rfl ?_
              refine SL.val (Val.nilCheck rfl) rfl rfl ?_
              refine SL.val (Val.fieldAddr tabOk rfl rfl rfl rfl rfl) rfl rfl ?_
              refine SL.val (Val.load1 tabOk rfl rfl (by first|(apply Or.inl;(repeat first|assumption|exact m0|apply m1);done)|(apply Or.inr;(repeat first|assumption|exact m0|apply m1);done)) List.not_mem_nil (by rfl)) rfl rfl ?_
              refine SL.val (Val.move rfl) rfl rfl ?_
              refine SL.val (Val.indexSl (q := z) tabOk Try.underlying37 rfl rfl rfl rfl (at_ins hz.1) rfl rfl) rfl rfl ?_
              refine SL.val (Val.to (C := ptr b83) (Val.load1R tabOk rfl rfl rfl) rfl) rfl rfl ?_
              refine SL.val (Val.assign rfl) rfl rfl ?_
              refine SL.nil (SE.seq ?_)
              refine SC.ret ?_
              have he : lgC n low (insR R seq ⟨b83, []⟩) = [int n, int low, .sl 1 ([] ++ ((R.map fun x => [int x.1]).take z) ++ [[int seq]] ++ ((R.map fun x => [int x.1]).drop z)), .sl 1 ([] ++ ((R.map fun x => [ptr x.2.q]).take z) ++ [[ptr b83]] ++ ((R.map fun x => [ptr x.2.q]).drop z))] := lg_ins hr hz.2.1 hge
              refine SE.fin (rs := [.tmp 4]) rfl (RV.tmp rfl RV.nil) (b83) (by rw [he]; exact List.Sublist.refl _) (by simp [It.rids]) ?_
              exact rfl
        · skip
          refine SX.effN [] [] rfl (Eff.boxA (cs := rsZ n) rfl) rfl (by first | exact own_mid List.mem_cons_self | exact own_mid (List.mem_cons_of_mem _ List.mem_cons_self) | (simp; done)) rfl rfl ?_
          rintro _ _ ⟨b83, rfl, rfl⟩
          refine ⟨[.blk b83 61 (rsZ n)], rfl, ?_⟩
          refine SX.two ?_ ?_
          · skip
            refine SX.effN [.blk b83 61 (rsZ n)] [] rfl (Eff.buildOwn tabOk Try.underlying37 rfl rfl rfl rfl rfl rfl rfl) rfl (by first | exact own_mid List.mem_cons_self | exact own_mid (List.mem_cons_of_mem _ List.mem_cons_self) | (simp; done)) rfl rfl ?_
            rintro _ _ ⟨r70, rfl, rfl⟩
            refine ⟨[own 44 1 r70 ([]), .blk b83 61 (rsZ n)], rfl, ?_⟩
            refine SX.two ?_ ?_
            · skip
              refine SX.effN [own 44 1 r70 ([]), .blk b83 61 (rsZ n)] [] rfl (Eff.append tabOk [] Try.underlying37 rfl rfl rfl rfl rfl rfl (by intro c hc; first | (have hc := List.mem_of_mem_take hc; obtain ⟨x, _, rfl⟩ := List.mem_map.1 hc; rfl) | (have hc := List.mem_of_mem_drop hc; obtain ⟨x, _, rfl⟩ := List.mem_map.1 hc; rfl) | (rw [List.mem_singleton] at hc; subst hc; rfl)) (by unfold maxLen; simp only [List.length_append, List.length_take, List.length_drop, List.length_map, List.length_cons, List.length_nil]; omega) (by rw [show Try.prog.bytesOf 44 = 8 by kernel_rfl]; simp only [List.length_append, List.length_take, List.length_drop, List.length_map, List.length_cons, List.length_nil]; omega)) rfl (by first | exact own_mid List.mem_cons_self | exact own_mid (List.mem_cons_of_mem _ List.mem_cons_self) | (simp; done)) rfl rfl ?_
              rintro _ _ ⟨r77, rfl, rfl⟩
              refine ⟨[own 44 1 r77 ([] ++ ((R.map fun x => [ptr x.2.q]).take z)), .blk b83 61 (rsZ n)], rfl, ?_⟩
              refine SX.eff rfl (Eff.buildSl tabOk Try.underlying37 rfl rfl rfl rfl rfl rfl rfl) (by simp) rfl rfl ?_
              rintro _ _ ⟨rfl, rfl⟩
              refine SX.effN [own 44 1 r77 ([] ++ ((R.map fun x => [ptr x.2.q]).take z)), .blk b83 61 (rsZ n)] [] rfl (Eff.append tabOk [] Try.underlying37 rfl rfl rfl rfl rfl rfl (by intro c hc; first | (have hc := List.mem_of_mem_take hc; obtain ⟨x, _, rfl⟩ := List.mem_map.1 hc; rfl) | (have hc := List.mem_of_mem_drop hc; obtain ⟨x, _, rfl⟩ := List.mem_map.1 hc; rfl) | (rw [List.mem_singleton] at hc; subst hc; rfl)) (by unfold maxLen; simp only [List.length_append, List.length_take, List.length_drop, List.length_map, List.length_cons, List.length_nil]; omega) (by rw [show Try.prog.bytesOf 44 = 8 by kernel_rfl]; simp only [List.length_append, List.length_take, List.length_drop, List.length_map, List.length_cons, List.length_nil]; omega)) rfl (by first | exact own_mid List.mem_cons_self | exact own_mid (List.mem_cons_of_mem _ List.mem_cons_self) | (simp; done)) rfl rfl ?_
              rintro _ _ ⟨r85, rfl, rfl⟩
              refine ⟨[own 44 1 r85 ([] ++ ((R.map fun x => [ptr x.2.q]).take z) ++ [[ptr b83]]), .blk b83 61 (rsZ n)], rfl, ?_⟩
              refine SX.effN [own 44 1 r85 ([] ++ ((R.map fun x => [ptr x.2.q]).take z) ++ [[ptr b83]]), .blk b83 61 (rsZ n)] [] rfl (Eff.append tabOk [] Try.underlying37 rfl rfl rfl rfl rfl rfl (by intro c hc; first | (have hc := List.mem_of_mem_take hc; obtain ⟨x, _, rfl⟩ := List.mem_map.1 hc; rfl) | (have hc := List.mem_of_mem_drop hc; obtain ⟨x, _, rfl⟩ := List.mem_map.1 hc; rfl) | (rw [List.mem_singleton] at hc; subst hc; rfl)) (by unfold maxLen; simp only [List.length_append, List.length_take, List.length_drop, List.length_map, List.length_cons, List.length_nil]; omega) (by rw [show Try.prog.bytesOf 44 = 8 by kernel_rfl]; simp only [List.length_append, List.length_take, List.length_drop, List.length_map, List.length_cons, List.length_nil]; omega)) rfl (by first | exact own_mid List.mem_cons_self | exact own_mid (List.mem_cons_of_mem _ List.mem_cons_self) | (simp; done)) rfl rfl ?_
              rintro _ _ ⟨r92, rfl, rfl⟩
              refine ⟨[own 44 1 r92 ([] ++ ((R.map fun x => [ptr x.2.q]).take z) ++ [[ptr b83]] ++ ((R.map fun x => [ptr x.2.q]).drop z)), .blk b83 61 (rsZ n)], rfl, ?_⟩
              refine SX.val rfl (Val.nilCheck rfl) (by first | exact mids_head | (simp [mids, It.mids, ownPc, mapPc]; done) | (intro k hk; simp [mids, It.mids, ownPc, mapPc, mapAtPc] at hk ⊢; grind)) rfl rfl ?_
              refine SX.val rfl (Val.fieldAddr tabOk rfl rfl rfl rfl rfl) (by first | exact mids_head | (simp [mids, It.mids, ownPc, mapPc]; done) | (intro k hk; simp [mids, It.mids, ownPc, mapPc, mapAtPc] at hk ⊢; grind)) rfl rfl ?_
              refine SX.nil ?_
              refine SE.effZ rfl (Eff.storeOwn tabOk rfl rfl rfl rfl (by repeat first|assumption|exact m0|apply m1) (by repeat first|assumption|exact Upd.here|apply Upd.there) rfl (by rfl)) rfl rfl ?_
              rintro _ _ ⟨rfl, rfl⟩
              refine SE.seq ?_
              refine SC.seq ?_
              first
                | refine SC.freezeC [] 3 rfl (Upd.there Upd.here) rfl ?_
                | refine SC.freezeC [_] 3 rfl (Upd.there Upd.here) rfl ?_
              refine SC.region ?_
              refine SL.val (Val.move rfl) rfl rfl ?_
              refine SL.val (Val.nilCheck rfl) rfl rfl ?_
              refine SL.val (Val.fieldAddr tabOk rfl rfl rfl rfl rfl) rfl rfl ?_
              refine SL.val (Val.load1 tabOk rfl rfl (by first|(apply Or.inl;(repeat first|assumption|exact m0|apply m1);done)|(apply Or.inr;(repeat first|assumption|exact m0|apply m1);done)) List.not_mem_nil (by rfl)) rfl rfl ?_
              refine SL.val (Val.move rfl) rfl rfl ?_
              refine SL.val (Val.indexSl (q := z) tabOk Try.underlying37 rfl rfl rfl rfl (at_ins hz.1) rfl rfl) rfl rfl ?_
              refine SL.val (Val.to (C := ptr b83) (Val.load1R tabOk rfl rfl rfl) rfl) rfl rfl ?_
              refine SL.val (Val.assign rfl) rfl rfl ?_
              refine SL.nil (SE.seq ?_)
              refine SC.ret ?_
              have he : lgC n low (insR R seq ⟨b83, []⟩) = [int n, int low, .sl 1 ([] ++ ((R.map fun x => [int x.1]).take z) ++ [[int seq]] ++ ((R.map fun x => [int x.1]).drop z)), .sl 1 ([] ++ ((R.map fun x => [ptr x.2.q]).take z) ++ [[ptr b83]] ++ ((R.map fun x => [ptr x.2.q]).drop z))] := lg_ins hr hz.2.1 hge
              refine SE.fin (rs := [.tmp 4]) rfl (RV.tmp rfl RV.nil) (b83) (by rw [he]; exact List.Sublist.refl _) (by simp [It.rids]) ?_
              exact rfl
            · skip
              refine SX.eff rfl (Eff.buildSl tabOk Try.underlying37 rfl rfl rfl rfl rfl rfl rfl) (by simp) rfl rfl ?_
              rintro _ _ ⟨rfl, rfl⟩
              refine SX.effN [own 44 1 r70 ([]), .blk b83 61 (rsZ n)] [] rfl (Eff.append tabOk [] Try.underlying37 rfl rfl rfl rfl rfl rfl (by intro c hc; first | (have hc := List.mem_of_mem_take hc; obtain ⟨x, _, rfl⟩ := List.mem_map.1 hc; rfl) | (have hc := List.mem_of_mem_drop hc; obtain ⟨x, _, rfl⟩ := List.mem_map.1 hc; rfl) | (rw [List.mem_singleton] at hc; subst hc; rfl)) (by unfold maxLen; simp only [List.length_append, List.length_take, List.length_drop, List.length_map, List.length_cons, List.length_nil]; omega) (by rw [show Try.prog.bytesOf 44 = 8 by kernel_rfl]; simp only [List.length_append, List.length_take, List.length_drop, List.length_map, List.length_cons, List.length_nil]; omega)) rfl (by first | exact own_mid List.mem_cons_self | exact own_mid (List.mem_cons_of_mem _ List.mem_cons_self) | (simp; done)) rfl rfl ?_
              rintro _ _ ⟨r77, rfl, rfl⟩
              refine ⟨[own 44 1 r77 ([] ++ ((R.map fun x => [ptr x.2.q]).take z)), .blk b83 61 (rsZ n)], rfl, ?_⟩
              refine SX.effN [own 44 1 r77 ([] ++ ((R.map fun x => [ptr x.2.q]).take z)), .blk b83 61 (rsZ n)] [] rfl (Eff.append tabOk [] Try.underlying37 rfl rfl rfl rfl rfl rfl (by intro c hc; first | (have hc := List.mem_of_mem_take hc; obtain ⟨x, _, rfl⟩ := List.mem_map.1 hc; rfl) | (have hc := List.mem_of_mem_drop hc; obtain ⟨x, _, rfl⟩ := List.mem_map.1 hc; rfl) | (rw [List.mem_singleton] at hc; subst hc; rfl)) (by unfold maxLen; simp only [List.length_append, List.length_take, List.length_drop, List.length_map, List.length_cons, List.length_nil]; omega) (by rw [show Try.prog.bytesOf 44 = 8 by kernel_rfl]; simp only [List.length_append, List.length_take, List.length_drop, List.length_map, List.length_cons, List.length_nil]; omega)) rfl (by first | exact own_mid List.mem_cons_self | exact own_mid (List.mem_cons_of_mem _ List.mem_cons_self) | (simp; done)) rfl rfl ?_
              rintro _ _ ⟨r85, rfl, rfl⟩
              refine ⟨[own 44 1 r85 ([] ++ ((R.map fun x => [ptr x.2.q]).take z) ++ [[ptr b83]]), .blk b83 61 (rsZ n)], rfl, ?_⟩
              refine SX.effN [own 44 1 r85 ([] ++ ((R.map fun x => [ptr x.2.q]).take z) ++ [[ptr b83]]), .blk b83 61 (rsZ n)] [] rfl (Eff.append tabOk [] Try.underlying37 rfl rfl rfl rfl rfl rfl (by intro c hc; first | (have hc := List.mem_of_mem_take hc; obtain ⟨x, _, rfl⟩ := List.mem_map.1 hc; rfl) | (have hc := List.mem_of_mem_drop hc; obtain ⟨x, _, rfl⟩ := List.mem_map.1 hc; rfl) | (rw [List.mem_singleton] at hc; subst hc; rfl)) (by unfold maxLen; simp only [List.length_append, List.length_take, List.length_drop, List.length_map, List.length_cons, List.length_nil]; omega) (by rw [show Try.prog.bytesOf 44 = 8 by kernel_rfl]; simp only [List.length_append, List.length_take, List.length_drop, List.length_map, List.length_cons, List.length_nil]; omega)) rfl (by first | exact own_mid List.mem_cons_self | exact own_mid (List.mem_cons_of_mem _ List.mem_cons_self) | (simp; done)) rfl rfl ?_
              rintro _ _ ⟨r92, rfl, rfl⟩
              refine ⟨[own 44 1 r92 ([] ++ ((R.map fun x => [ptr x.2.q]).take z) ++ [[ptr b83]] ++ ((R.map fun x => [ptr x.2.q]).drop z)), .blk b83 61 (rsZ n)], rfl, ?_⟩
              refine SX.val rfl (Val.nilCheck rfl) (by first | exact mids_head | (simp [mids, It.mids, ownPc, mapPc]; done) | (intro k hk; simp [mids, It.mids, ownPc, mapPc, mapAtPc] at hk ⊢; grind)) rfl rfl ?_
              refine SX.val rfl (Val.fieldAddr tabOk rfl rfl rfl rfl rfl) (by first | exact mids_head | (simp [mids, It.mids, ownPc, mapPc]; done) | (intro k hk; simp [mids, It.mids, ownPc, mapPc, mapAtPc] at hk ⊢; grind)) rfl rfl ?_
              refine SX.nil ?_
              refine SE.effZ rfl (Eff.storeOwn tabOk rfl rfl rfl rfl (by repeat first|assumption|exact m0|apply m1) (by repeat first|assumption|exact Upd.here|apply Upd.there) rfl (by rfl)) rfl rfl ?_
              rintro _ _ ⟨rfl, rfl⟩
              refine SE.seq ?_
              refine SC.seq ?_
              first
                | refine SC.freezeC [] 3 rfl (Upd.there Upd.here) rfl ?_
                | refine SC.freezeC [_] 3 rfl (Upd.there Upd.here) rfl ?_
              refine SC.region ?_
              refine SL.val (Val.move rfl) rfl rfl ?_
              refine SL.val (Val.nilCheck rfl) rfl rfl ?_
              refine SL.val (Val.fieldAddr tabOk rfl rfl rfl rfl rfl) rfl rfl ?_
              refine SL.val (Val.load1 tabOk rfl rfl (by first|(apply Or.inl;(repeat first|assumption|exact m0|apply m1);done)|(apply Or.inr;(repeat first|assumption|exact m0|apply m1);done)) List.not_mem_nil (by rfl)) rfl rfl ?_
              refine SL.val (Val.move rfl) rfl rfl ?_
              refine SL.val (Val.indexSl (q := z) tabOk Try.underlying37 rfl rfl rfl rfl (at_ins hz.1) rfl rfl) rfl rfl ?_
              refine SL.val (Val.to (C := ptr b83) (Val.load1R tabOk rfl rfl rfl) rfl) rfl rfl ?_
              refine SL.val (Val.assign rfl) rfl rfl ?_
              refine SL.nil (SE.seq ?_)
              refine SC.ret ?_
              have he : lgC n low (insR R seq ⟨b83, []⟩) = [int n, int low, .sl 1 ([] ++ ((R.map fun x => [int x.1]).take z) ++ [[int seq]] ++ ((R.map fun x => [int x.1]).drop z)), .sl 1 ([] ++ ((R.map fun x => [ptr x.2.q]).take z) ++ [[ptr b83]] ++ ((R.map fun x => [ptr x.2.q]).drop z))] := lg_ins hr hz.2.1 hge
              refine SE.fin (rs := [.tmp 4]) rfl (RV.tmp rfl RV.nil) (b83) (by rw [he]; exact List.Sublist.refl _) (by simp [It.rids]) ?_
              exact rfl
          · skip
            refine SX.eff rfl (Eff.buildSl tabOk Try.underlying37 rfl rfl rfl rfl rfl rfl rfl) (by simp) rfl rfl ?_
            rintro _ _ ⟨rfl, rfl⟩
            refine SX.effN [.blk b83 61 (rsZ n)] [] rfl (Eff.buildOwn tabOk Try.underlying37 rfl rfl rfl rfl rfl rfl rfl) rfl (by first | exact own_mid List.mem_cons_self | exact own_mid (List.mem_cons_of_mem _ List.mem_cons_self) | (simp; done)) rfl rfl ?_
            rintro _ _ ⟨r70, rfl, rfl⟩
            refine ⟨[own 44 1 r70 ([]), .blk b83 61 (rsZ n)], rfl, ?_⟩
            refine SX.effN [own 44 1 r70 ([]), .blk b83 61 (rsZ n)] [] rfl (Eff.append tabOk [] Try.underlying37 rfl rfl rfl rfl rfl rfl (by intro c hc; first | (have hc := List.mem_of_mem_take hc; obtain ⟨x, _, rfl⟩ := List.mem_map.1 hc; rfl) | (have hc := List.mem_of_mem_drop hc; obtain ⟨x, _, rfl⟩ := List.mem_map.1 hc; rfl) | (rw [List.mem_singleton] at hc; subst hc; rfl)) (by unfold maxLen; simp only [List.length_append, List.length_take, List.length_drop, List.length_map, List.length_cons, List.length_nil]; omega) (by rw [show Try.prog.bytesOf 44 = 8 by kernel_rfl]; simp only [List.length_append, List.length_take, List.length_drop, List.length_map, List.length_cons, List.length_nil]; omega)) rfl (by first | exact own_mid List.mem_cons_self | exact own_mid (List.mem_cons_of_mem _ List.mem_cons_self) | (simp; done)) rfl rfl ?_
            rintro _ _ ⟨r77, rfl, rfl⟩
            refine ⟨[own 44 1 r77 ([] ++ ((R.map fun x => [ptr x.2.q]).take z)), .blk b83 61 (rsZ n)], rfl, ?_⟩
            refine SX.effN [own 44 1 r77 ([] ++ ((R.map fun x => [ptr x.2.q]).take z)), .blk b83 61 (rsZ n)] [] rfl (Eff.append tabOk [] Try.underlying37 rfl rfl rfl rfl rfl rfl (by intro c hc; first | (have hc := List.mem_of_mem_take hc; obtain ⟨x, _, rfl⟩ := List.mem_map.1 hc; rfl) | (have hc := List.mem_of_mem_drop hc; obtain ⟨x, _, rfl⟩ := List.mem_map.1 hc; rfl) | (rw [List.mem_singleton] at hc; subst hc; rfl)) (by unfold maxLen; simp only [List.length_append, List.length_take, List.length_drop, List.length_map, List.length_cons, List.length_nil]; omega) (by rw [show Try.prog.bytesOf 44 = 8 by kernel_rfl]; simp only [List.length_append, List.length_take, List.length_drop, List.length_map, List.length_cons, List.length_nil]; omega)) rfl (by first | exact own_mid List.mem_cons_self | exact own_mid (List.mem_cons_of_mem _ List.mem_cons_self) | (simp; done)) rfl rfl ?_
            rintro _ _ ⟨r85, rfl, rfl⟩
            refine ⟨[own 44 1 r85 ([] ++ ((R.map fun x => [ptr x.2.q]).take z) ++ [[ptr b83]]), .blk b83 61 (rsZ n)], rfl, ?_⟩
            refine SX.effN [own 44 1 r85 ([] ++ ((R.map fun x => [ptr x.2.q]).take z) ++ [[ptr b83]]), .blk b83 61 (rsZ n)] [] rfl (Eff.append tabOk [] Try.underlying37 rfl rfl rfl rfl rfl rfl (by intro c hc; first | (have hc := List.mem_of_mem_take hc; obtain ⟨x, _, rfl⟩ := List.mem_map.1 hc; rfl) | (have hc := List.mem_of_mem_drop hc; obtain ⟨x, _, rfl⟩ := List.mem_map.1 hc; rfl) | (rw [List.mem_singleton] at hc; subst hc; rfl)) (by unfold maxLen; simp only [List.length_append, List.length_take, List.length_drop, List.length_map, List.length_cons, List.length_nil]; omega) (by rw [show Try.prog.bytesOf 44 = 8 by kernel_rfl]; simp only [List.length_append, List.length_take, List.length_drop, List.length_map, List.length_cons, List.length_nil]; omega)) rfl (by first | exact own_mid List.mem_cons_self | exact own_mid (List.mem_cons_of_mem _ List.mem_cons_self) | (simp; done)) rfl rfl ?_
            rintro _ _ ⟨r92, rfl, rfl⟩
            refine ⟨[own 44 1 r92 ([] ++ ((R.map fun x => [ptr x.2.q]).take z) ++ [[ptr b83]] ++ ((R.map fun x => [ptr x.2.q]).drop z)), .blk b83 61 (rsZ n)], rfl, ?_⟩
            refine SX.val rfl (Val.nilCheck rfl) (by first | exact mids_head | (simp [mids, It.mids, ownPc, mapPc]; done) | (intro k hk; simp [mids, It.mids, ownPc, mapPc, mapAtPc] at hk ⊢; grind)) rfl rfl ?_
            refine SX.val rfl (Val.fieldAddr tabOk rfl rfl rfl rfl rfl) (by first | exact mids_head | (simp [mids, It.mids, ownPc, mapPc]; done) | (intro k hk; simp [mids, It.mids, ownPc, mapPc, mapAtPc] at hk ⊢; grind)) rfl rfl ?_
            refine SX.nil ?_
            refine SE.effZ rfl (Eff.storeOwn tabOk rfl rfl rfl rfl (by repeat first|assumption|exact m0|apply m1) (by repeat first|assumption|exact Upd.here|apply Upd.there) rfl (by rfl)) rfl rfl ?_
            rintro _ _ ⟨rfl, rfl⟩
            refine SE.seq ?_
            refine SC.seq ?_
            first
              | refine SC.freezeC [] 3 rfl (Upd.there Upd.here) rfl ?_
              | refine SC.freezeC [_] 3 rfl (Upd.there Upd.here) rfl ?_
            refine SC.region ?_
            refine SL.val (Val.move rfl) rfl rfl ?_
            refine SL.val (Val.nilCheck rfl) rfl rfl ?_
            refine SL.val (Val.fieldAddr tabOk rfl rfl rfl rfl rfl) rfl rfl ?_
            refine SL.val (Val.load1 tabOk rfl rfl (by first|(apply Or.inl;(repeat first|assumption|exact m0|apply m1);done)|(apply Or.inr;(repeat first|assumption|exact m0|apply m1);done)) List.not_mem_nil (by rfl)) rfl rfl ?_
            refine SL.val (Val.move rfl) rfl rfl ?_
            refine SL.val (Val.indexSl (q := z) tabOk Try.underlying37 rfl rfl rfl rfl (at_ins hz.1) rfl rfl) rfl rfl ?_
            refine SL.val (Val.to (C := ptr b83) (Val.load1R tabOk rfl rfl rfl) rfl) rfl rfl ?_
            refine SL.val (Val.assign rfl) rfl rfl ?_
            refine SL.nil (SE.seq ?_)
            refine SC.ret ?_
            have he : lgC n low (insR R seq ⟨b83, []⟩) = [int n, int low, .sl 1 ([] ++ ((R.map fun x => [int x.1]).take z) ++ [[int seq]] ++ ((R.map fun x => [int x.1]).drop z)), .sl 1 ([] ++ ((R.map fun x => [ptr x.2.q]).take z) ++ [[ptr b83]] ++ ((R.map fun x => [ptr x.2.q]).drop z))] := lg_ins hr hz.2.1 hge
            refine SE.fin (rs := [.tmp 4]) rfl (RV.tmp rfl RV.nil) (b83) (by rw [he]; exact List.Sublist.refl _) (by simp [It.rids]) ?_
            exact rfl
end
section
variable {xs ys : List Int}
set_option maxHeartbeats 2000000 in
theorem sameSeqs_s (hn : xs.length < 1000000) : Spec Try.prog 19 [ints xs, ints ys] [] (fun _ : Unit => []) (fun _ => boo (decide (xs = ys))) := by
  refine spec_of Try.func19 rfl Try.ntmps19 rfl fun G w => ?_
  refine SC.seq (SC.region ?_)
  refine SL.val (Val.assign rfl) rfl rfl ?_
  refine SL.nil (SE.seq ?_)
  refine SC.seq ?_
  refine SC.seq (SC.region ?_)
  refine SL.val (Val.move rfl) rfl rfl ?_
  first
    | refine SL.val (Val.lenSl rfl Try.underlying34 (List.length_map _)) rfl rfl ?_
    | refine SL.val (Val.lenOwn rfl (by repeat first|assumption|exact m0|apply m1) Try.underlying34 (List.length_map _)) rfl rfl ?_
    | refine SL.val (Val.lenNil rfl Try.underlying34) rfl rfl ?_
  refine SL.val (Val.move rfl) rfl rfl ?_
  first
    | refine SL.val (Val.lenSl rfl Try.underlying34 (List.length_map _)) rfl rfl ?_
    | refine SL.val (Val.lenOwn rfl (by repeat first|assumption|exact m0|apply m1) Try.underlying34 (List.length_map _)) rfl rfl ?_
    | refine SL.val (Val.lenNil rfl Try.underlying34) rfl rfl ?_
  refine SL.val (Val.neI rfl rfl) rfl rfl ?_
  refine SL.nil (SE.seq ?_)
  refine SC.condP rfl ?_ ?_
  · intro hc10
    refine SC.seq (SC.region ?_)
    refine SL.val (Val.assign rfl) rfl rfl ?_
    refine SL.nil (SE.seq ?_)
    refine SC.ret ?_
    refine SE.then_ (by intro h; cases h) ?_
    refine SE.fin (rs := [.tmp 4]) rfl (RV.tmp rfl RV.nil) (()) (by repeat first|exact s0 _|exact s1 _|apply s2|apply s3) (by simp [It.rids]) ?_
    refine boo_f fun h => ?_
    subst h
    exact hc10 rfl
  intro hc10
  have hle : xs.length = ys.length := by omega
  refine SC.skip ?_
  refine SE.seq ?_
  refine SC.seq ?_
  refine SC.seq (SC.region ?_)
  refine SL.val (Val.move rfl) rfl rfl ?_
  first
    | refine SL.val (Val.lenSl rfl Try.underlying34 (List.length_map _)) rfl rfl ?_
    | refine SL.val (Val.lenOwn rfl (by repeat first|assumption|exact m0|apply m1) Try.underlying34 (List.length_map _)) rfl rfl ?_
    | refine SL.val (Val.lenNil rfl Try.underlying34) rfl rfl ?_
  refine SL.val (Val.move rfl) rfl rfl ?_
  refine SL.nil (SE.seq ?_)
  refine SC.block ?_
  refine SC.loop (ι := Nat) (fun z => []) (fun z => [(0, ints xs), (1, ints ys), (12, int (xs.length : Nat)), (13, int (z : Nat))]) (fun z => z ≤ xs.length ∧ ∀ j (h : j < xs.length) (h2 : j < ys.length), j < z → xs[j] = ys[j]) (fun z => xs.length - z) (0) (⟨Nat.zero_le _, fun j h h2 hj => by omega⟩) (by exact ⟨rfl, rfl, rfl, rfl, trivial⟩) (by repeat first|exact s0 _|exact s1 _|apply s2|apply s3) ?_
  intro z hz
  refine SC.seq (SC.region ?_)
  refine SL.val (Val.ltI rfl rfl) rfl rfl ?_
  refine SL.nil (SE.seq ?_)
  refine SC.seq ?_
  refine SC.condP rfl ?_ ?_
  rotate_left
  · intro hc14
    refine SC.exit ?_
    refine SE.then_ (by intro h; cases h) ?_
    refine SE.then_ (by intro h; cases h) ?_
    refine SE.exit ?_
    refine SE.seq ?_
    refine SC.seq (SC.region ?_)
    refine SL.val (Val.assign rfl) rfl rfl ?_
    refine SL.nil (SE.seq ?_)
    refine SC.ret ?_
    refine SE.fin (rs := [.tmp 4]) rfl (RV.tmp rfl RV.nil) (()) (by repeat first|exact s0 _|exact s1 _|apply s2|apply s3) (by simp [It.rids]) ?_
    refine boo_t (List.ext_getElem hle fun j h h2 => hz.2 j h h2 (by omega))
  intro hc14
  have hlt : z < xs.length := by omega
  have hlt2 : z < ys.length := by omega
  refine SC.skip ?_
  refine SE.seq ?_
  refine SC.seq ?_
  refine SC.block ?_
  refine SC.seq (SC.region ?_)
  refine SL.val (Val.move rfl) rfl rfl ?_
  refine SL.val (Val.assign rfl) rfl rfl ?_
  refine SL.nil (SE.seq ?_)
  refine SC.seq ?_
  refine SC.draw [] (.q 0 (.q 1 (.q 2 (.q 3 (.q 4 (.q 5 (.q 6 (.q 7 (.q 8 .nil))))))))) (by kernel_rfl) (by kernel_rfl) ?_
  refine SX.val rfl (Val.move rfl) (by simp) rfl rfl ?_
  refine SX.val rfl (Val.move rfl) (by simp) rfl rfl ?_
  refine SX.val rfl (Val.indexSl (q := z) tabOk Try.underlying34 rfl rfl rfl rfl (at_map hlt) rfl rfl) (by first | exact mids_head | (simp [mids, It.mids, ownPc, mapPc]; done) | (intro k hk; simp [mids, It.mids, ownPc, mapPc, mapAtPc] at hk ⊢; grind)) rfl rfl ?_
  refine SX.val rfl (Val.to (C := int (xs[z]'hlt)) (Val.load1R tabOk rfl rfl rfl) rfl) (by first | exact mids_head | (simp [mids, It.mids, ownPc, mapPc]; done) | (intro k hk; simp [mids, It.mids, ownPc, mapPc, mapAtPc] at hk ⊢; grind)) rfl rfl ?_
  refine SX.val rfl (Val.move rfl) (by simp) rfl rfl ?_
  refine SX.val rfl (Val.move rfl) (by simp) rfl rfl ?_
  refine SX.val rfl (Val.indexSl (q := z) tabOk Try.underlying34 rfl rfl rfl rfl (at_map hlt2) rfl rfl) (by first | exact mids_head | (simp [mids, It.mids, ownPc, mapPc]; done) | (intro k hk; simp [mids, It.mids, ownPc, mapPc, mapAtPc] at hk ⊢; grind)) rfl rfl ?_
  refine SX.val rfl (Val.to (C := int (ys[z]'hlt2)) (Val.load1R tabOk rfl rfl rfl) rfl) (by first | exact mids_head | (simp [mids, It.mids, ownPc, mapPc]; done) | (intro k hk; simp [mids, It.mids, ownPc, mapPc, mapAtPc] at hk ⊢; grind)) rfl rfl ?_
  refine SX.val rfl (Val.neI rfl rfl) (by simp) rfl rfl ?_
  refine SX.nil (SE.seq ?_)
  refine SC.condP rfl ?_ ?_
  rotate_left
  · intro hc24
    refine SC.skip ?_
    refine SE.inBlock ?_
    refine SE.seq ?_
    refine SC.region ?_
    first
      | refine SL.val (Val.addI rfl rfl (by simp only [InR, lo, hi]; omega)) rfl rfl ?_
      | refine SL.val (Val.addW rfl rfl) rfl rfl ?_
    refine SL.val (Val.move rfl) rfl rfl ?_
    refine SL.nil ?_
    refine SE.round (z + 1) (by first | omega | (dsimp only; omega)) (⟨by omega, fun j h h2 hj => by
          rcases Nat.lt_or_ge j z with h1 | h1
          · exact hz.2 j h h2 h1
          · obtain rfl : j = z := by omega
            simpa using hc24⟩) (by exact ⟨rfl, rfl, rfl, rfl, trivial⟩) (by repeat first|exact s0 _|exact s1 _|apply s2|apply s3)
  intro hc24
  refine SC.seq (SC.region ?_)
  refine SL.val (Val.assign rfl) rfl rfl ?_
  refine SL.nil (SE.seq ?_)
  refine SC.ret ?_
  refine SE.ret ?_
  refine SE.then_ (by intro h; cases h) ?_
  refine SE.then_ (by intro h; cases h) ?_
  refine SE.ret ?_
  refine SE.then_ (by intro h; cases h) ?_
  refine SE.fin (rs := [.tmp 4]) rfl (RV.tmp rfl RV.nil) (()) (by repeat first|exact s0 _|exact s1 _|apply s2|apply s3) (by simp [It.rids]) ?_
  refine boo_f fun h => ?_
  subst h
  exact hc24 rfl
end
end Go.Proofs.Ytoifikgnbblbgaa.A
