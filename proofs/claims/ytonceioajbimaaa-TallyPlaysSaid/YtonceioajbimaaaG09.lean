/-
  Packed out of the texts: Y8, Y9, YRow, Y10, Y5.
-/
import Derived.Test.YtonceioajbimaaaG08
/-
  Rows of ints: found and struck, by a function.
-/
set_option maxRecDepth 100000
set_option linter.unusedSimpArgs false
set_option linter.unusedVariables false
namespace Go.Proofs.Ytonceioajbimaaa.A
open Go.RowKit Go.Maps Go.Sort Go.Shelf

theorem vt0_ok : vtOk vt0 := ⟨by unfold vt0; simp only [InR, lo, hi]; omega, by unfold vt0; simp only [InR, lo, hi]; omega⟩
def gOf (m : List (Int × Vt)) (w : Int) : Vt := (aget m w).getD vt0
theorem gOf_ok {m : List (Int × Vt)} (h : ∀ w v, aget m w = some v → vtOk v) (w : Int) : vtOk (gOf m w) := by
  unfold gOf
  cases hv : aget m w with
  | none => exact vt0_ok
  | some v => exact h _ _ hv
theorem gOf_is (m : List (Int × Vt)) (w : Int) : (Abs.agg (vtC (gOf m w))).is (((aget m w).map vtV).getD (vtV vt0)) := by
  unfold gOf
  cases aget m w with
  | none => exact is_agg (us := vtU vt0)
  | some v => exact is_agg (us := vtU v)
section
variable {v : Value} {xs : List Int} {p : Int → Bool} {k : Nat} {caps : List Abs} {σ : Blks}
theorem index_s (hb : goesIn Try.prog k = true) (hr : RdAll σ) (hn : xs.length < 1000000) (h : ∀ x ∈ xs, Spec Try.prog k (int x :: caps) σ (fun _ : Unit => []) (fun _ => boo (p x))) : Spec Try.prog 46 [.v v, .fn (.func k) [] caps] (.rdpc (ownPc 3 1 v (xs.map fun x => [int x])) :: σ) (fun _ : {q : Int // (q = -1 ∧ ∀ x ∈ xs, p x = false) ∨ ∃ z, ∃ h : z < xs.length, p xs[z] = true ∧ (∀ j (hj : j < xs.length), j < z → p xs[j] = false) ∧ q = (z : Nat)} => []) (fun z => int z.1) := by
  refine spec_of Try.func46 rfl Try.ntmps46 rfl fun G w => ?_
  refine SC.seq (SC.region ?_)
  refine SL.val (Val.assign rfl) rfl rfl ?_
  refine SL.nil (SE.seq ?_)
  refine SC.seq ?_
  refine SC.seq (SC.region ?_)
  refine SL.val (Val.move rfl) rfl rfl ?_
  refine SL.val (Val.lenOwnR rfl (.inr (by repeat first|assumption|exact m0|apply m1)) Try.underlying41 (List.length_map _)) rfl rfl ?_
  refine SL.val (Val.move rfl) rfl rfl ?_
  refine SL.nil (SE.seq ?_)
  refine SC.block ?_
  refine SC.loop (ι := Nat) (fun z => (.rdpc (ownPc 3 1 v (xs.map fun x => [int x])) :: σ)) (fun z => [(0, .v v), (1, .fn (.func k) [] caps), (7, int (xs.length : Nat)), (8, int (z : Nat))]) (fun z => z ≤ xs.length ∧ ∀ j (hj : j < xs.length), j < z → p xs[j] = false) (fun z => xs.length - z) (0) (⟨Nat.zero_le _, fun j hj h => by omega⟩) (by exact ⟨rfl, rfl, rfl, rfl, trivial⟩) (by repeat first|exact s0 _|exact s1 _|apply s2|apply s3) ?_
  intro z hz
  refine SC.seq (SC.region ?_)
  refine SL.val (Val.ltI rfl rfl) rfl rfl ?_
  refine SL.nil (SE.seq ?_)
  refine SC.seq ?_
  refine SC.condP rfl ?_ ?_
  rotate_left
  · intro hc9
    refine SC.exit ?_
    refine SE.then_ (by intro h; cases h) ?_
    refine SE.then_ (by intro h; cases h) ?_
    refine SE.exit ?_
    refine SE.seq ?_
    refine SC.seq (SC.region ?_)
    refine SL.val (Val.assign rfl) rfl rfl ?_
    refine SL.nil (SE.seq ?_)
    refine SC.ret ?_
    refine SE.fin (rs := [.tmp 4]) rfl (RV.tmp rfl RV.nil) (⟨-1, .inl ⟨rfl, fun x hx => by obtain ⟨j, hj, rfl⟩ := List.getElem_of_mem hx; exact hz.2 j hj (by omega)⟩⟩) (by repeat first|exact s0 _|exact s1 _|apply s2|apply s3) (by simp [It.rids]) ?_
    exact rfl
  intro hc9
  have hlt : z < xs.length := by omega
  refine SC.skip ?_
  refine SE.seq ?_
  refine SC.seq ?_
  refine SC.block ?_
  refine SC.seq (SC.region ?_)
  refine SL.val (Val.move rfl) rfl rfl ?_
  refine SL.val (Val.assign rfl) rfl rfl ?_
  refine SL.nil (SE.seq ?_)
  refine SC.seq (SC.region ?_)
  refine SL.val (Val.move rfl) rfl rfl ?_
  refine SL.val (Val.move rfl) rfl rfl ?_
  refine SL.val (Val.move rfl) rfl rfl ?_
  refine SL.val (Val.indexOwn (q := z) tabOk Try.underlying41 rfl rfl (.inr (by repeat first|assumption|exact m0|apply m1)) rfl rfl (by rw [List.length_map]; exact hlt) rfl rfl) rfl rfl ?_
  refine SL.val (Val.to (C := int (xs[z]'hlt)) (Val.loadOwn1 (q := z) (s := 1) tabOk rfl rfl (.inr (by repeat first|assumption|exact m0|apply m1)) rfl (at_map hlt) rfl) rfl) rfl rfl ?_
  refine SL.callv (h _ (List.getElem_mem hlt)) rfl Casts.refl hb rfl rfl rfl ?_
  refine After.pure (RdAll.reads hr (fun x hx => by repeat (first | exact hx | apply List.mem_cons_of_mem))) (fun _ => rfl) ?_
  intro _
  refine SL.nil (SE.seq ?_)
  refine SC.cond rfl ?_ ?_
  · intro hc16
    refine SC.seq (SC.region ?_)
    refine SL.val (Val.move rfl) rfl rfl ?_
    refine SL.val (Val.assign rfl) rfl rfl ?_
    refine SL.nil (SE.seq ?_)
    refine SC.ret ?_
    refine SE.ret ?_
    refine SE.then_ (by intro h; cases h) ?_
    refine SE.then_ (by intro h; cases h) ?_
    refine SE.ret ?_
    refine SE.then_ (by intro h; cases h) ?_
    refine SE.fin (rs := [.tmp 4]) rfl (RV.tmp rfl RV.nil) (⟨(z : Nat), .inr ⟨z, hlt, by simpa using hc16, hz.2, rfl⟩⟩) (by repeat first|exact s0 _|exact s1 _|apply s2|apply s3) (by simp [It.rids]) ?_
    exact rfl
  intro hc16
  refine SC.skip ?_
  refine SE.inBlock ?_
  refine SE.seq ?_
  refine SC.region ?_
  first
    | refine SL.val (Val.addI rfl rfl (by simp only [InR, lo, hi]; omega)) rfl rfl ?_
    | refine SL.val (Val.addW rfl rfl) rfl rfl ?_
  refine SL.val (Val.move rfl) rfl rfl ?_
  refine SL.nil ?_
  refine SE.round (z + 1) (by first | omega | (dsimp only; omega)) (⟨by omega, fun j hj hjz => by
    rcases Nat.lt_or_ge j z with h1 | h1
    · exact hz.2 j hj h1
    obtain rfl : j = z := (by omega)
    simpa using hc16⟩) (by exact ⟨rfl, rfl, rfl, rfl, trivial⟩) (by repeat first|exact s0 _|exact s1 _|apply s2|apply s3)
theorem take_set_succ {α : Type} {ys : List α} {i : Nat} {x : α} (h : i < ys.length) : (ys.set i x).take (i + 1) = ys.take i ++ [x] := by
  apply List.ext_getElem?
  intro j
  simp only [List.getElem?_take, List.getElem?_append, List.getElem?_set, List.length_take]
  grind
theorem drop_set_lt {α : Type} {ys : List α} {i j : Nat} {x : α} (h : i < j) : (ys.set i x).drop j = ys.drop j := by
  apply List.ext_getElem?
  intro q
  simp only [List.getElem?_drop, List.getElem?_set]
  grind
theorem filter_take_succ {xs : List Int} {p : Int → Bool} {j : Nat} (h : j < xs.length) : (xs.take (j + 1)).filter (fun x => !p x) = (xs.take j).filter (fun x => !p x) ++ if p xs[j] then [] else [xs[j]] := by
  rw [List.take_succ_eq_append_getElem h, List.filter_append, List.filter_cons]
  cases p xs[j] <;> simp
theorem at_drop {xs ys : List Int} {j : Nat} (h : ys.drop j = xs.drop j) (hx : j < xs.length) (hy : j < ys.length) : ys[j] = xs[j] := by
  have h1 := congrArg (fun l : List Int => l[0]?) h
  simpa [List.getElem?_drop, hx, hy] using h1
theorem drop_more {xs ys : List Int} {j : Nat} (h : ys.drop j = xs.drop j) : ys.drop (j + 1) = xs.drop (j + 1) := by
  rw [← List.drop_drop, h, List.drop_drop]
theorem first_del {xs : List Int} {p : Int → Bool} {q : Nat} (hq : q < xs.length) (hp : p xs[q] = true) (hb : ∀ j (hj : j < xs.length), j < q → p xs[j] = false) : xs.take q = (xs.take (q + 1)).filter (fun x => !p x) := by
  rw [filter_take_succ hq, if_pos hp, List.append_nil]
  symm
  rw [List.filter_eq_self]
  intro x hx
  obtain ⟨j, hj, rfl⟩ := List.getElem_of_mem hx
  rw [List.length_take] at hj
  rw [List.getElem_take, hb j (by omega) (by omega)]
  rfl
theorem cut_all {xs ys : List Int} {p : Int → Bool} {i j m : Nat} {z : List Abs} (h1 : ys.length = xs.length) (hi : i ≤ ys.length) (h2 : ys.take i = (xs.take j).filter (fun x => !p x)) (h3 : xs.length ≤ j) : ((ys.map fun x => [int x]).take i ++ List.replicate m z).take i = (xs.filter fun x => !p x).map fun x => [int x] := by
  rw [List.take_append_of_le_length (by simp; omega), List.take_take, Nat.min_self, ← List.map_take, h2, List.take_of_length_le h3]
set_option maxHeartbeats 2000000 in
theorem delete_s (hb : goesIn Try.prog k = true) (hr : RdAll σ) (hn : xs.length < 1000000) (h : ∀ x ∈ xs, Spec Try.prog k (int x :: caps) σ (fun _ : Unit => []) (fun _ => boo (p x))) : Spec Try.prog 36 [.v v, .fn (.func k) [] caps] (own 3 1 v (xs.map fun x => [int x]) :: σ) (fun u : Value => [own 3 1 u (((xs.filter fun x => !p x)).map fun x => [int x])]) (fun u => .v u) := by
  refine spec_of Try.func36 rfl Try.ntmps36 rfl fun G w => ?_
  refine SC.seq (SC.region ?_)
  refine SL.val (Val.assign rfl) rfl rfl ?_
  refine SL.nil (SE.seq ?_)
  refine SC.seq (SC.region ?_)
  refine SL.val (Val.move rfl) rfl rfl ?_
  refine SL.val (Val.move rfl) rfl rfl ?_
  refine SL.call (index_s (v := v) hb hr hn h) Casts.refl (by kernel_rfl) rfl rfl rfl ?_
  refine After.pure (.pc (by repeat first|assumption|exact m0|apply m1) (RdAll.reads hr (fun x hx => by repeat (first | exact hx | apply List.mem_cons_of_mem)))) (fun _ => rfl) ?_
  intro q0
  refine SL.val (Val.assign rfl) rfl rfl ?_
  refine SL.nil (SE.seq ?_)
  refine SC.seq ?_
  refine SC.seq (SC.region ?_)
  refine SL.val (Val.move rfl) rfl rfl ?_
  refine SL.val (Val.eqI rfl rfl) rfl rfl ?_
  refine SL.nil (SE.seq ?_)
  refine SC.condP rfl ?_ ?_
  · intro hc12
    have hall : ∀ x ∈ xs, p x = false := by
      rcases q0.2 with h1 | ⟨q, h1, h2, h3, h4⟩
      · exact h1.2
      · omega
    have hfil : xs.filter (fun x => !p x) = xs := List.filter_eq_self.2 fun x hx => by rw [hall x hx]; rfl
    refine SC.seq (SC.region ?_)
    refine SL.val (Val.move rfl) rfl rfl ?_
    refine SL.val (Val.assign rfl) rfl rfl ?_
    refine SL.nil (SE.seq ?_)
    refine SC.ret ?_
    refine SE.then_ (by intro h; cases h) ?_
    refine SE.fin (rs := [.tmp 4]) rfl (RV.tmp rfl RV.nil) (v) (by rw [hfil]; exact List.sublist_append_left _ _) (by simp [It.rids]) ?_
    exact rfl
  intro hc12
  obtain ⟨q0, hq0⟩ := q0
  have hf : ∃ q, ∃ h : q < xs.length, p xs[q] = true ∧ (∀ j (hj : j < xs.length), j < q → p xs[j] = false) ∧ q0 = (q : Nat) := by
    rcases hq0 with h1 | h1
    · exact absurd h1.1 hc12
    · exact h1
  obtain ⟨q, hq, hp, hbe, rfl⟩ := hf
  refine SC.skip ?_
  refine SE.seq ?_
  refine SC.seq ?_
  refine SC.seq (SC.region ?_)
  refine SL.val (Val.move rfl) rfl rfl ?_
  first
    | refine SL.val (Val.addI rfl rfl (by simp only [InR, lo, hi]; omega)) rfl rfl ?_
    | refine SL.val (Val.addW rfl rfl) rfl rfl ?_
  refine SL.val (Val.assign rfl) rfl rfl ?_
  refine SL.nil (SE.seq ?_)
  refine SC.block ?_
  refine SC.loop (ι := List Int × Nat × Nat) (fun z => (own 3 1 v ((z.1).map fun x => [int x]) :: σ)) (fun z => [(0, .v v), (1, .fn (.func k) [] caps), (5, int (z.2.1 : Nat)), (6, int (z.2.2 : Nat))]) (fun z => z.1.length = xs.length ∧ z.2.1 < z.2.2 ∧ z.2.2 ≤ xs.length ∧ z.1.drop z.2.2 = xs.drop z.2.2 ∧ z.1.take z.2.1 = (xs.take z.2.2).filter (fun x => !p x)) (fun z => xs.length - z.2.2) (xs, q, q + 1) (⟨rfl, Nat.lt_succ_self _, hq, rfl, first_del hq hp hbe⟩) (by exact ⟨rfl, rfl, rfl, rfl, trivial⟩) (by repeat first|exact s0 _|exact s1 _|apply s2|apply s3) ?_
  intro z hz
  refine SC.seq ?_
  refine SC.seq (SC.region ?_)
  refine SL.val (Val.move rfl) rfl rfl ?_
  refine SL.val (Val.move rfl) rfl rfl ?_
  refine SL.val (Val.lenOwnR rfl (.inl (by repeat first|assumption|exact m0|apply m1)) Try.underlying41 (List.length_map _)) rfl rfl ?_
  refine SL.val (Val.ltI rfl rfl) rfl rfl ?_
  refine SL.nil (SE.seq ?_)
  refine SC.condP rfl ?_ ?_
  rotate_left
  · intro hc19
    refine SC.exit ?_
    refine SE.then_ (by intro h; cases h) ?_
    refine SE.then_ (by intro h; cases h) ?_
    refine SE.exit ?_
    refine SE.seq ?_
    refine SC.seq (SC.region ?_)
    refine SL.val (Val.move rfl) rfl rfl ?_
    refine SL.val (Val.move rfl) rfl rfl ?_
    refine SL.val (Val.sliceOwnLo (q := z.2.1) tabOk Try.underlying41 rfl rfl rfl (.inl (by repeat first|assumption|exact m0|apply m1)) rfl rfl (by rw [List.length_map]; omega)) rfl rfl ?_
    refine SL.eff (Eff.clearOwn (v := v) (xs := ((z.1).map fun x => [int x])) (q := z.2.1) (z := .int .i64 0) Try.underlying41 (fun w => by kernel_rfl) rfl rfl rfl (by rw [List.length_map]; omega) (by repeat first|assumption|exact Upd.here|apply Upd.there)) rfl rfl ?_
    rintro _ _ ⟨rfl, rfl⟩
    refine SL.nil (SE.seq ?_)
    refine SC.seq (SC.region ?_)
    refine SL.val (Val.move rfl) rfl rfl ?_
    refine SL.val (Val.move rfl) rfl rfl ?_
    refine SL.val (Val.sliceOwnHi (q := z.2.1) tabOk Try.underlying41 rfl rfl (.inl (by repeat first|assumption|exact m0|apply m1)) rfl rfl (by simp; omega)) rfl rfl ?_
    refine SL.cutOwn (q := z.2.1) (ys := (((xs.filter fun x => !p x)).map fun x => [int x])) ?_ (by repeat first|assumption|exact Upd.here|apply Upd.there) (by simp; omega) ?_
    · exact cut_all hz.1 (by omega) hz.2.2.2.2 (by omega)
    refine SL.val (Val.assign rfl) rfl rfl ?_
    refine SL.nil (SE.seq ?_)
    refine SC.ret ?_
    refine SE.fin (rs := [.tmp 4]) rfl (RV.tmp rfl RV.nil) (cutTo v z.2.1) (List.sublist_append_left _ _) (by simp [It.rids]) ?_
    exact rfl
  intro hc19
  have hlt : z.2.2 < xs.length := by omega
  have hly : z.2.2 < z.1.length := by omega
  refine SC.skip ?_
  refine SE.seq ?_
  refine SC.seq ?_
  refine SC.block ?_
  refine SC.seq (SC.region ?_)
  refine SL.val (Val.move rfl) rfl rfl ?_
  refine SL.val (Val.move rfl) rfl rfl ?_
  refine SL.val (Val.indexOwn (q := z.2.2) tabOk Try.underlying41 rfl rfl (.inl (by repeat first|assumption|exact m0|apply m1)) rfl rfl (by rw [List.length_map]; exact hly) rfl rfl) rfl rfl ?_
  refine SL.val (Val.to (C := int (xs[z.2.2]'hlt)) (Val.loadOwn1 (q := z.2.2) (s := 1) tabOk rfl rfl (.inl (by repeat first|assumption|exact m0|apply m1)) rfl (at_map hly) rfl) (by rw [at_drop hz.2.2.2.1 hlt hly])) rfl rfl ?_
  refine SL.val (Val.assign rfl) rfl rfl ?_
  refine SL.nil (SE.seq ?_)
  refine SC.seq (SC.region ?_)
  refine SL.val (Val.move rfl) rfl rfl ?_
  refine SL.val (Val.move rfl) rfl rfl ?_
  refine SL.callv (h _ (List.getElem_mem hlt)) rfl Casts.refl hb rfl rfl rfl ?_
  refine After.pure (RdAll.reads hr (fun x hx => by repeat (first | exact hx | apply List.mem_cons_of_mem))) (fun _ => rfl) ?_
  intro _
  refine SL.val (Val.notB rfl) rfl rfl ?_
  refine SL.nil (SE.seq ?_)
  refine SC.cond rfl ?_ ?_
  rotate_left
  · intro hc29
    refine SC.skip ?_
    refine SE.inBlock ?_
    refine SE.seq ?_
    refine SC.region ?_
    refine SL.val (Val.move rfl) rfl rfl ?_
    first
      | refine SL.val (Val.addI rfl rfl (by simp only [InR, lo, hi]; omega)) rfl rfl ?_
      | refine SL.val (Val.addW rfl rfl) rfl rfl ?_
    refine SL.val (Val.assign rfl) rfl rfl ?_
    refine SL.nil ?_
    refine SE.round (z.1, z.2.1, z.2.2 + 1) (by first | omega | (dsimp only; omega)) (⟨hz.1, by dsimp only; omega, hlt, drop_more hz.2.2.2.1, by dsimp only; rw [hz.2.2.2.2, filter_take_succ hlt, if_pos (by simpa using hc29), List.append_nil]⟩) (by exact ⟨rfl, rfl, rfl, rfl, trivial⟩) (by repeat first|exact s0 _|exact s1 _|apply s2|apply s3)
  intro hc29
  refine SC.seq (SC.region ?_)
  refine SL.val (Val.move rfl) rfl rfl ?_
  refine SL.val (Val.move rfl) rfl rfl ?_
  refine SL.val (Val.move rfl) rfl rfl ?_
  refine SL.val (Val.indexOwn (q := z.2.1) tabOk Try.underlying41 rfl rfl (.inl (by repeat first|assumption|exact m0|apply m1)) rfl rfl (by rw [List.length_map]; omega) rfl rfl) rfl rfl ?_
  refine SL.eff (Eff.setOwn (ys := [int (xs[z.2.2]'hlt)]) (q := z.2.1) (s := 1) tabOk rfl rfl rfl (by repeat first|assumption|exact Upd.here|apply Upd.there) rfl rfl rfl (by rw [List.length_map]; omega) rfl) rfl rfl ?_
  rintro _ _ ⟨rfl, rfl⟩
  rw [show ((z.1).map fun x => [int x]).set z.2.1 [int (xs[z.2.2]'hlt)] = ((z.1.set z.2.1 (xs[z.2.2]'hlt)).map fun x => [int x]) from (List.map_set ..).symm]
  refine SL.nil (SE.seq ?_)
  refine SC.region ?_
  refine SL.val (Val.move rfl) rfl rfl ?_
  first
    | refine SL.val (Val.addI rfl rfl (by simp only [InR, lo, hi]; omega)) rfl rfl ?_
    | refine SL.val (Val.addW rfl rfl) rfl rfl ?_
  refine SL.val (Val.assign rfl) rfl rfl ?_
  refine SL.nil ?_
  refine SE.inBlock ?_
  refine SE.seq ?_
  refine SC.region ?_
  refine SL.val (Val.move rfl) rfl rfl ?_
  first
    | refine SL.val (Val.addI rfl rfl (by simp only [InR, lo, hi]; omega)) rfl rfl ?_
    | refine SL.val (Val.addW rfl rfl) rfl rfl ?_
  refine SL.val (Val.assign rfl) rfl rfl ?_
  refine SL.nil ?_
  refine SE.round (z.1.set z.2.1 (xs[z.2.2]'hlt), z.2.1 + 1, z.2.2 + 1) (by first | omega | (dsimp only; omega)) (⟨by rw [List.length_set]; exact hz.1, by dsimp only; omega, hlt, by dsimp only; rw [drop_set_lt (by omega)]; exact drop_more hz.2.2.2.1, by dsimp only; rw [take_set_succ (by omega), hz.2.2.2.2, filter_take_succ hlt, if_neg (by simpa using hc29)]⟩) (by exact ⟨rfl, rfl, rfl, rfl, trivial⟩) (by repeat first|exact s0 _|exact s1 _|apply s2|apply s3)
end
end Go.Proofs.Ytonceioajbimaaa.A
/-
  Tallies of votes, read; two rows of ints.
-/
set_option maxRecDepth 100000
set_option linter.unusedSimpArgs false
set_option linter.unusedVariables false
namespace Go.Proofs.Ytonceioajbimaaa.A
open Go.RowKit Go.Maps Go.Sort Go.Shelf

theorem ne_comm_dec {p q : Vt} : decide (p ≠ q) = !decide (p = q) := by by_cases h : p = q <;> simp [h]
section
variable {t bv bn b2 b3 : Nat} {m : List (Int × Vt)} {c : List (Vt × Nat)} {k : Vt} {who : Int}
theorem vt_lenR_s  : Spec Try.prog 14 [ptr t] [.rd t 69 [mapV bv, mapV bn], .rdpc (mapPc bv intK vtV intOk m), .rdpc (mapPc bn vtV cntV vtOk c)] (fun _ : Unit => []) (fun _ => int (m.length : Nat)) := by
  refine spec_of Try.func14 rfl Try.ntmps14 rfl fun G w => ?_
  refine SC.seq (SC.region ?_)
  refine SL.val (Val.assign rfl) rfl rfl ?_
  refine SL.nil (SE.seq ?_)
  refine SC.seq ?_
  refine SC.seq (SC.region ?_)
  refine SL.val (Val.move rfl) rfl rfl ?_
  refine SL.val (Val.eqP rfl rfl (by kernel_rfl)) rfl rfl ?_
  refine SL.nil (SE.seq ?_)
  refine SC.condF rfl ?_
  refine SC.skip ?_
  refine SE.seq ?_
  refine SC.seq (SC.region ?_)
  refine SL.val (Val.move rfl) rfl rfl ?_
  refine SL.val (Val.nilCheck rfl) rfl rfl ?_
  refine SL.val (Val.fieldAddr tabOk rfl rfl rfl rfl rfl) rfl rfl ?_
  refine SL.val (Val.load1 tabOk rfl rfl (by first|(apply Or.inl;(repeat first|assumption|exact m0|apply m1);done)|(apply Or.inr;(repeat first|assumption|exact m0|apply m1);done)) List.not_mem_nil (by rfl)) rfl rfl ?_
  refine SL.val (Val.lenMap Try.underlying66 rfl (by first|(apply Or.inl;(repeat first|assumption|exact m0|apply m1);done)|(apply Or.inr;(repeat first|assumption|exact m0|apply m1);done)) List.not_mem_nil) rfl rfl ?_
  refine SL.val (Val.assign rfl) rfl rfl ?_
  refine SL.nil (SE.seq ?_)
  refine SC.ret ?_
  refine SE.fin (rs := [.tmp 2]) rfl (RV.tmp rfl RV.nil) (()) (by repeat first|exact s0 _|exact s1 _|apply s2|apply s3) (by simp [It.rids]) ?_
  exact rfl
theorem vt_countR_s (hk : vtOk k) : Spec Try.prog 15 [ptr t, .agg (vtC k)] [.rd t 69 [mapV bv, mapV bn], .rdpc (mapPc bv intK vtV intOk m), .rdpc (mapPc bn vtV cntV vtOk c)] (fun _ : Unit => []) (fun _ => int ((cget c k : Nat) : Int)) := by
  refine spec_of Try.func15 rfl Try.ntmps15 rfl fun G w => ?_
  refine SC.seq (SC.region ?_)
  refine SL.eff (Eff.boxA (cs := vtC k) rfl) rfl rfl ?_
  rintro _ _ ⟨b3, rfl, rfl⟩
  refine SL.val (Val.assign rfl) rfl rfl ?_
  refine SL.nil (SE.seq ?_)
  refine SC.seq ?_
  refine SC.seq (SC.region ?_)
  refine SL.val (Val.move rfl) rfl rfl ?_
  refine SL.val (Val.eqP rfl rfl (by kernel_rfl)) rfl rfl ?_
  refine SL.nil (SE.seq ?_)
  refine SC.condF rfl ?_
  refine SC.skip ?_
  refine SE.seq ?_
  refine SC.seq ?_
  refine SC.draw [] (.q 0 (.q 1 (.q 2 (.q 3 (.q 4 (.q 5 (.q 6 .nil))))))) (by kernel_rfl) (by kernel_rfl) ?_
  refine SX.val rfl (Val.move rfl) (by simp) rfl rfl ?_
  refine SX.val rfl (Val.nilCheck rfl) (by simp) rfl rfl ?_
  refine SX.val rfl (Val.fieldAddr tabOk rfl rfl rfl rfl rfl) (by simp) rfl rfl ?_
  refine SX.val rfl (Val.load1 tabOk rfl rfl (by first|(apply Or.inl;(repeat first|assumption|exact m0|apply m1);done)|(apply Or.inr;(repeat first|assumption|exact m0|apply m1);done)) List.not_mem_nil (by rfl)) (by simp) rfl rfl ?_
  refine SX.val rfl (Val.loadA tabOk rfl rfl rfl (by first|(apply Or.inl;(repeat first|assumption|exact m0|apply m1);done)|(apply Or.inr;(repeat first|assumption|exact m0|apply m1);done)) List.not_mem_nil (vtC_len _)) (by first | (simp [mids, It.mids, ownPc, mapPc]; done) | (intro k hk; simp [mids, It.mids, ownPc, mapPc, mapAtPc] at hk ⊢; grind)) rfl rfl ?_
  refine SX.val rfl (Val.mapGet (a := k) (zv := cntV 0) (C := int ((cget c k : Nat) : Int)) vt_fit Try.underlying67 int_zero rfl (by first|(apply Or.inl;(repeat first|assumption|exact m0|apply m1);done)|(apply Or.inr;(repeat first|assumption|exact m0|apply m1);done)) List.not_mem_nil rfl (vt_is _) hk (cget_is _ _)) (by first | (simp [mids, It.mids, ownPc, mapPc]; done) | (intro k hk; simp [mids, It.mids, ownPc, mapPc, mapAtPc] at hk ⊢; grind)) rfl rfl ?_
  refine SX.val rfl (Val.assign rfl) (by simp) rfl rfl ?_
  refine SX.nil (SE.seq ?_)
  refine SC.ret ?_
  refine SE.fin (rs := [.tmp 4]) rfl (RV.tmp rfl RV.nil) (()) (by repeat first|exact s0 _|exact s1 _|apply s2|apply s3) (by simp [It.rids]) ?_
  exact rfl
theorem vt_ofR_s (hw : intOk who) : Spec Try.prog 13 [ptr t, int who] [.rd t 69 [mapV bv, mapV bn], .rdpc (mapPc bv intK vtV intOk m), .rdpc (mapPc bn vtV cntV vtOk c)] (fun _ : Unit => []) (fun _ => .tup [.agg (vtC (gOf m who)), boo (aget m who).isSome]) := by
  refine spec_of Try.func13 rfl Try.ntmps13 rfl fun G w => ?_
  refine SC.seq (SC.region ?_)
  refine SL.eff (Eff.alloc tabOk rfl) rfl rfl ?_
  rintro _ _ ⟨b4, rfl, rfl⟩
  refine SL.val (Val.assign rfl) rfl rfl ?_
  refine SL.nil (SE.seq ?_)
  refine SC.seq ?_
  refine SC.seq (SC.region ?_)
  refine SL.val (Val.move rfl) rfl rfl ?_
  refine SL.val (Val.eqP rfl rfl (by kernel_rfl)) rfl rfl ?_
  refine SL.nil (SE.seq ?_)
  refine SC.condF rfl ?_
  refine SC.skip ?_
  refine SE.seq ?_
  refine SC.seq (SC.region ?_)
  refine SL.val (Val.move rfl) rfl rfl ?_
  refine SL.val (Val.nilCheck rfl) rfl rfl ?_
  refine SL.val (Val.fieldAddr tabOk rfl rfl rfl rfl rfl) rfl rfl ?_
  refine SL.val (Val.load1 tabOk rfl rfl (by first|(apply Or.inl;(repeat first|assumption|exact m0|apply m1);done)|(apply Or.inr;(repeat first|assumption|exact m0|apply m1);done)) List.not_mem_nil (by rfl)) rfl rfl ?_
  refine SL.val (Val.move rfl) rfl rfl ?_
  refine SL.val (Val.mapGetOk (a := who) (zv := vtV vt0) (C := .agg (vtC (gOf m who))) (int_fit Try.underlying3) Try.underlying66 vt_zero rfl (by first|(apply Or.inl;(repeat first|assumption|exact m0|apply m1);done)|(apply Or.inr;(repeat first|assumption|exact m0|apply m1);done)) List.not_mem_nil rfl is_v hw (gOf_is _ _)) rfl rfl ?_
  refine SL.val (Val.move rfl) rfl rfl ?_
  refine SL.val (Val.extract rfl rfl) rfl rfl ?_
  refine SL.val (Val.extract rfl rfl) rfl rfl ?_
  refine SL.eff (Eff.alloc tabOk rfl) rfl rfl ?_
  rintro _ _ ⟨b7, rfl, rfl⟩
  refine SL.eff (Eff.store (L' := vtC (gOf m who)) tabOk rfl rfl rfl (by repeat first|assumption|exact Upd.here|apply Upd.there) (by exact vtC_len _) (Nat.le_of_ble_eq_true (by rfl)) (by exact vtC_ones _) (putL_whole (by exact vtC_len _))) rfl rfl ?_
  rintro _ _ ⟨rfl, rfl⟩
  refine SL.val (Val.assign rfl) rfl rfl ?_
  refine SL.nil (SE.seq ?_)
  refine SC.seq (SC.region ?_)
  refine SL.val (Val.loadA tabOk rfl rfl rfl (by first|(apply Or.inl;(repeat first|assumption|exact m0|apply m1);done)|(apply Or.inr;(repeat first|assumption|exact m0|apply m1);done)) List.not_mem_nil (vtC_len _)) rfl rfl ?_
  refine SL.val (Val.move rfl) rfl rfl ?_
  refine SL.eff (Eff.store (L' := vtC (gOf m who)) tabOk rfl rfl rfl (by repeat first|assumption|exact Upd.here|apply Upd.there) (by exact vtC_len _) (Nat.le_of_ble_eq_true (by rfl)) (by exact vtC_ones _) (putL_whole (by exact vtC_len _))) rfl rfl ?_
  rintro _ _ ⟨rfl, rfl⟩
  refine SL.val (Val.assign rfl) rfl rfl ?_
  refine SL.nil (SE.seq ?_)
  refine SC.ret ?_
  refine SE.fin (rs := [.cell 4 29, .tmp 5]) rfl (RV.cell rfl (RV.cellA tabOk rfl rfl (by first|(apply Or.inl;(repeat first|assumption|exact m0|apply m1);done)|(apply Or.inr;(repeat first|assumption|exact m0|apply m1);done)) (vtC_len _)) (RV.tmp rfl RV.nil)) (()) (by repeat first|exact s0 _|exact s1 _|apply s2|apply s3) (by simp [It.rids]) ?_
  exact rfl
theorem vt_votersR_s (hl : m.length ≤ 1000) : Spec Try.prog 35 [ptr t] [.rd t 69 [mapV bv, mapV bn], .rdpc (mapPc bv intK vtV intOk m), .rdpc (mapPc bn vtV cntV vtOk c)] (fun v : Value => [own 3 1 v ((srt (m.map (·.1))).map fun x => [int x])]) (fun v => .v v) := by
  refine spec_of Try.func35 rfl Try.ntmps35 rfl fun G w => ?_
  refine SC.seq (SC.region ?_)
  refine SL.val (Val.assign rfl) rfl rfl ?_
  refine SL.nil (SE.seq ?_)
  refine SC.seq ?_
  refine SC.seq (SC.region ?_)
  refine SL.val (Val.move rfl) rfl rfl ?_
  refine SL.val (Val.eqP rfl rfl (by kernel_rfl)) rfl rfl ?_
  refine SL.nil (SE.seq ?_)
  refine SC.condF rfl ?_
  refine SC.skip ?_
  refine SE.seq ?_
  refine SC.seq (SC.region ?_)
  refine SL.val (Val.move rfl) rfl rfl ?_
  refine SL.val (Val.nilCheck rfl) rfl rfl ?_
  refine SL.val (Val.fieldAddr tabOk rfl rfl rfl rfl rfl) rfl rfl ?_
  refine SL.val (Val.load1 tabOk rfl rfl (by first|(apply Or.inl;(repeat first|assumption|exact m0|apply m1);done)|(apply Or.inr;(repeat first|assumption|exact m0|apply m1);done)) List.not_mem_nil (by rfl)) rfl rfl ?_
  refine SL.call (keys_1_s (b := bv)) Casts.refl (by kernel_rfl) rfl rfl rfl ?_
  refine After.make (by repeat first|exact .nil|refine .blk (by repeat first|assumption|exact m0|apply m1) ?_|refine .rd (by repeat first|assumption|exact m0|apply m1) ?_|refine .pc (by repeat first|assumption|exact m0|apply m1) ?_|refine .rdpc (by repeat first|assumption|exact m0|apply m1) ?_) (fun _ => rfl) ?_
  intro zk
  refine SL.call (sorted_1_s (V := vtV) (m := m) (b := bv) (z := zk) (by omega)) Casts.refl (by kernel_rfl) rfl rfl rfl ?_
  refine After.make (by repeat (first | exact Reads.nil | (refine Reads.blk ?_ ?_; focus ((repeat first|assumption|exact m0|apply m1); done)) | (refine Reads.rd ?_ ?_; focus ((repeat first|assumption|exact m0|apply m1); done)) | (refine Reads.pc ?_ ?_; focus ((repeat first|assumption|exact m0|apply m1); done)) | (refine Reads.rdpc ?_ ?_; focus ((repeat first|assumption|exact m0|apply m1); done)))) (fun _ => rfl) ?_
  intro r10
  refine SL.val (Val.assign rfl) rfl rfl ?_
  refine SL.nil (SE.seq ?_)
  refine SC.ret ?_
  refine SE.fin (rs := [.tmp 2]) rfl (RV.tmp rfl RV.nil) (r10) (by repeat first|exact s0 _|exact s1 _|apply s2|apply s3) (by simp [It.rids]) ?_
  exact rfl
theorem who1_s (hw : intOk who) (hk : vtOk k) (hok : ∀ w v, aget m w = some v → vtOk v) : Spec Try.prog 37 [int who, ptr b2, ptr b3] [.rd b2 24 [ptr t], .rd b3 29 (vtC k), .rd t 69 [mapV bv, mapV bn], .rdpc (mapPc bv intK vtV intOk m)] (fun _ : Unit => []) (fun _ => boo (decide (gOf m who ≠ k))) := by
  refine spec_of Try.func37 rfl Try.ntmps37 rfl fun G w => ?_
  refine SC.seq (SC.region ?_)
  refine SL.val (Val.assign rfl) rfl rfl ?_
  refine SL.nil (SE.seq ?_)
  refine SC.seq ?_
  refine SC.draw [] (.q 0 (.q 1 (.q 2 (.q 3 (.q 4 (.q 5 (.q 6 (.q 7 (.q 8 .nil))))))))) (by kernel_rfl) (by kernel_rfl) ?_
  refine SX.val rfl (Val.load1 tabOk rfl rfl (by first|(apply Or.inl;(repeat first|assumption|exact m0|apply m1);done)|(apply Or.inr;(repeat first|assumption|exact m0|apply m1);done)) List.not_mem_nil (by rfl)) (by first | (simp [mids, It.mids, ownPc, mapPc]; done) | (intro k hk; simp [mids, It.mids, ownPc, mapPc, mapAtPc] at hk ⊢; grind)) rfl rfl ?_
  refine SX.val rfl (Val.nilCheck rfl) (by simp) rfl rfl ?_
  refine SX.val rfl (Val.fieldAddr tabOk rfl rfl rfl rfl rfl) (by simp) rfl rfl ?_
  refine SX.val rfl (Val.load1 tabOk rfl rfl (by first|(apply Or.inl;(repeat first|assumption|exact m0|apply m1);done)|(apply Or.inr;(repeat first|assumption|exact m0|apply m1);done)) List.not_mem_nil (by rfl)) (by simp) rfl rfl ?_
  refine SX.val rfl (Val.move rfl) (by simp) rfl rfl ?_
  refine SX.val rfl (Val.mapGet (a := who) (zv := vtV vt0) (C := .agg (vtC (gOf m who))) (int_fit Try.underlying3) Try.underlying66 vt_zero rfl (by first|(apply Or.inl;(repeat first|assumption|exact m0|apply m1);done)|(apply Or.inr;(repeat first|assumption|exact m0|apply m1);done)) List.not_mem_nil rfl is_v hw (gOf_is _ _)) (by first | (simp [mids, It.mids, ownPc, mapPc]; done) | (intro k hk; simp [mids, It.mids, ownPc, mapPc, mapAtPc] at hk ⊢; grind)) rfl rfl ?_
  refine SX.val rfl (Val.loadA tabOk rfl rfl rfl (by first|(apply Or.inl;(repeat first|assumption|exact m0|apply m1);done)|(apply Or.inr;(repeat first|assumption|exact m0|apply m1);done)) List.not_mem_nil (vtC_len _)) (by first | (simp [mids, It.mids, ownPc, mapPc]; done) | (intro k hk; simp [mids, It.mids, ownPc, mapPc, mapAtPc] at hk ⊢; grind)) rfl rfl ?_
  refine SX.val rfl (Val.neA rfl rfl (vt_plains _) (vt_plains _) (by kernel_rfl) (neVt (gOf_ok hok _) hk)) (by first | (simp [mids, It.mids, ownPc, mapPc]; done) | (intro k hk; simp [mids, It.mids, ownPc, mapPc, mapAtPc] at hk ⊢; grind)) rfl rfl ?_
  refine SX.val rfl (Val.assign rfl) (by simp) rfl rfl ?_
  refine SX.nil (SE.seq ?_)
  refine SC.ret ?_
  refine SE.fin (rs := [.tmp 4]) rfl (RV.tmp rfl RV.nil) (()) (by repeat first|exact s0 _|exact s1 _|apply s2|apply s3) (by simp [It.rids]) ?_
  exact rfl
theorem rw_all : RdAll [.rd b2 24 [ptr t], .rd b3 29 (vtC k), .rd t 69 [mapV bv, mapV bn], .rdpc (mapPc bv intK vtV intOk m)] := fun x hx => by
  simp only [List.mem_cons, List.not_mem_nil, or_false] at hx
  rcases hx with rfl | rfl | rfl | rfl
  · exact .inl ⟨_, _, _, rfl⟩
  · exact .inl ⟨_, _, _, rfl⟩
  · exact .inl ⟨_, _, _, rfl⟩
  · exact .inr ⟨_, rfl⟩
theorem vt_whoR_s (hk : vtOk k) (hl : m.length ≤ 1000) (hmok : ∀ w ∈ m.map (·.1), intOk w) (hok : ∀ w v, aget m w = some v → vtOk v) : Spec Try.prog 18 [ptr t, .agg (vtC k)] [.rd t 69 [mapV bv, mapV bn], .rdpc (mapPc bv intK vtV intOk m), .rdpc (mapPc bn vtV cntV vtOk c)] (fun v : Value => [own 3 1 v (((srt (m.map (·.1))).filter fun x => !decide (gOf m x ≠ k)).map fun x => [int x])]) (fun v => .v v) := by
  refine spec_of Try.func18 rfl Try.ntmps18 rfl fun G w => ?_
  refine SC.seq (SC.region ?_)
  refine SL.eff (Eff.box1 rfl rfl) rfl rfl ?_
  rintro _ _ ⟨b2, rfl, rfl⟩
  refine SL.eff (Eff.boxA (cs := vtC k) rfl) rfl rfl ?_
  rintro _ _ ⟨b3, rfl, rfl⟩
  refine SL.val (Val.assign rfl) rfl rfl ?_
  refine SL.nil (SE.seq ?_)
  refine SC.seq (SC.region ?_)
  refine SL.val (Val.load1 tabOk rfl rfl (by first|(apply Or.inl;(repeat first|assumption|exact m0|apply m1);done)|(apply Or.inr;(repeat first|assumption|exact m0|apply m1);done)) List.not_mem_nil (by rfl)) rfl rfl ?_
  refine SL.call (vt_votersR_s (t := t) (bv := bv) (bn := bn) (m := m) (c := c) hl) Casts.refl (by kernel_rfl) rfl rfl rfl ?_
  refine After.make (by repeat (first | exact Reads.nil | (refine Reads.blk ?_ ?_; focus ((repeat first|assumption|exact m0|apply m1); done)) | (refine Reads.rd ?_ ?_; focus ((repeat first|assumption|exact m0|apply m1); done)) | (refine Reads.pc ?_ ?_; focus ((repeat first|assumption|exact m0|apply m1); done)) | (refine Reads.rdpc ?_ ?_; focus ((repeat first|assumption|exact m0|apply m1); done)))) (fun _ => rfl) ?_
  intro r6
  refine SL.val (Val.makeFunc rfl rfl) rfl rfl ?_
  refine SL.call (delete_s (v := r6) (xs := (srt (m.map (·.1)))) (p := fun x => decide (gOf m x ≠ k)) (k := 37) (caps := [ptr b2, ptr b3]) (σ := [.rd b2 24 [ptr t], .rd b3 29 (vtC k), .rd t 69 [mapV bv, mapV bn], .rdpc (mapPc bv intK vtV intOk m)]) (by kernel_rfl) rw_all (by rw [srt_length, List.length_map]; omega) (fun x hx => who1_s (hmok _ ((srt_perm _).mem_iff.1 hx)) hk hok)) Casts.refl (by kernel_rfl) rfl rfl rfl ?_
  refine After.headR rfl rfl (by repeat (first | exact Reads.nil | (refine Reads.blk ?_ ?_; focus ((repeat first|assumption|exact m0|apply m1); done)) | (refine Reads.rd ?_ ?_; focus ((repeat first|assumption|exact m0|apply m1); done)) | (refine Reads.pc ?_ ?_; focus ((repeat first|assumption|exact m0|apply m1); done)) | (refine Reads.rdpc ?_ ?_; focus ((repeat first|assumption|exact m0|apply m1); done)))) (fun _ => rfl) ?_
  intro r8
  refine SL.val (Val.assign rfl) rfl rfl ?_
  refine SL.nil (SE.seq ?_)
  refine SC.ret ?_
  refine SE.fin (rs := [.tmp 4]) rfl (RV.tmp rfl RV.nil) (r8) (by repeat first|exact s0 _|exact s1 _|apply s2|apply s3) (by simp [It.rids]) ?_
  exact rfl
end
theorem boo_t {p : Prop} [Decidable p] (h : p) : retA [boo true] = boo (decide p) := congrArg (fun b => Abs.v (Value.bool b)) (decide_eq_true h).symm
theorem boo_f {p : Prop} [Decidable p] (h : ¬ p) : retA [boo false] = boo (decide p) := congrArg (fun b => Abs.v (Value.bool b)) (decide_eq_false h).symm
section
variable {xs ys : List Int}
set_option maxHeartbeats 2000000 in
theorem sameInts_s (hn : xs.length < 1000000) : Spec Try.prog 17 [ints xs, ints ys] [] (fun _ : Unit => []) (fun _ => boo (decide (xs = ys))) := by
  refine spec_of Try.func17 rfl Try.ntmps17 rfl fun G w => ?_
  refine SC.seq (SC.region ?_)
  refine SL.val (Val.assign rfl) rfl rfl ?_
  refine SL.nil (SE.seq ?_)
  refine SC.seq ?_
  refine SC.seq (SC.region ?_)
  refine SL.val (Val.move rfl) rfl rfl ?_
  first
    | refine SL.val (Val.lenSl rfl Try.underlying41 (List.length_map _)) rfl rfl ?_
    | refine SL.val (Val.lenOwn rfl (by repeat first|assumption|exact m0|apply m1) Try.underlying41 (List.length_map _)) rfl rfl ?_
    | refine SL.val (Val.lenNil rfl Try.underlying41) rfl rfl ?_
  refine SL.val (Val.move rfl) rfl rfl ?_
  first
    | refine SL.val (Val.lenSl rfl Try.underlying41 (List.length_map _)) rfl rfl ?_
    | refine SL.val (Val.lenOwn rfl (by repeat first|assumption|exact m0|apply m1) Try.underlying41 (List.length_map _)) rfl rfl ?_
    | refine SL.val (Val.lenNil rfl Try.underlying41) rfl rfl ?_
  refine SL.val (Val.neI rfl rfl) rfl rfl ?_
  refine SL.nil (SE.seq ?_)
  refine SC.condP rfl ?_ ?_
  · intro hc10
    refine SC.seq (SC.region ?_)
    refine SL.val (Val.assign rfl) rfl rfl ?_
    refine SL.nil (SE.seq ?_)
    refine SC.ret ?_
    refine SE.then_ (by intro h; cases h) ?_
    refine SE.fin (rs := [.tmp 4]) rfl (RV.tmp rfl RV.nil) (()) (by repeat first|exact s0 _|exact s1 _|apply s2|apply s3) (by simp [It.rids]) ?_
    refine boo_f fun h => ?_
    subst h
    exact hc10 rfl
  intro hc10
  have hle : xs.length = ys.length := by omega
  refine SC.skip ?_
  refine SE.seq ?_
  refine SC.seq ?_
  refine SC.seq (SC.region ?_)
  refine SL.val (Val.move rfl) rfl rfl ?_
  first
    | refine SL.val (Val.lenSl rfl Try.underlying41 (List.length_map _)) rfl rfl ?_
    | refine SL.val (Val.lenOwn rfl (by repeat first|assumption|exact m0|apply m1) Try.underlying41 (List.length_map _)) rfl rfl ?_
    | refine SL.val (Val.lenNil rfl Try.underlying41) rfl rfl ?_
  refine SL.val (Val.move rfl) rfl rfl ?_
  refine SL.nil (SE.seq ?_)
  refine SC.block ?_
  refine SC.loop (ι := Nat) (fun z => []) (fun z => [(0, ints xs), (1, ints ys), (12, int (xs.length : Nat)), (13, int (z : Nat))]) (fun z => z ≤ xs.length ∧ ∀ j (h : j < xs.length) (h2 : j < ys.length), j < z → xs[j] = ys[j]) (fun z => xs.length - z) (0) (⟨Nat.zero_le _, fun j h h2 hj => by omega⟩) (by exact ⟨rfl, rfl, rfl, rfl, trivial⟩) (by repeat first|exact s0 _|exact s1 _|apply s2|apply s3) ?_
  intro z hz
  refine SC.seq (SC.region ?_)
  refine SL.val (Val.ltI rfl rfl) rfl rfl ?_
  refine SL.nil (SE.seq ?_)
  refine SC.seq ?_
  refine SC.condP rfl ?_ ?_
  rotate_left
  · intro hc14
    refine SC.exit ?_
    refine SE.then_ (by intro h; cases h) ?_
    refine SE.then_ (by intro h; cases h) ?_
    refine SE.exit ?_
    refine SE.seq ?_
    refine SC.seq (SC.region ?_)
    refine SL.val (Val.assign rfl) rfl rfl ?_
    refine SL.nil (SE.seq ?_)
    refine SC.ret ?_
    refine SE.fin (rs := [.tmp 4]) rfl (RV.tmp rfl RV.nil) (()) (by repeat first|exact s0 _|exact s1 _|apply s2|apply s3) (by simp [It.rids]) ?_
    refine boo_t (List.ext_getElem hle fun j h h2 => hz.2 j h h2 (by omega))
  intro hc14
  have hlt : z < xs.length := by omega
  have hlt2 : z < ys.length := by omega
  refine SC.skip ?_
  refine SE.seq ?_
  refine SC.seq ?_
  refine SC.block ?_
  refine SC.seq (SC.region ?_)
  refine SL.val (Val.move rfl) rfl rfl ?_
  refine SL.val (Val.assign rfl) rfl rfl ?_
  refine SL.nil (SE.seq ?_)
  refine SC.seq ?_
  refine SC.draw [] (.q 0 (.q 1 (.q 2 (.q 3 (.q 4 (.q 5 (.q 6 (.q 7 (.q 8 .nil))))))))) (by kernel_rfl) (by kernel_rfl) ?_
  refine SX.val rfl (Val.move rfl) (by simp) rfl rfl ?_
  refine SX.val rfl (Val.move rfl) (by simp) rfl rfl ?_
  refine SX.val rfl (Val.indexSl (q := z) tabOk Try.underlying41 rfl rfl rfl rfl (at_map hlt) rfl rfl) (by first | (simp [mids, It.mids, ownPc, mapPc]; done) | (intro k hk; simp [mids, It.mids, ownPc, mapPc, mapAtPc] at hk ⊢; grind)) rfl rfl ?_
  refine SX.val rfl (Val.to (C := int (xs[z]'hlt)) (Val.load1R tabOk rfl rfl rfl) rfl) (by first | (simp [mids, It.mids, ownPc, mapPc]; done) | (intro k hk; simp [mids, It.mids, ownPc, mapPc, mapAtPc] at hk ⊢; grind)) rfl rfl ?_
  refine SX.val rfl (Val.move rfl) (by simp) rfl rfl ?_
  refine SX.val rfl (Val.move rfl) (by simp) rfl rfl ?_
  refine SX.val rfl (Val.indexSl (q := z) tabOk Try.underlying41 rfl rfl rfl rfl (at_map hlt2) rfl rfl) (by first | (simp [mids, It.mids, ownPc, mapPc]; done) | (intro k hk; simp [mids, It.mids, ownPc, mapPc, mapAtPc] at hk ⊢; grind)) rfl rfl ?_
  refine SX.val rfl (Val.to (C := int (ys[z]'hlt2)) (Val.load1R tabOk rfl rfl rfl) rfl) (by first | (simp [mids, It.mids, ownPc, mapPc]; done) | (intro k hk; simp [mids, It.mids, ownPc, mapPc, mapAtPc] at hk ⊢; grind)) rfl rfl ?_
  refine SX.val rfl (Val.neI rfl rfl) (by simp) rfl rfl ?_
  refine SX.nil (SE.seq ?_)
  refine SC.condP rfl ?_ ?_
  rotate_left
  · intro hc24
    refine SC.skip ?_
    refine SE.inBlock ?_
    refine SE.seq ?_
    refine SC.region ?_
    first
      | refine SL.val (Val.addI rfl rfl (by simp only [InR, lo, hi]; omega)) rfl rfl ?_
      | refine SL.val (Val.addW rfl rfl) rfl rfl ?_
    refine SL.val (Val.move rfl) rfl rfl ?_
    refine SL.nil ?_
    refine SE.round (z + 1) (by first | omega | (dsimp only; omega)) (⟨by omega, fun j h h2 hj => by
          rcases Nat.lt_or_ge j z with h1 | h1
          · exact hz.2 j h h2 h1
          · obtain rfl : j = z := by omega
            simpa using hc24⟩) (by exact ⟨rfl, rfl, rfl, rfl, trivial⟩) (by repeat first|exact s0 _|exact s1 _|apply s2|apply s3)
  intro hc24
  refine SC.seq (SC.region ?_)
  refine SL.val (Val.assign rfl) rfl rfl ?_
  refine SL.nil (SE.seq ?_)
  refine SC.ret ?_
  refine SE.ret ?_
  refine SE.then_ (by intro h; cases h) ?_
  refine SE.then_ (by intro h; cases h) ?_
  refine SE.ret ?_
  refine SE.then_ (by intro h; cases h) ?_
  refine SE.fin (rs := [.tmp 4]) rfl (RV.tmp rfl RV.nil) (()) (by repeat first|exact s0 _|exact s1 _|apply s2|apply s3) (by simp [It.rids]) ?_
  refine boo_f fun h => ?_
  subst h
  exact hc24 rfl
end
end Go.Proofs.Ytonceioajbimaaa.A
/-
  Tallies, plain: the document's row of votes, rising by voters, and the program's map.
-/
set_option maxRecDepth 100000
set_option linter.unusedSimpArgs false
set_option linter.unusedVariables false
namespace Go.Proofs.Ytonceioajbimaaa.A
open Go.RowKit

section
variable {α : Type} [DecidableEq α] {m r l : List (Int × α)} {c : List (α × Nat)} {who w : Int} {v k : α}
/-- One step of the document's Change. -/
def cStep (who : Int) (v : α) (s : List (Int × α) × Bool) (x : Int × α) : List (Int × α) × Bool :=
  let s1 := if s.2 = false ∧ who ≤ x.1 then (s.1 ++ [(who, v)], true) else s
  (if x.1 = who then s1.1 else s1.1 ++ [x], s1.2)
def cFin (who : Int) (v : α) (s : List (Int × α) × Bool) : List (Int × α) := if s.2 then s.1 else s.1 ++ [(who, v)]
def chgR (r : List (Int × α)) (who : Int) (v : α) : List (Int × α) := cFin who v (r.foldl (cStep who v) ([], false))
omit [DecidableEq α] in
theorem cStep_true (acc : List (Int × α)) (x : Int × α) : cStep who v (acc, true) x = (if x.1 = who then acc else acc ++ [x], true) := by
  simp [cStep]
omit [DecidableEq α] in
theorem fold_true : ∀ (l : List (Int × α)) (acc : List (Int × α)), l.foldl (cStep who v) (acc, true) = (acc ++ l.filter (fun p => decide (p.1 ≠ who)), true)
  | [], acc => by simp
  | x :: l, acc => by
    rw [List.foldl_cons, cStep_true, fold_true l, List.filter_cons]
    by_cases h : x.1 = who <;> simp [h]
omit [DecidableEq α] in
theorem fold_false : ∀ (l : List (Int × α)) (acc : List (Int × α)), (l.map (·.1)).Pairwise (· < ·) → cFin who v (l.foldl (cStep who v) (acc, false)) = acc ++ l.filter (fun p => decide (p.1 < who)) ++ [(who, v)] ++ l.filter (fun p => decide (who < p.1))
  | [], acc, _ => by simp [cFin]
  | x :: l, acc, h => by
    rw [List.map_cons, List.pairwise_cons] at h
    have hl : ∀ p ∈ l, x.1 < p.1 := fun p hp => h.1 _ (List.mem_map.2 ⟨p, hp, rfl⟩)
    rw [List.foldl_cons]
    by_cases hx : who ≤ x.1
    · have e1 : l.filter (fun p => decide (p.1 < who)) = [] := List.filter_eq_nil_iff.2 fun p hp => by have := hl p hp; simp; omega
      have e2 : l.filter (fun p => decide (who < p.1)) = l := List.filter_eq_self.2 fun p hp => by have := hl p hp; simp; omega
      have e3 : l.filter (fun p => decide (p.1 ≠ who)) = l := List.filter_eq_self.2 fun p hp => by have := hl p hp; simp; omega
      have e4 : cStep who v (acc, false) x = (if x.1 = who then acc ++ [(who, v)] else acc ++ [(who, v)] ++ [x], true) := by simp [cStep, hx]
      have hn : ¬ x.1 < who := by omega
      rw [e4, fold_true, e3, List.filter_cons, List.filter_cons, e1, e2]
      by_cases hq : x.1 = who
      · simp [cFin, hq]
      · have : who < x.1 := by omega
        simp [cFin, hq, this, hn]
    · have e4 : cStep who v (acc, false) x = (acc ++ [x], false) := by
        have : ¬ x.1 = who := by omega
        simp [cStep, hx, this]
      have h1 : x.1 < who := by omega
      have h2 : ¬ who < x.1 := by omega
      rw [e4, fold_false l _ h.2, List.filter_cons, List.filter_cons]
      simp [h1, h2]
omit [DecidableEq α] in
theorem chgR_eq (h : (r.map (·.1)).Pairwise (· < ·)) : chgR r who v = r.filter (fun p => decide (p.1 < who)) ++ [(who, v)] ++ r.filter (fun p => decide (who < p.1)) := by
  unfold chgR
  rw [fold_false r [] h]
  simp
omit [DecidableEq α] in
theorem cStep_len (s : List (Int × α) × Bool) (x : Int × α) : (cStep who v s x).1.length ≤ s.1.length + 2 := by
  unfold cStep
  split <;> split <;> simp <;> omega
/-- The document's row is the program's map, in order. -/
structure Rel (r m : List (Int × α)) : Prop where
  perm : r.Perm m
  rise : (r.map (·.1)).Pairwise (· < ·)
omit [DecidableEq α] in
theorem Rel.nil : Rel ([] : List (Int × α)) [] := ⟨List.Perm.refl _, List.Pairwise.nil⟩
omit [DecidableEq α] in
theorem Rel.nd (h : Rel r m) : (r.map (·.1)).Nodup := h.rise.imp fun h => by omega
omit [DecidableEq α] in
theorem Rel.nd2 (h : Rel r m) : (m.map (·.1)).Nodup := ((h.perm.map (·.1)).nodup_iff).1 h.nd
omit [DecidableEq α] in
theorem aget_some : ∀ {m : List (Int × α)}, (m.map (·.1)).Nodup → ∀ {w : Int} {v : α}, aget m w = some v ↔ (w, v) ∈ m
  | [], _, w, v => by simp [aget]
  | p :: m, h, w, v => by
    rw [List.map_cons, List.nodup_cons] at h
    rw [aget_cons, List.mem_cons]
    split
    · next e =>
      constructor
      · intro hv
        left
        have := Option.some.inj hv
        obtain ⟨a, b⟩ := p
        simp only at e this
        rw [e, this]
      · rintro (hv | hv)
        · rw [← hv]
        · exact absurd (List.mem_map.2 ⟨_, hv, rfl⟩) (e ▸ h.1)
    · next e =>
      rw [aget_some h.2]
      constructor
      · exact .inr
      · rintro (hv | hv)
        · exact absurd (by rw [← hv]) e
        · exact hv
omit [DecidableEq α] in
theorem Rel.aget (h : Rel r m) (w : Int) : aget r w = aget m w := by
  cases hv : Go.Proofs.Ytonceioajbimaaa.aget m w with
  | none =>
    rw [aget_none] at hv ⊢
    exact fun h2 => hv ((h.perm.map (·.1)).mem_iff.1 h2)
  | some v =>
    rw [aget_some h.nd2] at hv
    rw [aget_some h.nd]
    exact h.perm.mem_iff.2 hv
theorem Rel.cnt (h : Rel r m) (v : α) : cnt r v = cnt m v := (h.perm.filter _).length_eq
omit [DecidableEq α] in
theorem Rel.len (h : Rel r m) : r.length = m.length := h.perm.length_eq
omit [DecidableEq α] in
theorem Rel.srt (h : Rel r m) : srt (m.map (·.1)) = r.map (·.1) := sorted_unique ((srt_perm _).trans (h.perm.map (·.1)).symm) (srt_sorted _) (h.rise.imp fun h => by omega)
omit [DecidableEq α] in
theorem mem_aput (p : Int × α) : p ∈ aput m w k ↔ p = (w, k) ∨ (p ∈ m ∧ p.1 ≠ w) := by
  unfold aput
  split
  · next h =>
    rw [aget_isSome, List.mem_map] at h
    obtain ⟨q0, hq0, hw⟩ := h
    rw [List.mem_map]
    constructor
    · rintro ⟨q, hq, rfl⟩
      by_cases e : q.1 = w
      · left; rw [if_pos e]
      · right; rw [if_neg e]; exact ⟨hq, e⟩
    · rintro (rfl | ⟨h1, h2⟩)
      · exact ⟨q0, hq0, if_pos hw⟩
      · exact ⟨p, h1, if_neg h2⟩
  · next h =>
    rw [aget_isSome] at h
    rw [List.mem_append, List.mem_singleton]
    constructor
    · rintro (h1 | h1)
      · exact .inr ⟨h1, fun e => h (e ▸ List.mem_map.2 ⟨p, h1, rfl⟩)⟩
      · exact .inl h1
    · rintro (h1 | h1)
      · exact .inr h1
      · exact .inl h1.1
omit [DecidableEq α] in
theorem nodup_of_keys {l : List (Int × α)} (h : (l.map (·.1)).Nodup) : l.Nodup := (List.pairwise_map.1 h).imp fun h e => h (by rw [e])
omit [DecidableEq α] in
theorem Rel.chg (h : Rel r m) (who : Int) (v : α) : Rel (chgR r who v) (aput m who v) := by
  have hr : ((chgR r who v).map (·.1)).Pairwise (· < ·) := by
    rw [chgR_eq h.rise, List.map_append, List.map_append, List.pairwise_append, List.pairwise_append]
    have s1 : ∀ f : Int × α → Bool, ((r.filter f).map (·.1)).Pairwise (· < ·) := fun f => h.rise.sublist (List.filter_sublist.map _)
    refine ⟨⟨s1 _, by simp, fun a ha b hb => ?_⟩, s1 _, fun a ha b hb => ?_⟩
    · simp only [List.mem_map, List.mem_filter, decide_eq_true_eq, List.mem_singleton] at ha hb
      obtain ⟨p, ⟨_, hp⟩, rfl⟩ := ha
      obtain ⟨q, rfl, rfl⟩ := hb
      exact hp
    · simp only [List.mem_append, List.mem_map, List.mem_filter, decide_eq_true_eq, List.mem_singleton] at ha hb
      obtain ⟨q, ⟨_, hq⟩, rfl⟩ := hb
      rcases ha with ⟨p, ⟨_, hp⟩, rfl⟩ | ⟨p, rfl, rfl⟩
      · omega
      · exact hq
  refine ⟨?_, hr⟩
  rw [List.perm_ext_iff_of_nodup (nodup_of_keys (hr.imp fun h => by omega)) (nodup_of_keys (aput_nodup h.nd2 who v))]
  intro p
  rw [mem_aput, chgR_eq h.rise]
  simp only [List.mem_append, List.mem_filter, decide_eq_true_eq, List.mem_singleton, h.perm.mem_iff]
  constructor
  · rintro ((⟨h1, h2⟩ | h1) | ⟨h1, h2⟩)
    · exact .inr ⟨h1, by omega⟩
    · exact .inl h1
    · exact .inr ⟨h1, by omega⟩
  · rintro (h1 | ⟨h1, h2⟩)
    · exact .inl (.inr h1)
    · rcases Int.lt_or_gt_of_ne h2 with h3 | h3
      · exact .inl (.inl ⟨h1, h3⟩)
      · exact .inr ⟨h1, h3⟩
/-- The first that enough vote for. -/
def leastQ (c : α → Nat) (at_ : Int) : List (Int × α) → Option α
  | [] => none
  | p :: l => if 1 ≤ at_ ∧ at_ ≤ c p.2 then some p.2 else leastQ c at_ l
omit [DecidableEq α] in
theorem leastQ_drop {c : α → Nat} {at_ : Int} : ∀ {l : List (Int × α)} {z : Nat}, (∀ j (h : j < l.length), j < z → ¬ (1 ≤ at_ ∧ at_ ≤ c l[j].2)) → leastQ c at_ l = leastQ c at_ (l.drop z)
  | l, 0, _ => rfl
  | [], z + 1, _ => rfl
  | p :: l, z + 1, h => by
    have h0 := h 0 (by simp) (by omega)
    simp only [List.getElem_cons_zero] at h0
    rw [List.drop_succ_cons, ← leastQ_drop (l := l) (z := z) fun j hj hz => h (j + 1) (by simpa using hj) (by omega)]
    exact if_neg h0
theorem least_eq (h : Rel r m) (hc : TInv m c) (at_ : Int) : leastO m c at_ (srt (m.map (·.1))) = leastQ (Go.Proofs.Ytonceioajbimaaa.A.cnt r) at_ r := by
  rw [h.srt]
  have aux : ∀ l : List (Int × α), (∀ p ∈ l, aget m p.1 = some p.2) → leastO m c at_ (l.map (·.1)) = leastQ (Go.Proofs.Ytonceioajbimaaa.A.cnt r) at_ l := by
    intro l
    induction l with
    | nil => intro _; rfl
    | cons p l ih =>
      intro hp
      rw [List.map_cons, leastO_cons, hp p List.mem_cons_self, ih fun q hq => hp q (List.mem_cons_of_mem _ hq)]
      show (if 1 ≤ at_ ∧ at_ ≤ cget c p.2 then some p.2 else _) = if 1 ≤ at_ ∧ at_ ≤ Go.Proofs.Ytonceioajbimaaa.A.cnt r p.2 then some p.2 else _
      rw [hc.num, h.cnt]
  exact aux r fun p hp => by rw [← h.aget, aget_some h.nd]; exact hp
/-- Who votes for something. -/
def whoR (r : List (Int × α)) (v : α) : List Int := (r.filter fun p => decide (p.2 = v)).map (·.1)
theorem whoR_len (r : List (Int × α)) (v : α) : (whoR r v).length = Go.Proofs.Ytonceioajbimaaa.A.cnt r v := by unfold whoR cnt; rw [List.length_map]
theorem whoR_eq (h : Rel r m) {f : Int → α} (hf : ∀ p ∈ m, f p.1 = p.2) (k : α) : (srt (m.map (·.1))).filter (fun x => !decide (f x ≠ k)) = whoR r k := by
  unfold whoR
  rw [h.srt, List.filter_map]
  congr 1
  apply List.filter_congr
  intro p hp
  simp only [Function.comp, hf p (h.perm.mem_iff.1 hp)]
  by_cases e : p.2 = k <;> simp [e]
end
end Go.Proofs.Ytonceioajbimaaa.A
/-
  The document's tally.
-/
set_option maxRecDepth 100000
set_option linter.unusedSimpArgs false
set_option linter.unusedVariables false
namespace Go.Proofs.Ytonceioajbimaaa.A
open Go.RowKit Go.Maps Go.Sort Go.Shelf

theorem oneC_at (p : Int × Vt) : (int p.1 :: vtC p.2).length = 35 := by simp [vtC_len]
def oneC (p : Int × Vt) : List Abs := int p.1 :: vtC p.2
theorem oneC_len (p : Int × Vt) : (oneC p).length = 35 := oneC_at p
theorem oneC_ones (p : Int × Vt) : ones (oneC p) = true := by
  have h := vtC_ones p.2
  unfold oneC
  rw [ones_iff] at h ⊢
  intro a ha
  rcases List.mem_cons.1 ha with rfl | ha
  · rfl
  · exact h a ha
theorem one_part (p : Int × Vt) : part (oneC p) 1 34 = vtC p.2 := by
  unfold part oneC
  rw [List.drop_succ_cons, List.drop_zero, List.take_of_length_le (by rw [vtC_len]; omega)]
theorem one_le (p : Int × Vt) : 1 + 34 ≤ (oneC p).length := by rw [oneC_len]; omega
abbrev rowA (r : List (Int × Vt)) : Abs := .sl 35 (r.map oneC)
theorem one_fill (who : Int) (v : Vt) (place : Nat → Option (Nat × Nat)) (Z : List Abs) (hZ : Z.length = 35) (h0 : place 0 = some (0, 1)) (h1 : place 1 = some (1, 34)) : fillA place Z [(0, int who), (1, .agg (vtC v))] = some (oneC (who, v)) := by
  match Z, hZ with
  | z0 :: Z', hZ =>
    have hZ' : Z'.length = 34 := by simpa using hZ
    have hl := vtC_len v
    simp only [fillA, h0, h1]
    simp [cellsA, putL, hl, hZ', oneC]
    rw [show Nat.ble 1 35 = true from rfl, show Nat.ble 35 35 = true from rfl, List.drop_eq_nil_of_le (by omega)]
    simp
theorem aget_drop {who : Int} : ∀ {r : List (Int × Vt)} {z : Nat}, (∀ j (h : j < r.length), j < z → r[j].1 ≠ who) → aget r who = aget (r.drop z) who
  | r, 0, _ => rfl
  | [], z + 1, _ => rfl
  | p :: r, z + 1, h => by
    have h0 : p.1 ≠ who := h 0 (by simp) (by omega)
    rw [List.drop_succ_cons, ← aget_drop (r := r) (z := z) fun j hj hz => h (j + 1) (by simpa using hj) (by omega), aget_cons, if_neg h0]
theorem aget_first {r : List (Int × Vt)} {who : Int} {z : Nat} (h : ∀ j (h : j < r.length), j < z → r[j].1 ≠ who) (hz : z < r.length) (he : r[z].1 = who) : aget r who = some r[z].2 := by
  rw [aget_drop (r := r) h, List.drop_eq_getElem_cons hz, aget_cons, if_pos he]
theorem aget_no {r : List (Int × Vt)} {who : Int} {z : Nat} (h : ∀ j (h : j < r.length), j < z → r[j].1 ≠ who) (hz : r.length ≤ z) : aget r who = none := by
  rw [aget_drop (r := r) h, List.drop_eq_nil_of_le hz]
  rfl
theorem whoR_succ {r : List (Int × Vt)} {k : Vt} {i : Nat} (h : i < r.length) : whoR (r.take (i + 1)) k = whoR (r.take i) k ++ if r[i].2 = k then [r[i].1] else [] := by
  unfold whoR
  rw [List.take_succ_eq_append_getElem h, List.filter_append, List.map_append, List.filter_cons]
  by_cases e : r[i].2 = k <;> simp [e]
theorem fold_succ {r : List (Int × Vt)} {who : Int} {v : Vt} {i : Nat} {s : List (Int × Vt) × Bool} (hs : (r.take i).foldl (cStep who v) ([], false) = s) (h : i < r.length) : (r.take (i + 1)).foldl (cStep who v) ([], false) = cStep who v s r[i] := by
  rw [List.take_succ_eq_append_getElem h, List.foldl_append, hs]
  rfl
theorem fold_len {who : Int} {v : Vt} : ∀ (l : List (Int × Vt)) (s : List (Int × Vt) × Bool), (l.foldl (cStep who v) s).1.length ≤ s.1.length + 2 * l.length
  | [], s => by simp
  | x :: l, s => by
    have h1 := fold_len (who := who) (v := v) l (cStep who v s x)
    have h2 := cStep_len (who := who) (v := v) s x
    rw [List.foldl_cons, List.length_cons]
    omega
section
variable {r : List (Int × Vt)} {who at_ : Int} {v k : Vt}
theorem rof_s (hn : r.length ≤ 1000) : Spec Try.prog 7 [rowA r, int who] [] (fun _ : Unit => []) (fun _ => .tup [.agg (vtC (gOf r who)), boo (aget r who).isSome]) := by
  refine spec_of Try.func7 rfl Try.ntmps7 rfl fun G w => ?_
  refine SC.seq (SC.region ?_)
  refine SL.eff (Eff.alloc tabOk rfl) rfl rfl ?_
  rintro _ _ ⟨b4, rfl, rfl⟩
  refine SL.val (Val.assign rfl) rfl rfl ?_
  refine SL.nil (SE.seq ?_)
  refine SC.seq ?_
  refine SC.seq (SC.region ?_)
  refine SL.val (Val.move rfl) rfl rfl ?_
  first
    | refine SL.val (Val.lenSl rfl Try.underlying31 (List.length_map _)) rfl rfl ?_
    | refine SL.val (Val.lenOwn rfl (by repeat first|assumption|exact m0|apply m1) Try.underlying31 (List.length_map _)) rfl rfl ?_
    | refine SL.val (Val.lenNil rfl Try.underlying31) rfl rfl ?_
  refine SL.val (Val.move rfl) rfl rfl ?_
  refine SL.nil (SE.seq ?_)
  refine SC.block ?_
  refine SC.loop (ι := Nat) (fun z => [.blk b4 29 vtZ]) (fun z => [(0, rowA r), (1, int who), (4, ptr b4), (8, rowA r), (9, int (r.length : Nat)), (10, int (z : Nat))]) (fun z => z ≤ r.length ∧ ∀ j (h : j < r.length), j < z → r[j].1 ≠ who) (fun z => r.length - z) (0) (⟨Nat.zero_le _, fun j h hj => by omega⟩) (by exact ⟨rfl, rfl, rfl, rfl, rfl, rfl, trivial⟩) (by repeat first|exact s0 _|exact s1 _|apply s2|apply s3) ?_
  intro z hz
  refine SC.seq (SC.region ?_)
  refine SL.val (Val.ltI rfl rfl) rfl rfl ?_
  refine SL.nil (SE.seq ?_)
  refine SC.seq ?_
  refine SC.condP rfl ?_ ?_
  rotate_left
  · intro hc11
    refine SC.exit ?_
    refine SE.then_ (by intro h; cases h) ?_
    refine SE.then_ (by intro h; cases h) ?_
    refine SE.exit ?_
    refine SE.seq ?_
    refine SC.seq (SC.region ?_)
    refine SL.val (Val.to (C := .agg vtZ) (Val.buildS tabOk rfl rfl rfl rfl) rfl) rfl rfl ?_
    refine SL.eff (Eff.store (L' := vtC vt0) tabOk rfl rfl rfl (by repeat first|assumption|exact Upd.here|apply Upd.there) (by exact vtC_len _) (Nat.le_of_ble_eq_true (by rfl)) (by exact vtC_ones _) (putL_whole (by exact vtC_len _))) rfl rfl ?_
    rintro _ _ ⟨rfl, rfl⟩
    refine SL.val (Val.assign rfl) rfl rfl ?_
    refine SL.nil (SE.seq ?_)
    refine SC.ret ?_
    have he := aget_no hz.2 (by omega)
    refine SE.fin (rs := [.cell 4 29, .tmp 5]) rfl (RV.cell rfl (RV.cellA tabOk rfl rfl (by first|(apply Or.inl;(repeat first|assumption|exact m0|apply m1);done)|(apply Or.inr;(repeat first|assumption|exact m0|apply m1);done)) (vtC_len _)) (RV.tmp rfl RV.nil)) (()) (by repeat first|exact s0 _|exact s1 _|apply s2|apply s3) (by simp [It.rids]) ?_
    unfold gOf
    rw [he]
    rfl
  intro hc11
  have hlt : z < r.length := by omega
  refine SC.skip ?_
  refine SE.seq ?_
  refine SC.seq ?_
  refine SC.block ?_
  refine SC.seq (SC.region ?_)
  refine SL.val (Val.indexSl tabOk Try.underlying31 rfl rfl rfl rfl (at_map (by omega)) rfl rfl) rfl rfl ?_
  refine SL.val (Val.loadAR tabOk rfl rfl rfl (oneC_len _)) rfl rfl ?_
  refine SL.eff (Eff.alloc tabOk rfl) rfl rfl ?_
  rintro _ _ ⟨b7, rfl, rfl⟩
  refine SL.eff (Eff.store (L' := oneC (r[z]'hlt)) tabOk rfl rfl rfl (by repeat first|assumption|exact Upd.here|apply Upd.there) (by exact oneC_len _) (Nat.le_of_ble_eq_true (by rfl)) (by exact oneC_ones _) (putL_whole (by exact oneC_len _))) rfl rfl ?_
  rintro _ _ ⟨rfl, rfl⟩
  refine SL.nil (SE.seq ?_)
  refine SC.seq (SC.region ?_)
  refine SL.val (Val.fieldAddr tabOk rfl rfl rfl rfl rfl) rfl rfl ?_
  refine SL.val (Val.load1 tabOk rfl rfl (by first|(apply Or.inl;(repeat first|assumption|exact m0|apply m1);done)|(apply Or.inr;(repeat first|assumption|exact m0|apply m1);done)) List.not_mem_nil (by rfl)) rfl rfl ?_
  refine SL.val (Val.move rfl) rfl rfl ?_
  refine SL.val (Val.eqI rfl rfl) rfl rfl ?_
  refine SL.nil (SE.seq ?_)
  refine SC.condP rfl ?_ ?_
  rotate_left
  · intro hc17
    refine SC.skip ?_
    refine SE.inBlock ?_
    refine SE.seq ?_
    refine SC.region ?_
    first
      | refine SL.val (Val.addI rfl rfl (by simp only [InR, lo, hi]; omega)) rfl rfl ?_
      | refine SL.val (Val.addW rfl rfl) rfl rfl ?_
    refine SL.val (Val.move rfl) rfl rfl ?_
    refine SL.nil ?_
    refine SE.round (z + 1) (by first | omega | (dsimp only; omega)) (⟨by omega, fun j h hj => by
          rcases Nat.lt_or_ge j z with h1 | h1
          · exact hz.2 j h h1
          · obtain rfl : j = z := by omega
            exact hc17⟩) (by exact ⟨rfl, rfl, rfl, rfl, rfl, rfl, trivial⟩) (by repeat first|exact s0 _|exact s1 _|apply s2|apply s3)
  intro hc17
  refine SC.seq (SC.region ?_)
  refine SL.val (Val.fieldAddr tabOk rfl rfl rfl rfl rfl) rfl rfl ?_
  refine SL.val (Val.to (C := .agg (vtC (r[z]'hlt).2)) (Val.loadP tabOk rfl rfl rfl (by first|(apply Or.inl;(repeat first|assumption|exact m0|apply m1);done)|(apply Or.inr;(repeat first|assumption|exact m0|apply m1);done)) List.not_mem_nil (one_le _)) (congrArg Abs.agg (one_part _))) rfl rfl ?_
  refine SL.eff (Eff.store (L' := vtC (r[z]'hlt).2) tabOk rfl rfl rfl (by repeat first|assumption|exact Upd.here|apply Upd.there) (by exact vtC_len _) (Nat.le_of_ble_eq_true (by rfl)) (by exact vtC_ones _) (putL_whole (by exact vtC_len _))) rfl rfl ?_
  rintro _ _ ⟨rfl, rfl⟩
  refine SL.val (Val.assign rfl) rfl rfl ?_
  refine SL.nil (SE.seq ?_)
  refine SC.ret ?_
  refine SE.ret ?_
  refine SE.then_ (by intro h; cases h) ?_
  refine SE.then_ (by intro h; cases h) ?_
  refine SE.ret ?_
  refine SE.then_ (by intro h; cases h) ?_
  have he := aget_first hz.2 hlt hc17
  refine SE.fin (rs := [.cell 4 29, .tmp 5]) rfl (RV.cell rfl (RV.cellA tabOk rfl rfl (by first|(apply Or.inl;(repeat first|assumption|exact m0|apply m1);done)|(apply Or.inr;(repeat first|assumption|exact m0|apply m1);done)) (vtC_len _)) (RV.tmp rfl RV.nil)) (()) (by repeat first|exact s0 _|exact s1 _|apply s2|apply s3) (by simp [It.rids]) ?_
  unfold gOf
  rw [he]
  rfl
theorem rwho_s (hk : vtOk k) (hok : ∀ p ∈ r, vtOk p.2) (hn : r.length ≤ 1000) : Spec Try.prog 16 [rowA r, .agg (vtC k)] [] (fun u : Value => [own 3 1 u ((whoR r k).map fun x => [int x])]) (fun u => .v u) := by
  refine spec_of Try.func16 rfl Try.ntmps16 rfl fun G w => ?_
  refine SC.seq (SC.region ?_)
  refine SL.eff (Eff.boxA (cs := vtC k) rfl) rfl rfl ?_
  rintro _ _ ⟨b3, rfl, rfl⟩
  refine SL.val (Val.assign rfl) rfl rfl ?_
  refine SL.nil (SE.seq ?_)
  refine SC.seq (SC.region ?_)
  refine SL.val (Val.assign rfl) rfl rfl ?_
  refine SL.nil (SE.seq ?_)
  refine SC.seq ?_
  refine SC.seq (SC.region ?_)
  refine SL.val (Val.move rfl) rfl rfl ?_
  first
    | refine SL.val (Val.lenSl rfl Try.underlying31 (List.length_map _)) rfl rfl ?_
    | refine SL.val (Val.lenOwn rfl (by repeat first|assumption|exact m0|apply m1) Try.underlying31 (List.length_map _)) rfl rfl ?_
    | refine SL.val (Val.lenNil rfl Try.underlying31) rfl rfl ?_
  refine SL.val (Val.move rfl) rfl rfl ?_
  refine SL.nil (SE.seq ?_)
  refine SC.block ?_
  refine SC.own0 3 1 ?_
  refine SC.loop (ι := List Int × Nat × Value) (fun z => [own 3 1 z.2.2 ((z.1).map fun x => [int x]), .blk b3 29 (vtC k)]) (fun z => [(0, rowA r), (3, ptr b3), (5, .v z.2.2), (8, rowA r), (9, int (r.length : Nat)), (10, int (z.2.1 : Nat))]) (fun z => z.2.1 ≤ r.length ∧ z.1 = whoR (r.take z.2.1) k) (fun z => r.length - z.2.1) ([], 0, .slice none 0 0) (⟨Nat.zero_le _, rfl⟩) (by exact ⟨rfl, rfl, rfl, rfl, rfl, rfl, trivial⟩) (by repeat first|exact s0 _|exact s1 _|apply s2|apply s3) ?_
  intro z hz
  refine SC.seq (SC.region ?_)
  refine SL.val (Val.ltI rfl rfl) rfl rfl ?_
  refine SL.nil (SE.seq ?_)
  refine SC.seq ?_
  refine SC.condP rfl ?_ ?_
  rotate_left
  · intro hc11
    refine SC.exit ?_
    refine SE.then_ (by intro h; cases h) ?_
    refine SE.then_ (by intro h; cases h) ?_
    refine SE.exit ?_
    refine SE.seq ?_
    refine SC.seq (SC.region ?_)
    refine SL.val (Val.move rfl) rfl rfl ?_
    refine SL.val (Val.assign rfl) rfl rfl ?_
    refine SL.nil (SE.seq ?_)
    refine SC.ret ?_
    have he : whoR r k = z.1 := by rw [hz.2, List.take_of_length_le (by omega)]
    refine SE.fin (rs := [.tmp 4]) rfl (RV.tmp rfl RV.nil) (z.2.2) (by rw [he]; (try simp only [List.map_append, List.map_cons, List.map_nil]); repeat (first | exact List.nil_sublist _ | exact List.Sublist.refl _ | apply List.Sublist.cons_cons | apply List.Sublist.cons)) (by simp [It.rids]) ?_
    exact rfl
  intro hc11
  have hlt : z.2.1 < r.length := by omega
  have hzl : z.1.length ≤ 1000 := by rw [hz.2, whoR_len]; exact Nat.le_trans (cnt_le _ _) (by rw [List.length_take]; omega)
  refine SC.skip ?_
  refine SE.seq ?_
  refine SC.seq ?_
  refine SC.block ?_
  refine SC.seq (SC.region ?_)
  refine SL.val (Val.indexSl tabOk Try.underlying31 rfl rfl rfl rfl (at_map (by omega)) rfl rfl) rfl rfl ?_
  refine SL.val (Val.loadAR tabOk rfl rfl rfl (oneC_len _)) rfl rfl ?_
  refine SL.eff (Eff.alloc tabOk rfl) rfl rfl ?_
  rintro _ _ ⟨b7, rfl, rfl⟩
  refine SL.eff (Eff.store (L' := oneC (r[z.2.1]'hlt)) tabOk rfl rfl rfl (by repeat first|assumption|exact Upd.here|apply Upd.there) (by exact oneC_len _) (Nat.le_of_ble_eq_true (by rfl)) (by exact oneC_ones _) (putL_whole (by exact oneC_len _))) rfl rfl ?_
  rintro _ _ ⟨rfl, rfl⟩
  refine SL.nil (SE.seq ?_)
  refine SC.seq (SC.region ?_)
  refine SL.val (Val.fieldAddr tabOk rfl rfl rfl rfl rfl) rfl rfl ?_
  refine SL.val (Val.to (C := .agg (vtC (r[z.2.1]'hlt).2)) (Val.loadP tabOk rfl rfl rfl (by first|(apply Or.inl;(repeat first|assumption|exact m0|apply m1);done)|(apply Or.inr;(repeat first|assumption|exact m0|apply m1);done)) List.not_mem_nil (one_le _)) (congrArg Abs.agg (one_part _))) rfl rfl ?_
  refine SL.val (Val.loadA tabOk rfl rfl rfl (by first|(apply Or.inl;(repeat first|assumption|exact m0|apply m1);done)|(apply Or.inr;(repeat first|assumption|exact m0|apply m1);done)) List.not_mem_nil (vtC_len _)) rfl rfl ?_
  refine SL.val (Val.eqA rfl rfl (vt_plains _) (vt_plains _) (by kernel_rfl) (eqVt (hok _ (List.getElem_mem hlt)) hk)) rfl rfl ?_
  refine SL.nil (SE.seq ?_)
  refine SC.condP rfl ?_ ?_
  rotate_left
  · intro hc17
    refine SC.skip ?_
    refine SE.inBlock ?_
    refine SE.seq ?_
    refine SC.region ?_
    first
      | refine SL.val (Val.addI rfl rfl (by simp only [InR, lo, hi]; omega)) rfl rfl ?_
      | refine SL.val (Val.addW rfl rfl) rfl rfl ?_
    refine SL.val (Val.move rfl) rfl rfl ?_
    refine SL.nil ?_
    refine SE.round (z.1, z.2.1 + 1, z.2.2) (by first | omega | (dsimp only; omega)) (⟨hlt, by dsimp only; rw [hz.2, whoR_succ hlt, if_neg hc17, List.append_nil]⟩) (by exact ⟨rfl, rfl, rfl, rfl, rfl, rfl, trivial⟩) (by repeat first|exact s0 _|exact s1 _|apply s2|apply s3)
  intro hc17
  refine SC.region ?_
  refine SL.val (Val.move rfl) rfl rfl ?_
  refine SL.val (Val.fieldAddr tabOk rfl rfl rfl rfl rfl) rfl rfl ?_
  refine SL.val (Val.load1 tabOk rfl rfl (by first|(apply Or.inl;(repeat first|assumption|exact m0|apply m1);done)|(apply Or.inr;(repeat first|assumption|exact m0|apply m1);done)) List.not_mem_nil (by rfl)) rfl rfl ?_
  refine SL.eff (Eff.buildSl tabOk Try.underlying41 rfl rfl rfl rfl rfl rfl rfl) rfl rfl ?_
  rintro _ _ ⟨rfl, rfl⟩
  refine SL.eff (Eff.append tabOk [_] Try.underlying41 rfl rfl rfl rfl rfl rfl (by intro c hc; rw [List.mem_singleton] at hc; subst hc; rfl) (by unfold maxLen; simp only [List.length_append, List.length_map, List.length_cons, List.length_nil]; omega) (by rw [show Try.prog.bytesOf 3 = 8 by kernel_rfl]; simp only [List.length_append, List.length_map, List.length_cons, List.length_nil]; omega)) rfl rfl ?_
  rintro _ _ ⟨r22, rfl, rfl⟩
  refine SL.val (Val.assign rfl) rfl rfl ?_
  refine SL.nil ?_
  refine SE.inBlock ?_
  refine SE.seq ?_
  refine SC.region ?_
  first
    | refine SL.val (Val.addI rfl rfl (by simp only [InR, lo, hi]; omega)) rfl rfl ?_
    | refine SL.val (Val.addW rfl rfl) rfl rfl ?_
  refine SL.val (Val.move rfl) rfl rfl ?_
  refine SL.nil ?_
  refine SE.round (z.1 ++ [(r[z.2.1]'hlt).1], z.2.1 + 1, r22) (by first | omega | (dsimp only; omega)) (⟨hlt, by dsimp only; rw [hz.2, whoR_succ hlt, if_pos hc17]⟩) (by exact ⟨rfl, rfl, rfl, rfl, rfl, rfl, trivial⟩) (by (try simp only [List.map_append, List.map_cons, List.map_nil]); repeat (first | exact List.nil_sublist _ | exact List.Sublist.refl _ | apply List.Sublist.cons_cons | apply List.Sublist.cons))
set_option maxHeartbeats 2000000 in
theorem rchange_s (hn : r.length ≤ 1000) : Spec Try.prog 9 [rowA r, int who, .agg (vtC v)] [] (fun u : Value => [own 71 35 u ((chgR r who v).map oneC)]) (fun u => .v u) := by
  refine spec_of Try.func9 rfl Try.ntmps9 rfl fun G w => ?_
  refine SC.seq (SC.region ?_)
  refine SL.eff (Eff.boxA (cs := vtC v) rfl) rfl rfl ?_
  rintro _ _ ⟨b5, rfl, rfl⟩
  refine SL.val (Val.assign rfl) rfl rfl ?_
  refine SL.nil (SE.seq ?_)
  refine SC.seq (SC.region ?_)
  refine SL.val (Val.assign rfl) rfl rfl ?_
  refine SL.nil (SE.seq ?_)
  refine SC.seq (SC.region ?_)
  refine SL.val (Val.assign rfl) rfl rfl ?_
  refine SL.nil (SE.seq ?_)
  refine SC.seq ?_
  refine SC.seq (SC.region ?_)
  refine SL.val (Val.move rfl) rfl rfl ?_
  first
    | refine SL.val (Val.lenSl rfl Try.underlying31 (List.length_map _)) rfl rfl ?_
    | refine SL.val (Val.lenOwn rfl (by repeat first|assumption|exact m0|apply m1) Try.underlying31 (List.length_map _)) rfl rfl ?_
    | refine SL.val (Val.lenNil rfl Try.underlying31) rfl rfl ?_
  refine SL.val (Val.move rfl) rfl rfl ?_
  refine SL.nil (SE.seq ?_)
  refine SC.block ?_
  refine SC.own0 71 35 ?_
  refine SC.loop (ι := List (Int × Vt) × Bool × Nat × Value) (fun z => [own 71 35 z.2.2.2 ((z.1).map oneC), .blk b5 29 (vtC v)]) (fun z => [(0, rowA r), (1, int who), (5, ptr b5), (7, .v z.2.2.2), (8, boo z.2.1), (11, rowA r), (12, int (r.length : Nat)), (13, int (z.2.2.1 : Nat))]) (fun z => z.2.2.1 ≤ r.length ∧ (r.take z.2.2.1).foldl (cStep who v) ([], false) = (z.1, z.2.1)) (fun z => r.length - z.2.2.1) ([], false, 0, .slice none 0 0) (⟨Nat.zero_le _, rfl⟩) (by exact ⟨rfl, rfl, rfl, rfl, rfl, rfl, rfl, rfl, trivial⟩) (by repeat first|exact s0 _|exact s1 _|apply s2|apply s3) ?_
  intro z hz
  refine SC.seq (SC.region ?_)
  refine SL.val (Val.ltI rfl rfl) rfl rfl ?_
  refine SL.nil (SE.seq ?_)
  refine SC.seq ?_
  refine SC.condP rfl ?_ ?_
  rotate_left
  · intro hc14
    have hzl : z.1.length ≤ 2000 := by
      have h1 := fold_len (who := who) (v := v) (r.take z.2.2.1) ([], false)
      rw [hz.2, List.length_take] at h1
      simp only [List.length_nil] at h1
      omega
    refine SC.exit ?_
    refine SE.then_ (by intro h; cases h) ?_
    refine SE.then_ (by intro h; cases h) ?_
    refine SE.exit ?_
    refine SE.seq ?_
    refine SC.seq ?_
    refine SC.seq (SC.region ?_)
    refine SL.val (Val.move rfl) rfl rfl ?_
    refine SL.val (Val.notB rfl) rfl rfl ?_
    refine SL.nil (SE.seq ?_)
    refine SC.cond rfl ?_ ?_
    rotate_left
    · intro hc41
      refine SC.skip ?_
      refine SE.seq ?_
      refine SC.seq (SC.region ?_)
      refine SL.val (Val.move rfl) rfl rfl ?_
      refine SL.val (Val.assign rfl) rfl rfl ?_
      refine SL.nil (SE.seq ?_)
      refine SC.ret ?_
      have he : chgR r who v = z.1 := by
        unfold chgR
        rw [← List.take_of_length_le (l := r) (i := z.2.2.1) (by omega), hz.2]
        unfold cFin
        simp_all
      refine SE.fin (rs := [.tmp 6]) rfl (RV.tmp rfl RV.nil) (z.2.2.2) (by rw [he]; (try simp only [List.map_append, List.map_cons, List.map_nil]); repeat (first | exact List.nil_sublist _ | exact List.Sublist.refl _ | apply List.Sublist.cons_cons | apply List.Sublist.cons)) (by simp [It.rids]) ?_
      exact rfl
    intro hc41
    refine SC.region ?_
    refine SL.val (Val.move rfl) rfl rfl ?_
    refine SL.val (Val.move rfl) rfl rfl ?_
    refine SL.val (Val.loadA tabOk rfl rfl rfl (by first|(apply Or.inl;(repeat first|assumption|exact m0|apply m1);done)|(apply Or.inr;(repeat first|assumption|exact m0|apply m1);done)) List.not_mem_nil (vtC_len _)) rfl rfl ?_
    refine SL.val (Val.buildS (L := oneC (who, v)) tabOk rfl rfl rfl (one_fill _ _ _ _ rfl rfl rfl)) rfl rfl ?_
    refine SL.eff (Eff.buildSl tabOk Try.underlying31 rfl rfl rfl (elems_one (oneC_len _)) rfl rfl rfl) rfl rfl ?_
    rintro _ _ ⟨rfl, rfl⟩
    refine SL.eff (Eff.append tabOk [] Try.underlying31 rfl rfl rfl rfl rfl rfl (by intro c hc; rw [List.mem_singleton] at hc; subst hc; exact oneC_ones _) (by unfold maxLen; simp only [List.length_append, List.length_map, List.length_cons, List.length_nil]; omega) (by rw [show Try.prog.bytesOf 71 = 56 by kernel_rfl]; simp only [List.length_append, List.length_map, List.length_cons, List.length_nil]; omega)) rfl rfl ?_
    rintro _ _ ⟨r47, rfl, rfl⟩
    refine SL.val (Val.assign rfl) rfl rfl ?_
    refine SL.nil (SE.seq ?_)
    refine SC.seq (SC.region ?_)
    refine SL.val (Val.move rfl) rfl rfl ?_
    refine SL.val (Val.assign rfl) rfl rfl ?_
    refine SL.nil (SE.seq ?_)
    refine SC.ret ?_
    have he : chgR r who v = z.1 ++ [(who, v)] := by
      unfold chgR
      rw [← List.take_of_length_le (l := r) (i := z.2.2.1) (by omega), hz.2]
      unfold cFin
      simp_all
    refine SE.fin (rs := [.tmp 6]) rfl (RV.tmp rfl RV.nil) (r47) (by rw [he]; (try simp only [List.map_append, List.map_cons, List.map_nil]); repeat (first | exact List.nil_sublist _ | exact List.Sublist.refl _ | apply List.Sublist.cons_cons | apply List.Sublist.cons)) (by simp [It.rids]) ?_
    exact rfl
  intro hc14
  have hlt : z.2.2.1 < r.length := by omega
  have hzl : z.1.length ≤ 2000 := by
    have h1 := fold_len (who := who) (v := v) (r.take z.2.2.1) ([], false)
    rw [hz.2, List.length_take] at h1
    simp only [List.length_nil] at h1
    omega
  refine SC.skip ?_
  refine SE.seq ?_
  refine SC.seq ?_
  refine SC.block ?_
  refine SC.seq (SC.region ?_)
  refine SL.val (Val.indexSl tabOk Try.underlying31 rfl rfl rfl rfl (at_map (by omega)) rfl rfl) rfl rfl ?_
  refine SL.val (Val.loadAR tabOk rfl rfl rfl (oneC_len _)) rfl rfl ?_
  refine SL.eff (Eff.alloc tabOk rfl) rfl rfl ?_
  rintro _ _ ⟨b10, rfl, rfl⟩
  refine SL.eff (Eff.store (L' := oneC (r[z.2.2.1]'hlt)) tabOk rfl rfl rfl (by repeat first|assumption|exact Upd.here|apply Upd.there) (by exact oneC_len _) (Nat.le_of_ble_eq_true (by rfl)) (by exact oneC_ones _) (putL_whole (by exact oneC_len _))) rfl rfl ?_
  rintro _ _ ⟨rfl, rfl⟩
  refine SL.nil (SE.seq ?_)
  refine SC.seq ?_
  refine SC.seq (SC.region ?_)
  refine SL.val (Val.move rfl) rfl rfl ?_
  refine SL.val (Val.notB rfl) rfl rfl ?_
  refine SL.val (Val.move rfl) rfl rfl ?_
  refine SL.both (t := 19) rfl ?_ ?_
  rotate_left
  · intro hc19
    iterate 4 refine SL.skip rfl rfl ?_
    refine SL.val (Val.pickF rfl rfl) rfl rfl ?_
    refine SL.nil (SE.seq ?_)
    refine SC.condF rfl ?_
    refine SC.skip ?_
    refine SE.seq ?_
    refine SC.seq (SC.region ?_)
    refine SL.val (Val.fieldAddr tabOk rfl rfl rfl rfl rfl) rfl rfl ?_
    refine SL.val (Val.load1 tabOk rfl rfl (by first|(apply Or.inl;(repeat first|assumption|exact m0|apply m1);done)|(apply Or.inr;(repeat first|assumption|exact m0|apply m1);done)) List.not_mem_nil (by rfl)) rfl rfl ?_
    refine SL.val (Val.move rfl) rfl rfl ?_
    refine SL.val (Val.neI rfl rfl) rfl rfl ?_
    refine SL.nil (SE.seq ?_)
    refine SC.condP rfl ?_ ?_
    rotate_left
    · intro hc34
      refine SC.skip ?_
      refine SE.inBlock ?_
      refine SE.seq ?_
      refine SC.region ?_
      first
        | refine SL.val (Val.addI rfl rfl (by simp only [InR, lo, hi]; omega)) rfl rfl ?_
        | refine SL.val (Val.addW rfl rfl) rfl rfl ?_
      refine SL.val (Val.move rfl) rfl rfl ?_
      refine SL.nil ?_
      refine SE.round (z.1, z.2.1, z.2.2.1 + 1, z.2.2.2) (by first | omega | (dsimp only; omega)) (⟨hlt, by dsimp only; rw [fold_succ hz.2 hlt]; unfold cStep; dsimp only; split <;> split <;> first | (simp_all; done) | (exfalso; simp_all; omega)⟩) (by exact ⟨rfl, rfl, rfl, rfl, rfl, rfl, rfl, rfl, trivial⟩) (by (try simp only [List.map_append, List.map_cons, List.map_nil]); repeat (first | exact List.nil_sublist _ | exact List.Sublist.refl _ | apply List.Sublist.cons_cons | apply List.Sublist.cons))
    intro hc34
    refine SC.region ?_
    refine SL.val (Val.move rfl) rfl rfl ?_
    refine SL.val (Val.loadA tabOk rfl rfl rfl (by first|(apply Or.inl;(repeat first|assumption|exact m0|apply m1);done)|(apply Or.inr;(repeat first|assumption|exact m0|apply m1);done)) List.not_mem_nil (oneC_len _)) rfl rfl ?_
    refine SL.eff (Eff.buildSl tabOk Try.underlying31 rfl rfl rfl (elems_one (oneC_len _)) rfl rfl rfl) rfl rfl ?_
    rintro _ _ ⟨rfl, rfl⟩
    refine SL.eff (Eff.append tabOk [_] Try.underlying31 rfl rfl rfl rfl rfl rfl (by intro c hc; rw [List.mem_singleton] at hc; subst hc; exact oneC_ones _) (by unfold maxLen; simp only [List.length_append, List.length_map, List.length_cons, List.length_nil]; omega) (by rw [show Try.prog.bytesOf 71 = 56 by kernel_rfl]; simp only [List.length_append, List.length_map, List.length_cons, List.length_nil]; omega)) rfl rfl ?_
    rintro _ _ ⟨r38, rfl, rfl⟩
    refine SL.val (Val.assign rfl) rfl rfl ?_
    refine SL.nil ?_
    refine SE.inBlock ?_
    refine SE.seq ?_
    refine SC.region ?_
    first
      | refine SL.val (Val.addI rfl rfl (by simp only [InR, lo, hi]; omega)) rfl rfl ?_
      | refine SL.val (Val.addW rfl rfl) rfl rfl ?_
    refine SL.val (Val.move rfl) rfl rfl ?_
    refine SL.nil ?_
    refine SE.round (z.1 ++ [(r[z.2.2.1]'hlt)], z.2.1, z.2.2.1 + 1, r38) (by first | omega | (dsimp only; omega)) (⟨hlt, by dsimp only; rw [fold_succ hz.2 hlt]; unfold cStep; dsimp only; split <;> split <;> first | (simp_all; done) | (exfalso; simp_all; omega)⟩) (by exact ⟨rfl, rfl, rfl, rfl, rfl, rfl, rfl, rfl, trivial⟩) (by (try simp only [List.map_append, List.map_cons, List.map_nil]); repeat (first | exact List.nil_sublist _ | exact List.Sublist.refl _ | apply List.Sublist.cons_cons | apply List.Sublist.cons))
  intro hc19
  refine SL.val (Val.fieldAddr tabOk rfl rfl rfl rfl rfl) rfl rfl ?_
  refine SL.val (Val.load1 tabOk rfl rfl (by first|(apply Or.inl;(repeat first|assumption|exact m0|apply m1);done)|(apply Or.inr;(repeat first|assumption|exact m0|apply m1);done)) List.not_mem_nil (by rfl)) rfl rfl ?_
  refine SL.val (Val.move rfl) rfl rfl ?_
  refine SL.val (Val.geI rfl rfl) rfl rfl ?_
  refine SL.val (Val.pickT rfl rfl) rfl rfl ?_
  refine SL.nil (SE.seq ?_)
  refine SC.condP rfl ?_ ?_
  rotate_left
  · intro hc24
    refine SC.skip ?_
    refine SE.seq ?_
    refine SC.seq (SC.region ?_)
    refine SL.val (Val.fieldAddr tabOk rfl rfl rfl rfl rfl) rfl rfl ?_
    refine SL.val (Val.load1 tabOk rfl rfl (by first|(apply Or.inl;(repeat first|assumption|exact m0|apply m1);done)|(apply Or.inr;(repeat first|assumption|exact m0|apply m1);done)) List.not_mem_nil (by rfl)) rfl rfl ?_
    refine SL.val (Val.move rfl) rfl rfl ?_
    refine SL.val (Val.neI rfl rfl) rfl rfl ?_
    refine SL.nil (SE.seq ?_)
    refine SC.condP rfl ?_ ?_
    rotate_left
    · intro hc34
      refine SC.skip ?_
      refine SE.inBlock ?_
      refine SE.seq ?_
      refine SC.region ?_
      first
        | refine SL.val (Val.addI rfl rfl (by simp only [InR, lo, hi]; omega)) rfl rfl ?_
        | refine SL.val (Val.addW rfl rfl) rfl rfl ?_
      refine SL.val (Val.move rfl) rfl rfl ?_
      refine SL.nil ?_
      refine SE.round (z.1, z.2.1, z.2.2.1 + 1, z.2.2.2) (by first | omega | (dsimp only; omega)) (⟨hlt, by dsimp only; rw [fold_succ hz.2 hlt]; unfold cStep; dsimp only; split <;> split <;> first | (simp_all; done) | (exfalso; simp_all; omega)⟩) (by exact ⟨rfl, rfl, rfl, rfl, rfl, rfl, rfl, rfl, trivial⟩) (by (try simp only [List.map_append, List.map_cons, List.map_nil]); repeat (first | exact List.nil_sublist _ | exact List.Sublist.refl _ | apply List.Sublist.cons_cons | apply List.Sublist.cons))
    intro hc34
    refine SC.region ?_
    refine SL.val (Val.move rfl) rfl rfl ?_
    refine SL.val (Val.loadA tabOk rfl rfl rfl (by first|(apply Or.inl;(repeat first|assumption|exact m0|apply m1);done)|(apply Or.inr;(repeat first|assumption|exact m0|apply m1);done)) List.not_mem_nil (oneC_len _)) rfl rfl ?_
    refine SL.eff (Eff.buildSl tabOk Try.underlying31 rfl rfl rfl (elems_one (oneC_len _)) rfl rfl rfl) rfl rfl ?_
    rintro _ _ ⟨rfl, rfl⟩
    refine SL.eff (Eff.append tabOk [_] Try.underlying31 rfl rfl rfl rfl rfl rfl (by intro c hc; rw [List.mem_singleton] at hc; subst hc; exact oneC_ones _) (by unfold maxLen; simp only [List.length_append, List.length_map, List.length_cons, List.length_nil]; omega) (by rw [show Try.prog.bytesOf 71 = 56 by kernel_rfl]; simp only [List.length_append, List.length_map, List.length_cons, List.length_nil]; omega)) rfl rfl ?_
    rintro _ _ ⟨r38, rfl, rfl⟩
    refine SL.val (Val.assign rfl) rfl rfl ?_
    refine SL.nil ?_
    refine SE.inBlock ?_
    refine SE.seq ?_
    refine SC.region ?_
    first
      | refine SL.val (Val.addI rfl rfl (by simp only [InR, lo, hi]; omega)) rfl rfl ?_
      | refine SL.val (Val.addW rfl rfl) rfl rfl ?_
    refine SL.val (Val.move rfl) rfl rfl ?_
    refine SL.nil ?_
    refine SE.round (z.1 ++ [(r[z.2.2.1]'hlt)], z.2.1, z.2.2.1 + 1, r38) (by first | omega | (dsimp only; omega)) (⟨hlt, by dsimp only; rw [fold_succ hz.2 hlt]; unfold cStep; dsimp only; split <;> split <;> first | (simp_all; done) | (exfalso; simp_all; omega)⟩) (by exact ⟨rfl, rfl, rfl, rfl, rfl, rfl, rfl, rfl, trivial⟩) (by (try simp only [List.map_append, List.map_cons, List.map_nil]); repeat (first | exact List.nil_sublist _ | exact List.Sublist.refl _ | apply List.Sublist.cons_cons | apply List.Sublist.cons))
  intro hc24
  refine SC.seq (SC.region ?_)
  refine SL.val (Val.move rfl) rfl rfl ?_
  refine SL.val (Val.move rfl) rfl rfl ?_
  refine SL.val (Val.loadA tabOk rfl rfl rfl (by first|(apply Or.inl;(repeat first|assumption|exact m0|apply m1);done)|(apply Or.inr;(repeat first|assumption|exact m0|apply m1);done)) List.not_mem_nil (vtC_len _)) rfl rfl ?_
  refine SL.val (Val.buildS (L := oneC (who, v)) tabOk rfl rfl rfl (one_fill _ _ _ _ rfl rfl rfl)) rfl rfl ?_
  refine SL.eff (Eff.buildSl tabOk Try.underlying31 rfl rfl rfl (elems_one (oneC_len _)) rfl rfl rfl) rfl rfl ?_
  rintro _ _ ⟨rfl, rfl⟩
  refine SL.eff (Eff.append tabOk [_] Try.underlying31 rfl rfl rfl rfl rfl rfl (by intro c hc; rw [List.mem_singleton] at hc; subst hc; exact oneC_ones _) (by unfold maxLen; simp only [List.length_append, List.length_map, List.length_cons, List.length_nil]; omega) (by rw [show Try.prog.bytesOf 71 = 56 by kernel_rfl]; simp only [List.length_append, List.length_map, List.length_cons, List.length_nil]; omega)) rfl rfl ?_
  rintro _ _ ⟨r30, rfl, rfl⟩
  refine SL.val (Val.assign rfl) rfl rfl ?_
  refine SL.nil (SE.seq ?_)
  refine SC.region ?_
  refine SL.val (Val.assign rfl) rfl rfl ?_
  refine SL.nil (SE.seq ?_)
  refine SC.seq (SC.region ?_)
  refine SL.val (Val.fieldAddr tabOk rfl rfl rfl rfl rfl) rfl rfl ?_
  refine SL.val (Val.load1 tabOk rfl rfl (by first|(apply Or.inl;(repeat first|assumption|exact m0|apply m1);done)|(apply Or.inr;(repeat first|assumption|exact m0|apply m1);done)) List.not_mem_nil (by rfl)) rfl rfl ?_
  refine SL.val (Val.move rfl) rfl rfl ?_
  refine SL.val (Val.neI rfl rfl) rfl rfl ?_
  refine SL.nil (SE.seq ?_)
  refine SC.condP rfl ?_ ?_
  rotate_left
  · intro hc34
    refine SC.skip ?_
    refine SE.inBlock ?_
    refine SE.seq ?_
    refine SC.region ?_
    first
      | refine SL.val (Val.addI rfl rfl (by simp only [InR, lo, hi]; omega)) rfl rfl ?_
      | refine SL.val (Val.addW rfl rfl) rfl rfl ?_
    refine SL.val (Val.move rfl) rfl rfl ?_
    refine SL.nil ?_
    refine SE.round (z.1 ++ [(who, v)], true, z.2.2.1 + 1, r30) (by first | omega | (dsimp only; omega)) (⟨hlt, by dsimp only; rw [fold_succ hz.2 hlt]; unfold cStep; dsimp only; split <;> split <;> first | (simp_all; done) | (exfalso; simp_all; omega)⟩) (by exact ⟨rfl, rfl, rfl, rfl, rfl, rfl, rfl, rfl, trivial⟩) (by (try simp only [List.map_append, List.map_cons, List.map_nil]); repeat (first | exact List.nil_sublist _ | exact List.Sublist.refl _ | apply List.Sublist.cons_cons | apply List.Sublist.cons))
  intro hc34
  refine SC.region ?_
  refine SL.val (Val.move rfl) rfl rfl ?_
  refine SL.val (Val.loadA tabOk rfl rfl rfl (by first|(apply Or.inl;(repeat first|assumption|exact m0|apply m1);done)|(apply Or.inr;(repeat first|assumption|exact m0|apply m1);done)) List.not_mem_nil (oneC_len _)) rfl rfl ?_
  refine SL.eff (Eff.buildSl tabOk Try.underlying31 rfl rfl rfl (elems_one (oneC_len _)) rfl rfl rfl) rfl rfl ?_
  rintro _ _ ⟨rfl, rfl⟩
  refine SL.eff (Eff.append tabOk [_] Try.underlying31 rfl rfl rfl rfl rfl rfl (by intro c hc; rw [List.mem_singleton] at hc; subst hc; exact oneC_ones _) (by unfold maxLen; simp only [List.length_append, List.length_map, List.length_cons, List.length_nil]; omega) (by rw [show Try.prog.bytesOf 71 = 56 by kernel_rfl]; simp only [List.length_append, List.length_map, List.length_cons, List.length_nil]; omega)) rfl rfl ?_
  rintro _ _ ⟨r38, rfl, rfl⟩
  refine SL.val (Val.assign rfl) rfl rfl ?_
  refine SL.nil ?_
  refine SE.inBlock ?_
  refine SE.seq ?_
  refine SC.region ?_
  first
    | refine SL.val (Val.addI rfl rfl (by simp only [InR, lo, hi]; omega)) rfl rfl ?_
    | refine SL.val (Val.addW rfl rfl) rfl rfl ?_
  refine SL.val (Val.move rfl) rfl rfl ?_
  refine SL.nil ?_
  refine SE.round (z.1 ++ [(who, v)] ++ [(r[z.2.2.1]'hlt)], true, z.2.2.1 + 1, r38) (by first | omega | (dsimp only; omega)) (⟨hlt, by dsimp only; rw [fold_succ hz.2 hlt]; unfold cStep; dsimp only; split <;> split <;> first | (simp_all; done) | (exfalso; simp_all; omega)⟩) (by exact ⟨rfl, rfl, rfl, rfl, rfl, rfl, rfl, rfl, trivial⟩) (by (try simp only [List.map_append, List.map_cons, List.map_nil]); repeat (first | exact List.nil_sublist _ | exact List.Sublist.refl _ | apply List.Sublist.cons_cons | apply List.Sublist.cons))
set_option maxHeartbeats 2000000 in
theorem rleast_s (hok : ∀ p ∈ r, vtOk p.2) (hn : r.length ≤ 1000) : Spec Try.prog 12 [rowA r, int at_] [] (fun _ : Unit => []) (fun _ => .tup [.agg (vtC ((leastQ (cnt r) at_ r).getD vt0)), boo (leastQ (cnt r) at_ r).isSome]) := by
  refine spec_of Try.func12 rfl Try.ntmps12 rfl fun G w => ?_
  refine SC.seq (SC.region ?_)
  refine SL.eff (Eff.alloc tabOk rfl) rfl rfl ?_
  rintro _ _ ⟨b4, rfl, rfl⟩
  refine SL.val (Val.assign rfl) rfl rfl ?_
  refine SL.nil (SE.seq ?_)
  refine SC.seq ?_
  refine SC.seq (SC.region ?_)
  refine SL.val (Val.move rfl) rfl rfl ?_
  first
    | refine SL.val (Val.lenSl rfl Try.underlying31 (List.length_map _)) rfl rfl ?_
    | refine SL.val (Val.lenOwn rfl (by repeat first|assumption|exact m0|apply m1) Try.underlying31 (List.length_map _)) rfl rfl ?_
    | refine SL.val (Val.lenNil rfl Try.underlying31) rfl rfl ?_
  refine SL.val (Val.move rfl) rfl rfl ?_
  refine SL.nil (SE.seq ?_)
  refine SC.block ?_
  refine SC.loop (ι := Nat) (fun z => [.blk b4 29 vtZ]) (fun z => [(0, rowA r), (1, int at_), (4, ptr b4), (8, rowA r), (9, int (r.length : Nat)), (10, int (z : Nat))]) (fun z => z ≤ r.length ∧ ∀ j (h : j < r.length), j < z → ¬ (1 ≤ at_ ∧ at_ ≤ cnt r r[j].2)) (fun z => r.length - z) (0) (⟨Nat.zero_le _, fun j h hj => by omega⟩) (by exact ⟨rfl, rfl, rfl, rfl, rfl, rfl, trivial⟩) (by repeat first|exact s0 _|exact s1 _|apply s2|apply s3) ?_
  intro z hz
  refine SC.seq (SC.region ?_)
  refine SL.val (Val.ltI rfl rfl) rfl rfl ?_
  refine SL.nil (SE.seq ?_)
  refine SC.seq ?_
  refine SC.condP rfl ?_ ?_
  rotate_left
  · intro hc11
    refine SC.exit ?_
    refine SE.then_ (by intro h; cases h) ?_
    refine SE.then_ (by intro h; cases h) ?_
    refine SE.exit ?_
    refine SE.seq ?_
    refine SC.seq (SC.region ?_)
    refine SL.val (Val.to (C := .agg vtZ) (Val.buildS tabOk rfl rfl rfl rfl) rfl) rfl rfl ?_
    refine SL.eff (Eff.store (L' := vtC vt0) tabOk rfl rfl rfl (by repeat first|assumption|exact Upd.here|apply Upd.there) (by exact vtC_len _) (Nat.le_of_ble_eq_true (by rfl)) (by exact vtC_ones _) (putL_whole (by exact vtC_len _))) rfl rfl ?_
    rintro _ _ ⟨rfl, rfl⟩
    refine SL.val (Val.assign rfl) rfl rfl ?_
    refine SL.nil (SE.seq ?_)
    refine SC.ret ?_
    have he : leastQ (cnt r) at_ r = none := by
      rw [leastQ_drop hz.2, List.drop_eq_nil_of_le (by omega)]
      rfl
    refine SE.fin (rs := [.cell 4 29, .tmp 5]) rfl (RV.cell rfl (RV.cellA tabOk rfl rfl (by first|(apply Or.inl;(repeat first|assumption|exact m0|apply m1);done)|(apply Or.inr;(repeat first|assumption|exact m0|apply m1);done)) (vtC_len _)) (RV.tmp rfl RV.nil)) (()) (by repeat first|exact s0 _|exact s1 _|apply s2|apply s3) (by simp [It.rids]) ?_
    rw [he]
    rfl
  intro hc11
  have hlt : z < r.length := by omega
  refine SC.skip ?_
  refine SE.seq ?_
  refine SC.seq ?_
  refine SC.block ?_
  refine SC.seq (SC.region ?_)
  refine SL.val (Val.indexSl tabOk Try.underlying31 rfl rfl rfl rfl (at_map (by omega)) rfl rfl) rfl rfl ?_
  refine SL.val (Val.loadAR tabOk rfl rfl rfl (oneC_len _)) rfl rfl ?_
  refine SL.eff (Eff.alloc tabOk rfl) rfl rfl ?_
  rintro _ _ ⟨b7, rfl, rfl⟩
  refine SL.eff (Eff.store (L' := oneC (r[z]'hlt)) tabOk rfl rfl rfl (by repeat first|assumption|exact Upd.here|apply Upd.there) (by exact oneC_len _) (Nat.le_of_ble_eq_true (by rfl)) (by exact oneC_ones _) (putL_whole (by exact oneC_len _))) rfl rfl ?_
  rintro _ _ ⟨rfl, rfl⟩
  refine SL.nil (SE.seq ?_)
  refine SC.seq (SC.region ?_)
  refine SL.val (Val.move rfl) rfl rfl ?_
  refine SL.val (Val.geI rfl rfl) rfl rfl ?_
  refine SL.val (Val.move rfl) rfl rfl ?_
  refine SL.bothP (t := 16) rfl ?_ ?_
  rotate_left
  · intro hc16
    iterate 7 refine SL.skip rfl rfl ?_
    refine SL.val (Val.pickF rfl rfl) rfl rfl ?_
    refine SL.nil (SE.seq ?_)
    refine SC.condF rfl ?_
    refine SC.skip ?_
    refine SE.inBlock ?_
    refine SE.seq ?_
    refine SC.region ?_
    first
      | refine SL.val (Val.addI rfl rfl (by simp only [InR, lo, hi]; omega)) rfl rfl ?_
      | refine SL.val (Val.addW rfl rfl) rfl rfl ?_
    refine SL.val (Val.move rfl) rfl rfl ?_
    refine SL.nil ?_
    refine SE.round (z + 1) (by first | omega | (dsimp only; omega)) (⟨by omega, fun j h hj => by
          rcases Nat.lt_or_ge j z with h1 | h1
          · exact hz.2 j h h1
          · obtain rfl : j = z := by omega
            omega⟩) (by exact ⟨rfl, rfl, rfl, rfl, rfl, rfl, trivial⟩) (by repeat first|exact s0 _|exact s1 _|apply s2|apply s3)
  intro hc16
  refine SL.val (Val.move rfl) rfl rfl ?_
  refine SL.val (Val.fieldAddr tabOk rfl rfl rfl rfl rfl) rfl rfl ?_
  refine SL.val (Val.to (C := .agg (vtC (r[z]'hlt).2)) (Val.loadP tabOk rfl rfl rfl (by first|(apply Or.inl;(repeat first|assumption|exact m0|apply m1);done)|(apply Or.inr;(repeat first|assumption|exact m0|apply m1);done)) List.not_mem_nil (one_le _)) (congrArg Abs.agg (one_part _))) rfl rfl ?_
  refine SL.call (rwho_s (r := r) (k := (r[z]'hlt).2) (hok _ (List.getElem_mem hlt)) hok hn) Casts.refl (by kernel_rfl) rfl rfl rfl ?_
  refine After.make (by repeat (first | exact Reads.nil | (refine Reads.blk ?_ ?_; focus ((repeat first|assumption|exact m0|apply m1); done)) | (refine Reads.rd ?_ ?_; focus ((repeat first|assumption|exact m0|apply m1); done)) | (refine Reads.pc ?_ ?_; focus ((repeat first|assumption|exact m0|apply m1); done)) | (refine Reads.rdpc ?_ ?_; focus ((repeat first|assumption|exact m0|apply m1); done)))) (fun _ => rfl) ?_
  intro r20
  refine SL.val (Val.lenOwnR (m := cnt r (r[z]'hlt).2) rfl (.inl (by repeat first|assumption|exact m0|apply m1)) Try.underlying41 (by rw [List.length_map, whoR_len])) rfl rfl ?_
  refine SL.val (Val.move rfl) rfl rfl ?_
  refine SL.val (Val.geI rfl rfl) rfl rfl ?_
  refine SL.val (Val.pickT rfl rfl) rfl rfl ?_
  refine SL.nil (SE.seq ?_)
  refine SC.condP rfl ?_ ?_
  rotate_left
  · intro hc24
    refine SC.skip ?_
    refine SE.inBlock ?_
    refine SE.seq ?_
    refine SC.region ?_
    first
      | refine SL.val (Val.addI rfl rfl (by simp only [InR, lo, hi]; omega)) rfl rfl ?_
      | refine SL.val (Val.addW rfl rfl) rfl rfl ?_
    refine SL.val (Val.move rfl) rfl rfl ?_
    refine SL.nil ?_
    refine SE.round (z + 1) (by first | omega | (dsimp only; omega)) (⟨by omega, fun j h hj => by
          rcases Nat.lt_or_ge j z with h1 | h1
          · exact hz.2 j h h1
          · obtain rfl : j = z := by omega
            omega⟩) (by exact ⟨rfl, rfl, rfl, rfl, rfl, rfl, trivial⟩) (by repeat first|exact s0 _|exact s1 _|apply s2|apply s3)
  intro hc24
  refine SC.seq (SC.region ?_)
  refine SL.val (Val.fieldAddr tabOk rfl rfl rfl rfl rfl) rfl rfl ?_
  refine SL.val (Val.to (C := .agg (vtC (r[z]'hlt).2)) (Val.loadP tabOk rfl rfl rfl (by first|(apply Or.inl;(repeat first|assumption|exact m0|apply m1);done)|(apply Or.inr;(repeat first|assumption|exact m0|apply m1);done)) List.not_mem_nil (one_le _)) (congrArg Abs.agg (one_part _))) rfl rfl ?_
  refine SL.eff (Eff.store (L' := vtC (r[z]'hlt).2) tabOk rfl rfl rfl (by repeat first|assumption|exact Upd.here|apply Upd.there) (by exact vtC_len _) (Nat.le_of_ble_eq_true (by rfl)) (by exact vtC_ones _) (putL_whole (by exact vtC_len _))) rfl rfl ?_
  rintro _ _ ⟨rfl, rfl⟩
  refine SL.val (Val.assign rfl) rfl rfl ?_
  refine SL.nil (SE.seq ?_)
  refine SC.ret ?_
  refine SE.ret ?_
  refine SE.then_ (by intro h; cases h) ?_
  refine SE.then_ (by intro h; cases h) ?_
  refine SE.ret ?_
  refine SE.then_ (by intro h; cases h) ?_
  have he : leastQ (cnt r) at_ r = some (r[z]'hlt).2 := by
    rw [leastQ_drop hz.2, List.drop_eq_getElem_cons hlt]
    exact if_pos (by omega)
  refine SE.fin (rs := [.cell 4 29, .tmp 5]) rfl (RV.cell rfl (RV.cellA tabOk rfl rfl (by first|(apply Or.inl;(repeat first|assumption|exact m0|apply m1);done)|(apply Or.inr;(repeat first|assumption|exact m0|apply m1);done)) (vtC_len _)) (RV.tmp rfl RV.nil)) (()) (by repeat first|exact s0 _|exact s1 _|apply s2|apply s3) (by simp [It.rids]) ?_
  rw [he]
  rfl
end
end Go.Proofs.Ytonceioajbimaaa.A
/-
  TallyNil: the walk.
-/
set_option maxRecDepth 100000
set_option linter.unusedSimpArgs false
set_option linter.unusedVariables false
namespace Go.Proofs.Ytonceioajbimaaa.A
open Go.RowKit Go.Maps Go.Sort Go.Shelf

theorem After.make3 {ι : Type} {σ σ1 : Blks} {τ' : ι → Blks} {a b c : ι → It} {K : Blks → ι → Prop} (h : Reads σ σ1) (hτ : ∀ z, τ' z = [a z, b z, c z]) (k : ∀ z, K (a z :: b z :: c z :: σ) z) : After σ σ1 τ' K := ⟨σ, h.split, fun z => ⟨_, by rw [hτ z]; exact List.Perm.refl _, k z⟩⟩
theorem After.threeAt3 {ι : Type} {a b c x1 x2 x3 : It} {β : Blks} {τ' : ι → Blks} {y1 y2 y3 : ι → It} {K : Blks → ι → Prop} (hr : x1.rids = [] ∧ x2.rids = [] ∧ x3.rids = []) (hτ : ∀ z, τ' z = [y1 z, y2 z, y3 z]) (k : ∀ z, K (a :: b :: c :: y1 z :: y2 z :: y3 z :: β) z) : After (a :: b :: c :: x1 :: x2 :: x3 :: β) [x1, x2, x3] τ' K :=
  After.mid [a, b, c] (β := β) rfl (by intro x hx; simp only [List.mem_cons, List.not_mem_nil, or_false] at hx; rcases hx with rfl | rfl | rfl; exact hr.1; exact hr.2.1; exact hr.2.2) fun z => by rw [hτ z]; exact k z
theorem After.threeAt1 {ι : Type} {a x1 x2 x3 : It} {β : Blks} {τ' : ι → Blks} {y1 y2 y3 : ι → It} {K : Blks → ι → Prop} (hr : x1.rids = [] ∧ x2.rids = [] ∧ x3.rids = []) (hτ : ∀ z, τ' z = [y1 z, y2 z, y3 z]) (k : ∀ z, K (a :: y1 z :: y2 z :: y3 z :: β) z) : After (a :: x1 :: x2 :: x3 :: β) [x1, x2, x3] τ' K :=
  After.mid [a] (β := β) rfl (by intro x hx; simp only [List.mem_cons, List.not_mem_nil, or_false] at hx; rcases hx with rfl | rfl | rfl; exact hr.1; exact hr.2.1; exact hr.2.2) fun z => by rw [hτ z]; exact k z
theorem After.threeAt4 {ι : Type} {a b c d x1 x2 x3 : It} {β : Blks} {τ' : ι → Blks} {y1 y2 y3 : ι → It} {K : Blks → ι → Prop} (hr : x1.rids = [] ∧ x2.rids = [] ∧ x3.rids = []) (hτ : ∀ z, τ' z = [y1 z, y2 z, y3 z]) (k : ∀ z, K (a :: b :: c :: d :: y1 z :: y2 z :: y3 z :: β) z) : After (a :: b :: c :: d :: x1 :: x2 :: x3 :: β) [x1, x2, x3] τ' K :=
  After.mid [a, b, c, d] (β := β) rfl (by intro x hx; simp only [List.mem_cons, List.not_mem_nil, or_false] at hx; rcases hx with rfl | rfl | rfl; exact hr.1; exact hr.2.1; exact hr.2.2) fun z => by rw [hτ z]; exact k z
theorem TInv.add {α : Type} [DecidableEq α] {m : List (Int × α)} {c : List (α × Nat)} (h : TInv m c) (who : Int) (k : α) : TInv (tAddM m who k) (tAddC m c who k) := by
  cases hv : aget m who with
  | none => rw [tAddM_new hv, tAddC_new hv]; exact h.chg who k
  | some v => rw [tAddM_old hv, tAddC_old hv]; exact h
theorem tAddM_length {α : Type} (m : List (Int × α)) (who : Int) (k : α) : (tAddM m who k).length ≤ m.length + 1 := by
  unfold tAddM
  split
  · omega
  · exact aput_length_le m who k
theorem tAddM_keys {α : Type} {ok : Int → Prop} {m : List (Int × α)} (h : ∀ w ∈ m.map (·.1), ok w) {who : Int} (hw : ok who) (k : α) : ∀ w ∈ (tAddM m who k).map (·.1), ok w := by
  unfold tAddM
  split
  · exact h
  · rw [aput_keys]
    split
    · exact h
    · intro w hw2
      rcases List.mem_append.1 hw2 with h2 | h2
      · exact h w h2
      · rw [List.mem_singleton.1 h2]; exact hw
theorem tAddM_vals {α : Type} {ok : α → Prop} {m : List (Int × α)} (h : ∀ w v, aget m w = some v → ok v) (who : Int) {k : α} (hk : ok k) : ∀ w v, aget (tAddM m who k) w = some v → ok v := by
  unfold tAddM
  split
  · exact h
  · intro w v hv
    rw [aget_aput] at hv
    split at hv
    · cases hv; exact hk
    · exact h w v hv
def sA : ByteArray := ⟨#[97]⟩
def sB : ByteArray := ⟨#[98]⟩
abbrev fM1 := tAddM ([] : List (Int × ByteArray)) 1 sA
abbrev fC1 := tAddC ([] : List (Int × ByteArray)) [] 1 sA
abbrev fM2 := tAddM fM1 1 sB
abbrev fC2 := tAddC fM1 fC1 1 sB
abbrev fM3 := tAddM fM2 2 sA
abbrev fC3 := tAddC fM2 fC2 2 sA
theorem fM3_eq : fM3 = [(1, sA), (2, sA)] := by decide +kernel
theorem fC3_eq : fC3 = [(sA, 2)] := by decide +kernel
theorem fB1 : tAddB ([] : List (Int × ByteArray)) 1 sA = true := by decide +kernel
theorem fB2 : tAddB fM1 1 sB = false := by decide +kernel
theorem fInv1 : TInv fM1 fC1 := TInv.nil.add _ _
theorem fInv2 : TInv fM2 fC2 := fInv1.add _ _
theorem sA_ok : strOk sA := by show 1 ≤ maxLen; unfold maxLen; decide
theorem sB_ok : strOk sB := by show 1 ≤ maxLen; unfold maxLen; decide
theorem fOk0 : ∀ w v, aget ([] : List (Int × ByteArray)) w = some v → strOk v := fun w v h => by cases h
theorem fOk1 : ∀ w v, aget fM1 w = some v → strOk v := tAddM_vals fOk0 1 sA_ok
theorem fOk2 : ∀ w v, aget fM2 w = some v → strOk v := tAddM_vals fOk1 1 sB_ok
theorem fOk3 : ∀ w v, aget fM3 w = some v → strOk v := tAddM_vals fOk2 2 sA_ok
theorem srt12 : srt [1, 2] = [1, 2] := sorted_unique (srt_perm _) (srt_sorted _) (by decide)
theorem fLeast : leastO fM3 fC3 2 (srt (fM3.map (·.1))) = some sA := by
  rw [show fM3.map (·.1) = [1, 2] by rw [fM3_eq]; rfl, srt12, fM3_eq, fC3_eq]
  decide +kernel
theorem fKeys : ∀ w ∈ fM3.map (·.1), intOk w := by
  rw [show fM3.map (·.1) = [1, 2] by rw [fM3_eq]; rfl]
  intro w hw
  simp only [List.mem_cons, List.not_mem_nil, or_false] at hw
  simp only [InR, lo, hi]
  omega
theorem i1 : intOk 1 := by simp only [InR, lo, hi]; omega
theorem i2 : intOk 2 := by simp only [InR, lo, hi]; omega
theorem fCount : cget fC3 sA = 2 := by rw [fC3_eq]; decide +kernel
theorem fLen : fM3.length = 2 := by rw [fM3_eq]; rfl
set_option maxHeartbeats 2000000 in
theorem fixed20_s  : Spec Try.prog 5 [] [] (fun _ : Unit => []) (fun _ => boo true) := by
  refine spec_of Try.func5 rfl Try.ntmps5 rfl fun G w => ?_
  refine SC.seq (SC.region ?_)
  refine SL.val (Val.assign rfl) rfl rfl ?_
  refine SL.nil (SE.seq ?_)
  refine SC.seq (SC.region ?_)
  refine SL.call (st_new_s) Casts.refl (by kernel_rfl) rfl rfl rfl ?_
  refine After.make3 (by repeat first|exact .nil|refine .blk (by repeat first|assumption|exact m0|apply m1) ?_|refine .rd (by repeat first|assumption|exact m0|apply m1) ?_|refine .pc (by repeat first|assumption|exact m0|apply m1) ?_|refine .rdpc (by repeat first|assumption|exact m0|apply m1) ?_) (fun _ => rfl) ?_
  intro z0
  refine SL.val (Val.assign rfl) rfl rfl ?_
  refine SL.nil (SE.seq ?_)
  refine SC.seq (SC.region ?_)
  refine SL.val (Val.move rfl) rfl rfl ?_
  refine SL.call (st_add_s (t := z0.1) (bv := z0.2.1) (bn := z0.2.2) (m := []) (c := []) (who := 1) (k := sA) i1 TInv.nil (by decide +kernel) sA_ok fOk0) Casts.refl (by kernel_rfl) rfl rfl rfl ?_
  refine After.three ⟨rfl, rfl, rfl⟩ (fun _ => rfl) ?_
  intro _
  refine SL.val (Val.move rfl) rfl rfl ?_
  refine SL.call (st_add_s (t := z0.1) (bv := z0.2.1) (bn := z0.2.2) (m := fM1) (c := fC1) (who := 1) (k := sB) i1 fInv1 (by decide +kernel) sB_ok fOk1) Casts.refl (by kernel_rfl) rfl rfl rfl ?_
  refine After.three ⟨rfl, rfl, rfl⟩ (fun _ => rfl) ?_
  intro _
  refine SL.val (Val.assign rfl) rfl rfl ?_
  refine SL.val (Val.assign rfl) rfl rfl ?_
  refine SL.nil (SE.seq ?_)
  refine SC.seq (SC.region ?_)
  refine SL.val (Val.move rfl) rfl rfl ?_
  refine SL.call (st_add_s (t := z0.1) (bv := z0.2.1) (bn := z0.2.2) (m := fM2) (c := fC2) (who := 2) (k := sA) i2 fInv2 (by decide +kernel) sA_ok fOk2) Casts.refl (by kernel_rfl) rfl rfl rfl ?_
  refine After.three ⟨rfl, rfl, rfl⟩ (fun _ => rfl) ?_
  intro _
  refine SL.nil (SE.seq ?_)
  refine SC.seq (SC.region ?_)
  refine SL.val (Val.move rfl) rfl rfl ?_
  refine SL.call (st_least_s (t := z0.1) (bv := z0.2.1) (bn := z0.2.2) (m := fM3) (c := fC3) (at_ := 2) (by decide +kernel) fKeys fOk3) Casts.refl (by kernel_rfl) rfl rfl rfl ?_
  refine After.three ⟨rfl, rfl, rfl⟩ (fun _ => rfl) ?_
  intro _
  rw [fLeast]
  refine SL.val (Val.move rfl) rfl rfl ?_
  refine SL.val (Val.extract rfl rfl) rfl rfl ?_
  refine SL.val (Val.extract rfl rfl) rfl rfl ?_
  refine SL.val (Val.assign rfl) rfl rfl ?_
  refine SL.val (Val.assign rfl) rfl rfl ?_
  refine SL.nil (SE.seq ?_)
  refine SC.seq (SC.region ?_)
  refine SL.val (Val.move rfl) rfl rfl ?_
  refine SL.val (Val.move rfl) rfl rfl ?_
  refine SL.both (t := 19) rfl ?_ (by intro hc19; exfalso; rw [fB1] at hc19; cases hc19)
  intro hc19
  refine SL.val (Val.move rfl) rfl rfl ?_
  refine SL.val (Val.notB rfl) rfl rfl ?_
  refine SL.val (Val.pickT rfl rfl) rfl rfl ?_
  refine SL.val (Val.move rfl) rfl rfl ?_
  refine SL.both (t := 23) rfl ?_ (by intro hc23; exfalso; rw [fB2] at hc23; cases hc23)
  intro hc23
  refine SL.val (Val.move rfl) rfl rfl ?_
  refine SL.val (Val.pickT rfl rfl) rfl rfl ?_
  refine SL.val (Val.move rfl) rfl rfl ?_
  refine SL.both (t := 26) rfl ?_ (by intro hc26; exfalso; cases hc26)
  intro hc26
  refine SL.val (Val.move rfl) rfl rfl ?_
  refine SL.val (Val.to (C := boo true) (Val.eqS rfl rfl) (by rfl)) rfl rfl ?_
  refine SL.val (Val.pickT rfl rfl) rfl rfl ?_
  refine SL.val (Val.move rfl) rfl rfl ?_
  refine SL.val (Val.move rfl) rfl rfl ?_
  refine SL.call (st_count_s (t := z0.1) (bv := z0.2.1) (bn := z0.2.2) (m := fM3) (c := fC3) (k := sA) sA_ok) Casts.refl (by kernel_rfl) rfl rfl rfl ?_
  refine After.three ⟨rfl, rfl, rfl⟩ (fun _ => rfl) ?_
  intro _
  refine SL.val (Val.eqI rfl rfl) rfl rfl ?_
  refine SL.val (Val.pickT rfl rfl) rfl rfl ?_
  refine SL.val (Val.move rfl) rfl rfl ?_
  refine SL.bothP (t := 35) rfl ?_ (by intro hc35; exfalso; exact hc35 (by rw [fCount]; rfl))
  intro hc35
  refine SL.val (Val.move rfl) rfl rfl ?_
  refine SL.call (st_len_s (t := z0.1) (bv := z0.2.1) (bn := z0.2.2) (m := fM3) (c := fC3)) Casts.refl (by kernel_rfl) rfl rfl rfl ?_
  refine After.three ⟨rfl, rfl, rfl⟩ (fun _ => rfl) ?_
  intro _
  refine SL.val (Val.eqI rfl rfl) rfl rfl ?_
  refine SL.val (Val.pickT rfl rfl) rfl rfl ?_
  refine SL.val (Val.assign rfl) rfl rfl ?_
  refine SL.nil (SE.seq ?_)
  refine SC.ret ?_
  refine SE.fin (rs := [.tmp 0]) rfl (RV.tmp rfl RV.nil) (()) (by repeat first|exact s0 _|exact s1 _|apply s2|apply s3) (by simp [It.rids]) ?_
  exact congrArg (fun b => Abs.v (Value.bool b)) (decide_eq_true (by rw [fLen]; rfl))
theorem p9_add_s {t bv bn : Nat} {m : List (Int × UInt8)} {c : List (UInt8 × Nat)} {k : UInt8} {who : Int} (hw : intOk who) (hti : TInv m c) (hl : m.length ≤ 1000) : Spec Try.prog 29 [ptr t, int who, p9E k] [.blk t 86 [mapV bv, mapV bn], .pc (mapPc bv intK p9V intOk m), .pc (mapPc bn p9V cntV top c)] (fun _ : Unit => [.blk t 86 [mapV bv, mapV bn], .pc (mapPc bv intK p9V intOk (tAddM m who k)), .pc (mapPc bn p9V cntV top (tAddC m c who k))]) (fun _ => boo (tAddB m who k)) := by
  cases hv : aget m who with
  | none => rw [tAddM_new hv, tAddC_new hv, tAddB_new hv]; exact p9_addN_s hw hti hl hv
  | some v => rw [tAddM_old hv, tAddC_old hv, tAddB_old hv]; exact p9_addO_s hw hti hl hv
def p9CO (o : Option UInt8) : List Abs := (o.map p9C).getD p9Z
theorem p9A_eq (o : Option UInt8) : p9A o = .agg (p9CO o) := by cases o <;> rfl
theorem p9CO_len (o : Option UInt8) : (p9CO o).length = 2 := by cases o <;> rfl
theorem p9CO_ones (o : Option UInt8) : ones (p9CO o) = true := by cases o <;> rfl
section
variable {l : List UInt8} {at_ : Int}
set_option maxHeartbeats 4000000 in
theorem tnil_s  : Spec Try.prog 4 [byt l, int at_] [] (fun _ : Unit => []) (fun _ => boo true) := by
  refine spec_of Try.func4 rfl Try.ntmps4 rfl fun G w => ?_
  refine SC.seq (SC.region ?_)
  refine SL.val (Val.assign rfl) rfl rfl ?_
  refine SL.nil (SE.seq ?_)
  refine SC.seq ?_
  refine SC.seq (SC.region ?_)
  refine SL.call (fixed20_s) Casts.refl (by kernel_rfl) rfl rfl rfl ?_
  refine After.pure (by repeat first|exact .nil|refine .blk (by repeat first|assumption|exact m0|apply m1) ?_|refine .rd (by repeat first|assumption|exact m0|apply m1) ?_|refine .pc (by repeat first|assumption|exact m0|apply m1) ?_|refine .rdpc (by repeat first|assumption|exact m0|apply m1) ?_) (fun _ => rfl) ?_
  intro _
  refine SL.val (Val.notT rfl) rfl rfl ?_
  refine SL.nil (SE.seq ?_)
  refine SC.condF rfl ?_
  refine SC.skip ?_
  refine SE.seq ?_
  refine SC.seq ?_
  refine SC.seq (SC.region ?_)
  refine SL.val (Val.move rfl) rfl rfl ?_
  first
    | refine SL.val (Val.lenSl rfl Try.underlying45 (List.length_map _)) rfl rfl ?_
    | refine SL.val (Val.lenOwn rfl (by repeat first|assumption|exact m0|apply m1) Try.underlying45 (List.length_map _)) rfl rfl ?_
    | refine SL.val (Val.lenNil rfl Try.underlying45) rfl rfl ?_
  refine SL.val (Val.gtI rfl rfl) rfl rfl ?_
  refine SL.nil (SE.seq ?_)
  refine SC.condP rfl ?_ ?_
  · intro hc24
    refine SC.seq (SC.region ?_)
    refine SL.val (Val.assign rfl) rfl rfl ?_
    refine SL.nil (SE.seq ?_)
    refine SC.ret ?_
    refine SE.then_ (by intro h; cases h) ?_
    refine SE.fin (rs := [.tmp 4]) rfl (RV.tmp rfl RV.nil) (()) (by repeat first|exact s0 _|exact s1 _|apply s2|apply s3) (by simp [It.rids]) ?_
    first
      | rfl
      | exact congrArg (fun b => Abs.v (Value.bool b)) (decide_eq_true rfl)
  intro hc24
  refine SC.skip ?_
  refine SE.seq ?_
  refine SC.seq (SC.region ?_)
  refine SL.val (Val.assign rfl) rfl rfl ?_
  refine SL.nil (SE.seq ?_)
  refine SC.seq (SC.region ?_)
  refine SL.val (Val.move rfl) rfl rfl ?_
  refine SL.call (st_change0_s (who := 1) (k := sA)) Casts.refl (by kernel_rfl) rfl rfl rfl ?_
  refine After.pure (by repeat first|exact .nil|refine .blk (by repeat first|assumption|exact m0|apply m1) ?_|refine .rd (by repeat first|assumption|exact m0|apply m1) ?_|refine .pc (by repeat first|assumption|exact m0|apply m1) ?_|refine .rdpc (by repeat first|assumption|exact m0|apply m1) ?_) (fun _ => rfl) ?_
  intro _
  refine SL.nil (SE.seq ?_)
  refine SC.seq (SC.region ?_)
  refine SL.val (Val.move rfl) rfl rfl ?_
  refine SL.val (Val.move rfl) rfl rfl ?_
  refine SL.call (st_least0_s (at_ := at_)) Casts.refl (by kernel_rfl) rfl rfl rfl ?_
  refine After.pure (by repeat first|exact .nil|refine .blk (by repeat first|assumption|exact m0|apply m1) ?_|refine .rd (by repeat first|assumption|exact m0|apply m1) ?_|refine .pc (by repeat first|assumption|exact m0|apply m1) ?_|refine .rdpc (by repeat first|assumption|exact m0|apply m1) ?_) (fun _ => rfl) ?_
  intro _
  refine SL.val (Val.move rfl) rfl rfl ?_
  refine SL.val (Val.extract rfl rfl) rfl rfl ?_
  refine SL.val (Val.extract rfl rfl) rfl rfl ?_
  refine SL.val (Val.assign rfl) rfl rfl ?_
  refine SL.val (Val.assign rfl) rfl rfl ?_
  refine SL.nil (SE.seq ?_)
  refine SC.seq (SC.region ?_)
  refine SL.val (Val.move rfl) rfl rfl ?_
  refine SL.call (st_of0_s (who := 1)) Casts.refl (by kernel_rfl) rfl rfl rfl ?_
  refine After.pure (by repeat first|exact .nil|refine .blk (by repeat first|assumption|exact m0|apply m1) ?_|refine .rd (by repeat first|assumption|exact m0|apply m1) ?_|refine .pc (by repeat first|assumption|exact m0|apply m1) ?_|refine .rdpc (by repeat first|assumption|exact m0|apply m1) ?_) (fun _ => rfl) ?_
  intro _
  refine SL.val (Val.move rfl) rfl rfl ?_
  refine SL.val (Val.extract rfl rfl) rfl rfl ?_
  refine SL.val (Val.extract rfl rfl) rfl rfl ?_
  refine SL.val (Val.assign rfl) rfl rfl ?_
  refine SL.val (Val.assign rfl) rfl rfl ?_
  refine SL.nil (SE.seq ?_)
  refine SC.seq ?_
  refine SC.seq (SC.region ?_)
  refine SL.val (Val.move rfl) rfl rfl ?_
  refine SL.call (st_add0_s (who := 1) (k := sA)) Casts.refl (by kernel_rfl) rfl rfl rfl ?_
  refine After.pure (by repeat first|exact .nil|refine .blk (by repeat first|assumption|exact m0|apply m1) ?_|refine .rd (by repeat first|assumption|exact m0|apply m1) ?_|refine .pc (by repeat first|assumption|exact m0|apply m1) ?_|refine .rdpc (by repeat first|assumption|exact m0|apply m1) ?_) (fun _ => rfl) ?_
  intro _
  refine SL.val (Val.move rfl) rfl rfl ?_
  refine SL.val (Val.move rfl) rfl rfl ?_
  refine SL.val (Val.pickF rfl rfl) rfl rfl ?_
  refine SL.val (Val.move rfl) rfl rfl ?_
  refine SL.both (t := 43) rfl (by intro hc43; exfalso; cases hc43) ?_
  intro hc43
  refine SL.val (Val.move rfl) rfl rfl ?_
  refine SL.val (Val.pickF rfl rfl) rfl rfl ?_
  refine SL.val (Val.move rfl) rfl rfl ?_
  refine SL.both (t := 46) rfl (by intro hc46; exfalso; cases hc46) ?_
  intro hc46
  refine SL.val (Val.move rfl) rfl rfl ?_
  refine SL.call (st_len0_s) Casts.refl (by kernel_rfl) rfl rfl rfl ?_
  refine After.pure (by repeat first|exact .nil|refine .blk (by repeat first|assumption|exact m0|apply m1) ?_|refine .rd (by repeat first|assumption|exact m0|apply m1) ?_|refine .pc (by repeat first|assumption|exact m0|apply m1) ?_|refine .rdpc (by repeat first|assumption|exact m0|apply m1) ?_) (fun _ => rfl) ?_
  intro _
  refine SL.val (Val.move rfl) rfl rfl ?_
  refine SL.call (st_count0_s (k := sA)) Casts.refl (by kernel_rfl) rfl rfl rfl ?_
  refine After.pure (by repeat first|exact .nil|refine .blk (by repeat first|assumption|exact m0|apply m1) ?_|refine .rd (by repeat first|assumption|exact m0|apply m1) ?_|refine .pc (by repeat first|assumption|exact m0|apply m1) ?_|refine .rdpc (by repeat first|assumption|exact m0|apply m1) ?_) (fun _ => rfl) ?_
  intro _
  first
    | refine SL.val (Val.addI rfl rfl (by simp only [InR, lo, hi]; omega)) rfl rfl ?_
    | refine SL.val (Val.addW rfl rfl) rfl rfl ?_
  refine SL.val (Val.move rfl) rfl rfl ?_
  refine SL.call (st_who0_s (k := sA)) Casts.refl (by kernel_rfl) rfl rfl rfl ?_
  refine After.pure (by repeat first|exact .nil|refine .blk (by repeat first|assumption|exact m0|apply m1) ?_|refine .rd (by repeat first|assumption|exact m0|apply m1) ?_|refine .pc (by repeat first|assumption|exact m0|apply m1) ?_|refine .rdpc (by repeat first|assumption|exact m0|apply m1) ?_) (fun _ => rfl) ?_
  intro _
  first
    | refine SL.val (Val.lenSl rfl Try.underlying41 (List.length_map _)) rfl rfl ?_
    | refine SL.val (Val.lenOwn rfl (by repeat first|assumption|exact m0|apply m1) Try.underlying41 (List.length_map _)) rfl rfl ?_
    | refine SL.val (Val.lenNil rfl Try.underlying41) rfl rfl ?_
  first
    | refine SL.val (Val.addI rfl rfl (by simp only [InR, lo, hi]; omega)) rfl rfl ?_
    | refine SL.val (Val.addW rfl rfl) rfl rfl ?_
  refine SL.val (Val.neI rfl rfl) rfl rfl ?_
  refine SL.val (Val.pickF rfl rfl) rfl rfl ?_
  refine SL.nil (SE.seq ?_)
  refine SC.condP rfl (by intro hc57; exfalso; exact hc57 rfl) ?_
  intro hc57
  refine SC.skip ?_
  refine SE.seq ?_
  refine SC.seq (SC.region ?_)
  refine SL.call (u8_new_s) Casts.refl (by kernel_rfl) rfl rfl rfl ?_
  refine After.make3 (by repeat first|exact .nil|refine .blk (by repeat first|assumption|exact m0|apply m1) ?_|refine .rd (by repeat first|assumption|exact m0|apply m1) ?_|refine .pc (by repeat first|assumption|exact m0|apply m1) ?_|refine .rdpc (by repeat first|assumption|exact m0|apply m1) ?_) (fun _ => rfl) ?_
  intro z1
  refine SL.call (p9_new_s) Casts.refl (by kernel_rfl) rfl rfl rfl ?_
  refine After.make3 (by repeat first|exact .nil|refine .blk (by repeat first|assumption|exact m0|apply m1) ?_|refine .rd (by repeat first|assumption|exact m0|apply m1) ?_|refine .pc (by repeat first|assumption|exact m0|apply m1) ?_|refine .rdpc (by repeat first|assumption|exact m0|apply m1) ?_) (fun _ => rfl) ?_
  intro z2
  refine SL.val (Val.assign rfl) rfl rfl ?_
  refine SL.val (Val.assign rfl) rfl rfl ?_
  refine SL.nil (SE.seq ?_)
  refine SC.seq ?_
  refine SC.seq (SC.region ?_)
  refine SL.val (Val.move rfl) rfl rfl ?_
  first
    | refine SL.val (Val.lenSl rfl Try.underlying45 (List.length_map _)) rfl rfl ?_
    | refine SL.val (Val.lenOwn rfl (by repeat first|assumption|exact m0|apply m1) Try.underlying45 (List.length_map _)) rfl rfl ?_
    | refine SL.val (Val.lenNil rfl Try.underlying45) rfl rfl ?_
  refine SL.val (Val.move rfl) rfl rfl ?_
  refine SL.nil (SE.seq ?_)
  refine SC.block ?_
  refine SC.loop (ι := Nat × List (Int × UInt8) × List (UInt8 × Nat)) (fun z => [.blk z2.1 86 [mapV z2.2.1, mapV z2.2.2], .pc (mapPc z2.2.1 intK p9V intOk z.2.1), .pc (mapPc z2.2.2 p9V cntV top z.2.2), .blk z1.1 82 [mapV z1.2.1, mapV z1.2.2], .pc (mapPc z1.2.1 intK bc intOk z.2.1), .pc (mapPc z1.2.2 bc cntV top z.2.2)]) (fun z => [(0, byt l), (1, int at_), (10, ptr z1.1), (11, ptr z2.1), (60, byt l), (61, int (l.length : Nat)), (62, int (z.1 : Nat))]) (fun z => z.1 ≤ l.length ∧ TInv z.2.1 z.2.2 ∧ z.2.1.length ≤ z.1 ∧ ∀ w ∈ z.2.1.map (·.1), intOk w) (fun z => l.length - z.1) (0, [], []) (⟨Nat.zero_le _, TInv.nil, Nat.le_refl _, fun w h => by cases h⟩) (by exact ⟨rfl, rfl, rfl, rfl, rfl, rfl, rfl, trivial⟩) (by repeat first|exact s0 _|exact s1 _|apply s2|apply s3) ?_
  intro z hz
  refine SC.seq (SC.region ?_)
  refine SL.val (Val.ltI rfl rfl) rfl rfl ?_
  refine SL.nil (SE.seq ?_)
  refine SC.seq ?_
  refine SC.condP rfl ?_ ?_
  · intro hc63
    have hlt : z.1 < l.length := by omega
    have hwho : intOk ((z.1 : Int) % 5) := by simp only [InR, lo, hi]; omega
    refine SC.skip ?_
    refine SE.seq ?_
    refine SC.seq ?_
    refine SC.block ?_
    refine SC.seq (SC.region ?_)
    refine SL.val (Val.move rfl) rfl rfl ?_
    refine SL.val (Val.indexSl tabOk Try.underlying45 rfl rfl rfl rfl (at_map (by omega)) rfl rfl) rfl rfl ?_
    refine SL.val (Val.to (C := .v (bc (l[z.1]'hlt))) (Val.load1R tabOk rfl rfl rfl) rfl) rfl rfl ?_
    refine SL.val (Val.assign rfl) rfl rfl ?_
    refine SL.val (Val.assign rfl) rfl rfl ?_
    refine SL.nil (SE.seq ?_)
    refine SC.seq (SC.region ?_)
    refine SL.val (Val.move rfl) rfl rfl ?_
    refine SL.val (Val.to (C := int ((z.1 : Int) % 5)) (Val.remI rfl rfl (by omega)) rfl) rfl rfl ?_
    refine SL.val (Val.move rfl) rfl rfl ?_
    refine SL.val (Val.to (C := .v (bc (l[z.1]'hlt % 3))) (Val.remI rfl rfl (by omega)) (congrArg Abs.v (by unfold bc; rw [UInt8.toNat_mod]; rfl))) rfl rfl ?_
    refine SL.val (Val.assign rfl) rfl rfl ?_
    refine SL.val (Val.assign rfl) rfl rfl ?_
    refine SL.nil (SE.seq ?_)
    refine SC.seq (SC.region ?_)
    refine SL.val (Val.move rfl) rfl rfl ?_
    refine SL.val (Val.move rfl) rfl rfl ?_
    refine SL.val (Val.move rfl) rfl rfl ?_
    refine SL.call (u8_add_s (t := z1.1) (bv := z1.2.1) (bn := z1.2.2) (m := z.2.1) (c := z.2.2) (who := ((z.1 : Int) % 5)) (k := (l[z.1]'hlt % 3)) hwho hz.2.1 (by omega)) Casts.refl (by kernel_rfl) rfl rfl rfl ?_
    refine After.threeAt3 ⟨rfl, rfl, rfl⟩ (fun _ => rfl) ?_
    intro _
    refine SL.val (Val.move rfl) rfl rfl ?_
    refine SL.val (Val.move rfl) rfl rfl ?_
    refine SL.val (Val.move rfl) rfl rfl ?_
    refine SL.val (Val.to (C := p9E (l[z.1]'hlt % 3)) (Val.buildA tabOk rfl rfl rfl rfl) rfl) rfl rfl ?_
    refine SL.call (p9_add_s (t := z2.1) (bv := z2.2.1) (bn := z2.2.2) (m := z.2.1) (c := z.2.2) (who := ((z.1 : Int) % 5)) (k := (l[z.1]'hlt % 3)) hwho hz.2.1 (by omega)) Casts.refl (by kernel_rfl) rfl rfl rfl ?_
    refine After.three ⟨rfl, rfl, rfl⟩ (fun _ => rfl) ?_
    intro _
    refine SL.val (Val.to (C := boo false) (Val.neB rfl rfl (by kernel_rfl)) (congrArg (fun b => Abs.v (Value.bool b)) (by simp))) rfl rfl ?_
    refine SL.nil (SE.seq ?_)
    refine SC.condF rfl ?_
    refine SC.skip ?_
    refine SE.inBlock ?_
    refine SE.seq ?_
    refine SC.region ?_
    first
      | refine SL.val (Val.addI rfl rfl (by simp only [InR, lo, hi]; omega)) rfl rfl ?_
      | refine SL.val (Val.addW rfl rfl) rfl rfl ?_
    refine SL.val (Val.move rfl) rfl rfl ?_
    refine SL.nil ?_
    refine SE.round (z.1 + 1, tAddM z.2.1 ((z.1 : Int) % 5) (l[z.1]'hlt % 3), tAddC z.2.1 z.2.2 ((z.1 : Int) % 5) (l[z.1]'hlt % 3)) (by first | omega | (dsimp only; omega)) (⟨by dsimp only; omega, hz.2.1.add _ _, by have := tAddM_length z.2.1 ((z.1 : Int) % 5) (l[z.1]'hlt % 3); dsimp only; omega, tAddM_keys hz.2.2.2 hwho _⟩) (by exact ⟨rfl, rfl, rfl, rfl, rfl, rfl, rfl, trivial⟩) (by repeat first|exact s0 _|exact s1 _|apply s2|apply s3)
  intro hc63
  refine SC.exit ?_
  refine SE.then_ (by intro h; cases h) ?_
  refine SE.then_ (by intro h; cases h) ?_
  refine SE.exit ?_
  refine SE.seq ?_
  refine SC.seq (SC.region ?_)
  refine SL.val (Val.move rfl) rfl rfl ?_
  refine SL.val (Val.move rfl) rfl rfl ?_
  refine SL.call (u8_least_s (t := z1.1) (bv := z1.2.1) (bn := z1.2.2) (m := z.2.1) (c := z.2.2) (at_ := at_) (by omega) hz.2.2.2) Casts.refl (by kernel_rfl) rfl rfl rfl ?_
  refine After.threeAt3 ⟨rfl, rfl, rfl⟩ (fun _ => rfl) ?_
  intro _
  refine SL.val (Val.move rfl) rfl rfl ?_
  refine SL.val (Val.extract rfl rfl) rfl rfl ?_
  refine SL.val (Val.extract rfl rfl) rfl rfl ?_
  refine SL.val (Val.assign rfl) rfl rfl ?_
  refine SL.val (Val.assign rfl) rfl rfl ?_
  refine SL.nil (SE.seq ?_)
  refine SC.seq (SC.region ?_)
  refine SL.val (Val.move rfl) rfl rfl ?_
  refine SL.val (Val.move rfl) rfl rfl ?_
  refine SL.call (p9_least_s (t := z2.1) (bv := z2.2.1) (bn := z2.2.2) (m := z.2.1) (c := z.2.2) (at_ := at_) (by omega) hz.2.2.2) Casts.refl (by kernel_rfl) rfl rfl rfl ?_
  refine After.three ⟨rfl, rfl, rfl⟩ (fun _ => rfl) ?_
  intro _
  rw [p9A_eq]
  refine SL.val (Val.move rfl) rfl rfl ?_
  refine SL.val (Val.extract rfl rfl) rfl rfl ?_
  refine SL.val (Val.extract rfl rfl) rfl rfl ?_
  refine SL.eff (Eff.alloc tabOk rfl) rfl rfl ?_
  rintro _ _ ⟨b18, rfl, rfl⟩
  refine SL.eff (Eff.store (L' := p9CO (leastO z.2.1 z.2.2 at_ (srt (z.2.1.map (·.1))))) tabOk rfl rfl rfl (by repeat first|assumption|exact Upd.here|apply Upd.there) (p9CO_len _) (Nat.le_of_ble_eq_true (by rfl)) (p9CO_ones _) (putL_whole (by exact p9CO_len _))) rfl rfl ?_
  rintro _ _ ⟨rfl, rfl⟩
  refine SL.val (Val.assign rfl) rfl rfl ?_
  refine SL.nil (SE.seq ?_)
  refine SC.seq (SC.region ?_)
  refine SL.val (Val.move rfl) rfl rfl ?_
  refine SL.val (Val.move rfl) rfl rfl ?_
  refine SL.val (Val.to (C := boo true) (Val.eqB rfl rfl (by kernel_rfl)) (congrArg (fun b => Abs.v (Value.bool b)) (by simp))) rfl rfl ?_
  refine SL.val (Val.move rfl) rfl rfl ?_
  refine SL.val (Val.move rfl) rfl rfl ?_
  refine SL.val (Val.notB rfl) rfl rfl ?_
  refine SL.val (Val.move rfl) rfl rfl ?_
  refine SL.both (t := 100) rfl ?_ ?_
  · intro hc100
    iterate 4 refine SL.skip rfl rfl ?_
    refine SL.val (Val.pickT rfl rfl) rfl rfl ?_
    refine SL.val (Val.pickT rfl rfl) rfl rfl ?_
    refine SL.val (Val.move rfl) rfl rfl ?_
    refine SL.val (Val.move rfl) rfl rfl ?_
    refine SL.call (u8_len_s (t := z1.1) (bv := z1.2.1) (bn := z1.2.2) (m := z.2.1) (c := z.2.2)) Casts.refl (by kernel_rfl) rfl rfl rfl ?_
    refine After.threeAt4 ⟨rfl, rfl, rfl⟩ (fun _ => rfl) ?_
    intro _
    refine SL.val (Val.move rfl) rfl rfl ?_
    refine SL.call (p9_len_s (t := z2.1) (bv := z2.2.1) (bn := z2.2.2) (m := z.2.1) (c := z.2.2)) Casts.refl (by kernel_rfl) rfl rfl rfl ?_
    refine After.threeAt1 ⟨rfl, rfl, rfl⟩ (fun _ => rfl) ?_
    intro _
    refine SL.val (Val.eqI rfl rfl) rfl rfl ?_
    refine SL.val (Val.pickT rfl rfl) rfl rfl ?_
    refine SL.val (Val.assign rfl) rfl rfl ?_
    refine SL.nil (SE.seq ?_)
    refine SC.ret ?_
    refine SE.fin (rs := [.tmp 4]) rfl (RV.tmp rfl RV.nil) (()) (by repeat first|exact s0 _|exact s1 _|apply s2|apply s3) (by simp [It.rids]) ?_
    first
      | rfl
      | exact congrArg (fun b => Abs.v (Value.bool b)) (decide_eq_true rfl)
  intro hc100
  have hsome : (leastO z.2.1 z.2.2 at_ (srt (z.2.1.map (·.1)))).isSome = true := by simpa using hc100
  obtain ⟨v, hv⟩ := isSome_some hsome
  rw [hv]
  refine SL.val (Val.to (C := .agg (p9C v)) (Val.loadA tabOk rfl rfl rfl (by first|(apply Or.inl;(repeat first|assumption|exact m0|apply m1);done)|(apply Or.inr;(repeat first|assumption|exact m0|apply m1);done)) List.not_mem_nil (p9CO_len _)) rfl) rfl rfl ?_
  refine SL.val (Val.move rfl) rfl rfl ?_
  refine SL.val (Val.to (C := .agg (p9C v)) (Val.buildA tabOk rfl rfl rfl rfl) rfl) rfl rfl ?_
  refine SL.val (Val.to (C := boo true) (Val.eqA (X' := [bc v, bc 9]) (Y' := [bc v, bc 9]) rfl rfl rfl rfl (by kernel_rfl) (eqp9 v v)) (congrArg (fun b => Abs.v (Value.bool b)) (decide_eq_true rfl))) rfl rfl ?_
  refine SL.val (Val.pickF rfl rfl) rfl rfl ?_
  refine SL.val (Val.pickT rfl rfl) rfl rfl ?_
  refine SL.val (Val.move rfl) rfl rfl ?_
  refine SL.val (Val.move rfl) rfl rfl ?_
  refine SL.call (u8_len_s (t := z1.1) (bv := z1.2.1) (bn := z1.2.2) (m := z.2.1) (c := z.2.2)) Casts.refl (by kernel_rfl) rfl rfl rfl ?_
  refine After.threeAt4 ⟨rfl, rfl, rfl⟩ (fun _ => rfl) ?_
  intro _
  refine SL.val (Val.move rfl) rfl rfl ?_
  refine SL.call (p9_len_s (t := z2.1) (bv := z2.2.1) (bn := z2.2.2) (m := z.2.1) (c := z.2.2)) Casts.refl (by kernel_rfl) rfl rfl rfl ?_
  refine After.threeAt1 ⟨rfl, rfl, rfl⟩ (fun _ => rfl) ?_
  intro _
  refine SL.val (Val.eqI rfl rfl) rfl rfl ?_
  refine SL.val (Val.pickT rfl rfl) rfl rfl ?_
  refine SL.val (Val.assign rfl) rfl rfl ?_
  refine SL.nil (SE.seq ?_)
  refine SC.ret ?_
  refine SE.fin (rs := [.tmp 4]) rfl (RV.tmp rfl RV.nil) (()) (by repeat first|exact s0 _|exact s1 _|apply s2|apply s3) (by simp [It.rids]) ?_
  first
    | rfl
    | exact congrArg (fun b => Abs.v (Value.bool b)) (decide_eq_true rfl)
end
end Go.Proofs.Ytonceioajbimaaa.A
