/-
  Packed out of the texts: TM6, TM7, TM8, TPad, TM9.
-/
import Derived.Test.YthaahcdfnmfihaaDoorS05
/-
  Policies' texts: how the program prints.
-/
set_option maxRecDepth 100000
set_option linter.unusedSimpArgs false
set_option linter.unusedVariables false
namespace Go.Proofs.YthaahcdfnmfihaaDoor.A
open Go.RowKit

theorem SC.perm {P : Program} {n : Nat} {W : Wd} {σ τ : Blks} {l : Slots} {Q : Exit → Act → World → Prop} {c : Code} (h : τ.Perm σ) (k : SC P c (St n W τ l) Q) : SC P c (St n W σ l) Q := fun a w hs => k a w (hs.perm h)
theorem SL.perm {P : Program} {n : Nat} {W : Wd} {σ τ : Blks} {l : Slots} {Q : Exit → Act → World → Prop} {ops : Array Oper} {rest : List Oper} (h : τ.Perm σ) (k : SL P ops rest (St n W τ l) Q) : SL P ops rest (St n W σ l) Q := fun a w hs => k a w (hs.perm h)
theorem tx_add (a b : ByteArray) : tx (a ++ b) = tx a ++ tx b := by simp [tx]
theorem st_add (l m : Txt) : Abs.v (.string ((ByteArray.mk l.toArray) ++ (ByteArray.mk m.toArray))) = stA (l ++ m) :=
  congrArg (fun s => Abs.v (.string s)) (tx_inj (by rw [tx_add, tx_mk, tx_mk, tx_mk]))
theorem tx_cut (s : ByteArray) (q q' : Nat) : tx (s.extract q q') = ((tx s).take q').drop q := by
  unfold tx
  rw [ByteArray.data_extract, Array.toList_extract]
  rw [List.extract_eq_take_drop]
  rw [List.take_drop]
  rcases Nat.lt_or_ge q' q with h | h
  · rw [show q' - q = 0 by omega, Nat.add_zero, List.drop_of_length_le (by rw [List.length_take]; omega), List.drop_of_length_le (by rw [List.length_take]; omega)]
  · rw [show q + (q' - q) = q' by omega]
theorem small_one {s : ByteArray} {i : Nat} (h : (List.range 10).all (fun i => decide (((tx s).take (i + 1)).drop i = digT i)) = true) (hi : i < 10) : Abs.v (.string (s.extract i (i + 1))) = stA (digT i) :=
  congrArg (fun s => Abs.v (.string s)) (tx_inj (by rw [tx_cut, tx_mk]; exact of_decide_eq_true (List.all_eq_true.1 h i (List.mem_range.2 hi))))
theorem small_two {s : ByteArray} {i : Nat} (h : (List.range 100).all (fun i => decide (i < 10 ∨ ((tx s).take (i * 2 + 2)).drop (i * 2) = digT i)) = true) (hi : i < 100) (h10 : ¬ i < 10) : Abs.v (.string (s.extract (i * 2) (i * 2 + 2))) = stA (digT i) :=
  congrArg (fun s => Abs.v (.string s)) (tx_inj (by
    rw [tx_cut, tx_mk]
    rcases of_decide_eq_true (List.all_eq_true.1 h i (List.mem_range.2 hi)) with h1 | h1
    · exact absurd h1 h10
    · exact h1))
section
variable {l r wd : Txt} {i : Nat} {v : Value} {n o a : Int} {ks : List Frm} {f : Frm}
theorem small_s (h9 : i < 100) : Spec Tryd.prog 63 [int (i : Nat)] [] (fun _ : Unit => []) (fun _ => stA (digT i)) := by
  refine spec_of Tryd.func63 rfl Tryd.ntmps63 rfl fun G w => ?_
  refine SC.seq (SC.region ?_)
  refine SL.val (Val.assign rfl) rfl rfl ?_
  refine SL.nil (SE.seq ?_)
  refine SC.seq ?_
  refine SC.seq (SC.region ?_)
  refine SL.val (Val.move rfl) rfl rfl ?_
  refine SL.val (Val.ltI rfl rfl) rfl rfl ?_
  refine SL.nil (SE.seq ?_)
  refine SC.condP rfl ?_ ?_
  · intro hc4
    refine SC.seq (SC.region ?_)
    refine SL.val (Val.move rfl) rfl rfl ?_
    refine SL.val (Val.move rfl) rfl rfl ?_
    first
      | refine SL.val (Val.addI rfl rfl (by simp only [InR, lo, hi]; omega)) rfl rfl ?_
      | refine SL.val (Val.addW rfl rfl) rfl rfl ?_
    refine SL.val (Val.to (C := stA (digT i)) (Val.sliceStAt (q := i) (q' := i + 1) Tryd.underlying9 rfl rfl rfl rfl (by omega) (by omega) (by show _ ≤ 36; omega)) (small_one (by kernel_rfl) (by omega))) rfl rfl ?_
    refine SL.val (Val.assign rfl) rfl rfl ?_
    refine SL.nil (SE.seq ?_)
    refine SC.ret ?_
    refine SE.then_ (by intro h; cases h) ?_
    refine SE.fin (rs := [.tmp 2]) rfl (RV.tmp rfl RV.nil) (()) (by repeat first|exact s0 _|exact s1 _|apply s2|apply s3) (by simp [It.rids]) ?_
    exact rfl
  intro hc4
  refine SC.skip ?_
  refine SE.seq ?_
  refine SC.seq (SC.region ?_)
  refine SL.val (Val.move rfl) rfl rfl ?_
  first
    | refine SL.val (Val.mulI rfl rfl (by simp only [InR, lo, hi]; omega)) rfl rfl ?_
    | refine SL.val (Val.mulW rfl rfl) rfl rfl ?_
  refine SL.val (Val.move rfl) rfl rfl ?_
  first
    | refine SL.val (Val.mulI rfl rfl (by simp only [InR, lo, hi]; omega)) rfl rfl ?_
    | refine SL.val (Val.mulW rfl rfl) rfl rfl ?_
  first
    | refine SL.val (Val.addI rfl rfl (by simp only [InR, lo, hi]; omega)) rfl rfl ?_
    | refine SL.val (Val.addW rfl rfl) rfl rfl ?_
  refine SL.val (Val.to (C := stA (digT i)) (Val.sliceStAt (q := i * 2) (q' := i * 2 + 2) Tryd.underlying9 rfl rfl rfl (by omega) (by omega) (by omega) (by show _ ≤ 200; omega)) (small_two (by kernel_rfl) h9 (by omega))) rfl rfl ?_
  refine SL.val (Val.assign rfl) rfl rfl ?_
  refine SL.nil (SE.seq ?_)
  refine SC.ret ?_
  refine SE.fin (rs := [.tmp 2]) rfl (RV.tmp rfl RV.nil) (()) (by repeat first|exact s0 _|exact s1 _|apply s2|apply s3) (by simp [It.rids]) ?_
  exact rfl
theorem appu_s (h9 : i < 100) (hr : r.length ≤ 1000000) : Spec Tryd.prog 53 [.v v, .v (.int .u64 (i : Nat)), int 10] [own 5 1 v (bs (r))] (fun z : Value => [own 5 1 z (bs (r ++ digT i))]) (fun z => .v z) := by
  have hdl := digT_len i
  refine spec_of Tryd.func53 rfl Tryd.ntmps53 rfl fun G w => ?_
  refine SC.seq (SC.region ?_)
  refine SL.val (Val.assign rfl) rfl rfl ?_
  refine SL.nil (SE.seq ?_)
  refine SC.seq ?_
  refine SC.seq (SC.region ?_)
  refine SL.val (Val.move rfl) rfl rfl ?_
  refine SL.val (Val.eqI rfl rfl) rfl rfl ?_
  refine SL.nil (SE.seq ?_)
  refine SC.condP rfl ?_ (by intro hc10; exfalso; omega)
  intro hc10
  refine SC.seq ?_
  refine SC.seq (SC.region ?_)
  refine SL.val (Val.move rfl) rfl rfl ?_
  refine SL.val (Val.ltI rfl rfl) rfl rfl ?_
  refine SL.nil (SE.seq ?_)
  refine SC.condP rfl ?_ (by intro hc12; exfalso; omega)
  intro hc12
  refine SC.seq (SC.region ?_)
  refine SL.val (Val.move rfl) rfl rfl ?_
  refine SL.val (Val.move rfl) rfl rfl ?_
  first
    | refine SL.val (Val.convI rfl Tryd.underlying3 (by kernel_rfl) (by simp only [InR, lo, hi]; omega)) rfl rfl ?_
    | refine SL.val (Val.convW rfl Tryd.underlying3 (by kernel_rfl)) rfl rfl ?_
  refine SL.call (small_s (i := i) h9) Casts.refl (by kernel_rfl) rfl rfl rfl ?_
  refine After.pure (by repeat first|exact .nil|refine .blk (by repeat first|assumption|exact m0|apply m1) ?_|refine .rd (by repeat first|assumption|exact m0|apply m1) ?_|refine .pc (by repeat first|assumption|exact m0|apply m1) ?_|refine .rdpc (by repeat first|assumption|exact m0|apply m1) ?_) (fun _ => rfl) ?_
  intro _
  refine SL.eff (Eff.appendSt (m := digT i) (r := r) [] Tryd.underlying36 Tryd.underlying9 info_u8 rfl rfl rfl (by omega)) rfl rfl ?_
  rintro _ _ ⟨r17, rfl, rfl⟩
  refine SL.val (Val.assign rfl) rfl rfl ?_
  refine SL.nil (SE.seq ?_)
  refine SC.ret ?_
  refine SE.then_ (by intro h; cases h) ?_
  refine SE.then_ (by intro h; cases h) ?_
  refine SE.fin (rs := [.tmp 6]) rfl (RV.tmp rfl RV.nil) (r17) (by repeat first|exact s0 _|exact s1 _|apply s2|apply s3) (by simp [It.rids]) ?_
  exact rfl
theorem appi0_s (h9 : i < 100) (hr : r.length ≤ 1000000) : Spec Tryd.prog 44 [.v v, .v (.int .i64 (i : Nat)), int 10] [own 5 1 v (bs (r))] (fun z : Value => [own 5 1 z (bs (r ++ digT i))]) (fun z => .v z) := by
  refine spec_of Tryd.func44 rfl Tryd.ntmps44 rfl fun G w => ?_
  refine SC.seq (SC.region ?_)
  refine SL.val (Val.assign rfl) rfl rfl ?_
  refine SL.nil (SE.seq ?_)
  refine SC.seq (SC.region ?_)
  refine SL.val (Val.move rfl) rfl rfl ?_
  first
    | refine SL.val (Val.convI rfl Tryd.underlying82 (by kernel_rfl) (by simp only [InR, lo, hi]; omega)) rfl rfl ?_
    | refine SL.val (Val.convU rfl Tryd.underlying82 (by kernel_rfl)) rfl rfl ?_
  refine SL.val (Val.assign rfl) rfl rfl ?_
  refine SL.nil (SE.seq ?_)
  refine SC.seq ?_
  refine SC.seq (SC.region ?_)
  refine SL.val (Val.move rfl) rfl rfl ?_
  refine SL.val (Val.ltI rfl rfl) rfl rfl ?_
  refine SL.nil (SE.seq ?_)
  refine SC.condP rfl (by intro hc11; exfalso; omega) ?_
  intro hc11
  refine SC.skip ?_
  refine SE.seq ?_
  refine SC.seq (SC.region ?_)
  refine SL.val (Val.move rfl) rfl rfl ?_
  refine SL.val (Val.move rfl) rfl rfl ?_
  refine SL.val (Val.move rfl) rfl rfl ?_
  refine SL.call (appu_s (v := v) (r := r) (i := i) h9 hr) Casts.refl (by kernel_rfl) rfl rfl rfl ?_
  refine After.mid [] (β := []) rfl (by intro x hx; simp only [List.mem_cons, List.not_mem_nil, or_false] at hx; rcases hx with rfl; rfl) ?_
  intro r20
  refine SL.val (Val.assign rfl) rfl rfl ?_
  refine SL.nil (SE.seq ?_)
  refine SC.ret ?_
  refine SE.fin (rs := [.tmp 6]) rfl (RV.tmp rfl RV.nil) (r20) (by repeat first|exact s0 _|exact s1 _|apply s2|apply s3) (by simp [It.rids]) ?_
  exact rfl
theorem appi_s (h9 : i < 100) (hr : r.length ≤ 1000000) : Spec Tryd.prog 33 [.v v, .v (.int .i64 (i : Nat)), int 10] [own 5 1 v (bs (r))] (fun z : Value => [own 5 1 z (bs (r ++ digT i))]) (fun z => .v z) := by
  refine spec_of Tryd.func33 rfl Tryd.ntmps33 rfl fun G w => ?_
  refine SC.seq (SC.region ?_)
  refine SL.val (Val.assign rfl) rfl rfl ?_
  refine SL.nil (SE.seq ?_)
  refine SC.seq (SC.region ?_)
  refine SL.val (Val.move rfl) rfl rfl ?_
  refine SL.val (Val.move rfl) rfl rfl ?_
  refine SL.val (Val.move rfl) rfl rfl ?_
  refine SL.call (appi0_s (v := v) (r := r) (i := i) h9 hr) Casts.refl (by kernel_rfl) rfl rfl rfl ?_
  refine After.mid [] (β := []) rfl (by intro x hx; simp only [List.mem_cons, List.not_mem_nil, or_false] at hx; rcases hx with rfl; rfl) ?_
  intro r10
  refine SL.val (Val.assign rfl) rfl rfl ?_
  refine SL.nil (SE.seq ?_)
  refine SC.ret ?_
  refine SE.fin (rs := [.tmp 6]) rfl (RV.tmp rfl RV.nil) (r10) (by repeat first|exact s0 _|exact s1 _|apply s2|apply s3) (by simp [It.rids]) ?_
  exact rfl
set_option maxHeartbeats 4000000 in
theorem write_step (ih : ∀ k ∈ ks, ∀ (v : Value) (r : Txt), k.nodes ≤ 32 → k.ranges 7 = true → r.length + 8 * k.nodes ≤ 100000 → Spec Tryd.prog 19 [.v v, .agg k.abs] [own 5 1 v (bs (r))] (fun z : Value => [own 5 1 z (bs (r ++ k.text))]) (fun z => .v z)) (hn : (Frm.mk o a ks).nodes ≤ 32) (hrg : (Frm.mk o a ks).ranges 7 = true) (hr : r.length + 8 * (Frm.mk o a ks).nodes ≤ 100000) : Spec Tryd.prog 19 [.v v, .agg (Frm.mk o a ks).abs] [own 5 1 v (bs (r))] (fun z : Value => [own 5 1 z (bs (r ++ (Frm.mk o a ks).text))]) (fun z => .v z) := by
  rw [Frm.abs_mk]
  have hkr := Frm.kids_range hrg
  have hlen := Frm.length_le ks
  rw [Frm.nodes_mk] at hn hr
  have hhl := headT_len a ks.length
  refine spec_of Tryd.func19 rfl Tryd.ntmps19 rfl fun G w => ?_
  refine SC.seq (SC.region ?_)
  refine SL.eff (Eff.boxA (cs := [int o, int a, .sl 3 (ks.map Frm.abs)]) rfl) rfl rfl ?_
  rintro _ _ ⟨b3, rfl, rfl⟩
  refine SL.perm (List.Perm.swap _ _ _) ?_
  refine SL.val (Val.assign rfl) rfl rfl ?_
  refine SL.nil (SE.seq ?_)
  refine SC.cutS (ι := Value) (fun z => [own 5 1 z (bs (r ++ headT a ks.length)), .blk b3 25 [int o, int a, .sl 3 (ks.map Frm.abs)]]) (fun z => [(0, .v z), (3, ptr b3)]) (fun z => ks ≠ []) ?_ ?_
  · skip
    refine SC.seq (SC.region ?_)
    refine SL.val (Val.fieldAddr tabOk rfl rfl rfl rfl rfl) rfl rfl ?_
    refine SL.val (Val.load1 tabOk rfl rfl (by first|(apply Or.inl;(repeat first|assumption|exact m0|apply m1);done)|(apply Or.inr;(repeat first|assumption|exact m0|apply m1);done)) List.not_mem_nil (by rfl)) rfl rfl ?_
    first
      | refine SL.val (Val.lenSl rfl Tryd.underlying23 (List.length_map _)) rfl rfl ?_
      | refine SL.val (Val.lenOwn rfl (by repeat first|assumption|exact m0|apply m1) Tryd.underlying23 (List.length_map _)) rfl rfl ?_
      | refine SL.val (Val.lenNil rfl Tryd.underlying23) rfl rfl ?_
    refine SL.val (Val.assign rfl) rfl rfl ?_
    refine SL.nil (SE.seq ?_)
    refine SC.block ?_
    refine SC.seq (SC.region ?_)
    refine SL.val (Val.move rfl) rfl rfl ?_
    refine SL.val (Val.eqI rfl rfl) rfl rfl ?_
    refine SL.val (Val.assign rfl) rfl rfl ?_
    refine SL.nil (SE.seq ?_)
    refine SC.condP rfl ?_ ?_
    · intro hc17
      have hk0 : ks = [] := List.eq_nil_of_length_eq_zero (by omega)
      subst hk0
      have hro := hrg
      rw [Frm.ranges_leaf, decide_eq_true_iff] at hro
      obtain ⟨m, rfl⟩ : ∃ m : Nat, o = (m : Nat) := ⟨o.toNat, by omega⟩
      refine SC.seq (SC.region ?_)
      refine SL.val (Val.move rfl) rfl rfl ?_
      refine SL.val (Val.fieldAddr tabOk rfl rfl rfl rfl rfl) rfl rfl ?_
      refine SL.val (Val.load1 tabOk rfl rfl (by first|(apply Or.inl;(repeat first|assumption|exact m0|apply m1);done)|(apply Or.inr;(repeat first|assumption|exact m0|apply m1);done)) List.not_mem_nil (by rfl)) rfl rfl ?_
      refine SL.call (appi_s (v := v) (r := r) (i := m) (by omega) (by omega)) Casts.refl (by kernel_rfl) rfl rfl rfl ?_
      refine After.mid [] (β := [_]) rfl (by intro x hx; simp only [List.mem_cons, List.not_mem_nil, or_false] at hx; rcases hx with rfl; rfl) ?_
      intro r23
      refine SL.val (Val.assign rfl) rfl rfl ?_
      refine SL.nil (SE.seq ?_)
      refine SC.ret ?_
      refine SE.ret ?_
      refine SE.then_ (by intro h; cases h) ?_
      refine SE.fin (rs := [.tmp 4]) rfl (RV.tmp rfl RV.nil) (r23) (by rw [Frm.text_leaf]; exact List.Sublist.cons_cons _ (List.nil_sublist _)) (by simp [It.rids]) ?_
      exact rfl
    intro hc17
    have hk0 : ks ≠ [] := by rintro rfl; simp at hc17
    have hro := hrg
    rw [Frm.ranges_node 7 o a hk0, Bool.and_eq_true, decide_eq_true_iff] at hro
    obtain ⟨m, rfl⟩ : ∃ m : Nat, a = (m : Nat) := ⟨a.toNat, by omega⟩
    refine SC.seq (SC.region ?_)
    refine SL.val (Val.fieldAddr tabOk rfl rfl rfl rfl rfl) rfl rfl ?_
    refine SL.val (Val.load1 tabOk rfl rfl (by first|(apply Or.inl;(repeat first|assumption|exact m0|apply m1);done)|(apply Or.inr;(repeat first|assumption|exact m0|apply m1);done)) List.not_mem_nil (by rfl)) rfl rfl ?_
    refine SL.val (Val.move rfl) rfl rfl ?_
    refine SL.val (Val.eqI rfl rfl) rfl rfl ?_
    refine SL.val (Val.assign rfl) rfl rfl ?_
    refine SL.nil (SE.seq ?_)
    refine SC.condP rfl ?_ ?_
    · intro hc24
      refine SC.region ?_
      refine SL.val (Val.move rfl) rfl rfl ?_
      refine SL.eff (Eff.appendSt (m := [97, 108, 108]) (r := r) [] Tryd.underlying36 Tryd.underlying9 info_u8 rfl rfl rfl (by simp only [List.length_cons, List.length_nil]; omega)) rfl rfl ?_
      rintro _ _ ⟨r30, rfl, rfl⟩
      refine SL.val (Val.assign rfl) rfl rfl ?_
      refine SL.nil ?_
      refine SE.inBlock ?_
      refine SE.meet (r30) (hk0) (by exact ⟨rfl, rfl, trivial⟩) (by rw [show headT (m : Nat) ks.length = [97, 108, 108] from if_pos hc24]; exact List.Sublist.refl _)
    intro hc24
    refine SC.seq (SC.region ?_)
    refine SL.val (Val.fieldAddr tabOk rfl rfl rfl rfl rfl) rfl rfl ?_
    refine SL.val (Val.load1 tabOk rfl rfl (by first|(apply Or.inl;(repeat first|assumption|exact m0|apply m1);done)|(apply Or.inr;(repeat first|assumption|exact m0|apply m1);done)) List.not_mem_nil (by rfl)) rfl rfl ?_
    refine SL.val (Val.eqI rfl rfl) rfl rfl ?_
    refine SL.val (Val.assign rfl) rfl rfl ?_
    refine SL.nil (SE.seq ?_)
    refine SC.condP rfl ?_ ?_
    · intro hc31
      refine SC.region ?_
      refine SL.val (Val.move rfl) rfl rfl ?_
      refine SL.eff (Eff.appendSt (m := [97, 110, 121]) (r := r) [] Tryd.underlying36 Tryd.underlying9 info_u8 rfl rfl rfl (by simp only [List.length_cons, List.length_nil]; omega)) rfl rfl ?_
      rintro _ _ ⟨r36, rfl, rfl⟩
      refine SL.val (Val.assign rfl) rfl rfl ?_
      refine SL.nil ?_
      refine SE.inBlock ?_
      refine SE.meet (r36) (hk0) (by exact ⟨rfl, rfl, trivial⟩) (by rw [show headT (m : Nat) ks.length = [97, 110, 121] from (if_neg hc24).trans (if_pos hc31)]; exact List.Sublist.refl _)
    intro hc31
    refine SC.region ?_
    refine SL.val (Val.move rfl) rfl rfl ?_
    refine SL.val (Val.fieldAddr tabOk rfl rfl rfl rfl rfl) rfl rfl ?_
    refine SL.val (Val.load1 tabOk rfl rfl (by first|(apply Or.inl;(repeat first|assumption|exact m0|apply m1);done)|(apply Or.inr;(repeat first|assumption|exact m0|apply m1);done)) List.not_mem_nil (by rfl)) rfl rfl ?_
    refine SL.call (appi_s (v := v) (r := r) (i := m) (by omega) (by omega)) Casts.refl (by kernel_rfl) rfl rfl rfl ?_
    refine After.mid [] (β := [_]) rfl (by intro x hx; simp only [List.mem_cons, List.not_mem_nil, or_false] at hx; rcases hx with rfl; rfl) ?_
    intro r15
    refine SL.eff (Eff.appendSt (m := [111, 102]) (r := r ++ digT m) [] Tryd.underlying36 Tryd.underlying9 info_u8 rfl rfl rfl (by have := digT_len m; simp only [List.length_append, List.length_cons, List.length_nil]; omega)) rfl rfl ?_
    rintro _ _ ⟨r16, rfl, rfl⟩
    refine SL.val (Val.assign rfl) rfl rfl ?_
    refine SL.nil ?_
    refine SE.inBlock ?_
    refine SE.meet (r16) (hk0) (by exact ⟨rfl, rfl, trivial⟩) (by rw [show headT (m : Nat) ks.length = digT m ++ [111, 102] from (if_neg hc24).trans (if_neg hc31), ← List.append_assoc]; exact List.Sublist.refl _)
  · intro z hz
    have hk0 : ks ≠ [] := hz
    refine SC.seq (SC.region ?_)
    refine SL.val (Val.assign rfl) rfl rfl ?_
    refine SL.nil (SE.seq ?_)
    refine SC.seq ?_
    refine SC.seq (SC.region ?_)
    refine SL.val (Val.fieldAddr tabOk rfl rfl rfl rfl rfl) rfl rfl ?_
    refine SL.val (Val.load1 tabOk rfl rfl (by first|(apply Or.inl;(repeat first|assumption|exact m0|apply m1);done)|(apply Or.inr;(repeat first|assumption|exact m0|apply m1);done)) List.not_mem_nil (by rfl)) rfl rfl ?_
    first
      | refine SL.val (Val.lenSl rfl Tryd.underlying23 (List.length_map _)) rfl rfl ?_
      | refine SL.val (Val.lenOwn rfl (by repeat first|assumption|exact m0|apply m1) Tryd.underlying23 (List.length_map _)) rfl rfl ?_
      | refine SL.val (Val.lenNil rfl Tryd.underlying23) rfl rfl ?_
    refine SL.val (Val.move rfl) rfl rfl ?_
    refine SL.nil (SE.seq ?_)
    refine SC.block ?_
    refine SC.loop (ι := Nat × Value) (fun z => [own 5 1 z.2 (bs (r ++ headT a ks.length ++ rowZ ks z.1)), .blk b3 25 [int o, int a, .sl 3 (ks.map Frm.abs)]]) (fun z => [(0, .v z.2), (3, ptr b3), (6, .v (.int .u8 ((sepT z.1).toNat : Nat))), (38, .sl 3 (ks.map Frm.abs)), (39, int (ks.length : Nat)), (40, int (z.1 : Nat))]) (fun z => z.1 ≤ ks.length) (fun z => ks.length - z.1) (0, z) (Nat.zero_le _) (by exact ⟨rfl, rfl, rfl, rfl, rfl, rfl, trivial⟩) (by rw [show rowZ ks 0 = [] from rfl, List.append_nil]; exact List.Sublist.refl _) ?_
    intro z hz
    refine SC.seq (SC.region ?_)
    refine SL.val (Val.ltI rfl rfl) rfl rfl ?_
    refine SL.nil (SE.seq ?_)
    refine SC.seq ?_
    refine SC.condP rfl ?_ ?_
    rotate_left
    · intro hc41
      have hz2 : z.1 = ks.length := by omega
      have hrl := rowZ_len ks z.1
      have htl := Frm.take_nodes (ks := ks) z.1
      refine SC.exit ?_
      refine SE.then_ (by intro h; cases h) ?_
      refine SE.then_ (by intro h; cases h) ?_
      refine SE.exit ?_
      refine SE.seq ?_
      refine SC.seq (SC.region ?_)
      refine SL.val (Val.move rfl) rfl rfl ?_
      refine SL.eff (Eff.buildSl tabOk Tryd.underlying36 rfl rfl rfl rfl rfl rfl rfl) rfl rfl ?_
      rintro _ _ ⟨rfl, rfl⟩
      refine SL.eff (Eff.appendE (zs := bs (r ++ headT a ks.length ++ rowZ ks z.1 ++ [41])) tabOk [] (by rw [show bs (r ++ headT a ks.length ++ rowZ ks z.1 ++ [41]) = bs (r ++ headT a ks.length ++ rowZ ks z.1) ++ bs [41] from List.map_append]; rfl) Tryd.underlying36 rfl rfl rfl rfl rfl rfl (by intro c hc; rw [List.mem_singleton] at hc; subst hc; rfl) (by unfold maxLen; simp only [bs, List.length_map, List.length_append, List.length_cons, List.length_nil]; omega) (by rw [show Tryd.prog.bytesOf 5 = 1 by kernel_rfl]; simp only [bs, List.length_map, List.length_append, List.length_cons, List.length_nil]; omega)) rfl rfl ?_
      rintro _ _ ⟨r53, rfl, rfl⟩
      refine SL.val (Val.assign rfl) rfl rfl ?_
      refine SL.nil (SE.seq ?_)
      refine SC.ret ?_
      refine SE.fin (rs := [.tmp 4]) rfl (RV.tmp rfl RV.nil) (r53) (by rw [show r ++ (Frm.mk o a ks).text = r ++ headT a ks.length ++ rowZ ks z.1 ++ [41] by rw [Frm.text_node o _ hk0, hz2, rowZ_all hk0]; simp only [List.append_assoc]]; exact List.Sublist.cons_cons _ (List.nil_sublist _)) (by simp [It.rids]) ?_
      exact rfl
    intro hc41
    have hlt : z.1 < ks.length := by omega
    have hkz := Frm.nodes_mem (List.getElem_mem hlt)
    have htn := Frm.take_nodes1 hlt
    have htl := Frm.take_nodes (ks := ks) (z.1 + 1)
    have hrl := rowZ_len ks z.1
    refine SC.skip ?_
    refine SE.seq ?_
    refine SC.seq ?_
    refine SC.block ?_
    refine SC.seq (SC.region ?_)
    refine SL.val (Val.indexSl tabOk Tryd.underlying23 rfl rfl rfl rfl (at_map (by omega)) rfl rfl) rfl rfl ?_
    refine SL.val (Val.loadAR tabOk rfl rfl rfl (Frm.abs_len _)) rfl rfl ?_
    refine SL.eff (Eff.alloc tabOk rfl) rfl rfl ?_
    rintro _ _ ⟨b8, rfl, rfl⟩
    refine SL.eff (Eff.store (L' := (ks[z.1]'hlt).abs) tabOk rfl rfl rfl (by repeat first|assumption|exact Upd.here|apply Upd.there) (by exact Frm.abs_len _) (Nat.le_of_ble_eq_true (by rfl)) (by exact Frm.abs_ones _) (putL_whole (by exact Frm.abs_len _))) rfl rfl ?_
    rintro _ _ ⟨rfl, rfl⟩
    refine SL.nil (SE.seq ?_)
    refine SC.seq ?_
    refine SC.perm (List.Perm.swap _ _ _) ?_
    refine SC.known (p := b8 ∉ (mids [own 5 1 z.2 (bs (r ++ headT a ks.length ++ rowZ ks z.1))] ++ [])) (fun _ _ h => by
        have h1 := h.mem.nodup
        simp [mids, It.mids, ownPc] at h1 ⊢
        grind) fun hX => ?_
    refine SC.draw (mids [own 5 1 z.2 (bs (r ++ headT a ks.length ++ rowZ ks z.1))] ++ []) (.q 0 (.q 1 (.q 4 (.e 2 (.e 3 (.e 5 (.q 6 .nil))))))) (by kernel_rfl) (by kernel_rfl) ?_
    refine SX.hx (by first|(simp[mids,It.mids,ownPc];done)|(intro k hk;simp[mids,It.mids,ownPc] at hk ⊢;grind)) fun hx9 => ?_
    refine SX.val rfl (Val.move rfl) hx9 rfl rfl ?_
    refine SX.val rfl (Val.move rfl) hx9 rfl rfl ?_
    refine SX.val rfl (Val.loadA tabOk rfl rfl rfl (by first|(apply Or.inl;(repeat first|assumption|exact m0|apply m1);done)|(apply Or.inr;(repeat first|assumption|exact m0|apply m1);done)) hX (Frm.abs_len _)) hx9 rfl rfl ?_
    refine SX.eff rfl (Eff.buildSl tabOk Tryd.underlying36 rfl rfl rfl rfl rfl rfl rfl) (by simp) rfl rfl ?_
    rintro _ _ ⟨rfl, rfl⟩
    refine SX.effN [own 5 1 z.2 (bs (r ++ headT a ks.length ++ rowZ ks z.1))] [] rfl (Eff.appendE (zs := bs (r ++ headT a ks.length ++ rowZ ks z.1 ++ [sepT z.1])) tabOk [] (by rw [show bs (r ++ headT a ks.length ++ rowZ ks z.1 ++ [sepT z.1]) = bs (r ++ headT a ks.length ++ rowZ ks z.1) ++ bs [sepT z.1] from List.map_append]; rfl) Tryd.underlying36 rfl rfl rfl rfl rfl rfl (by intro c hc; rw [List.mem_singleton] at hc; subst hc; rfl) (by unfold maxLen; simp only [bs, List.length_map, List.length_append, List.length_cons, List.length_nil]; omega) (by rw [show Tryd.prog.bytesOf 5 = 1 by kernel_rfl]; simp only [bs, List.length_map, List.length_append, List.length_cons, List.length_nil]; omega)) rfl (by first | exact own_mid List.mem_cons_self | (simp; done) | (intro k hk; simp [mids, It.mids, ownPc] at hk ⊢; exact hk)) rfl rfl ?_
    rintro _ _ ⟨r47, rfl, rfl⟩
    refine ⟨[own 5 1 r47 (bs (r ++ headT a ks.length ++ rowZ ks z.1 ++ [sepT z.1]))], rfl, ?_⟩
    refine SX.callX ([]) rfl (ih (ks[z.1]'hlt) (List.getElem_mem hlt) r47 (r ++ headT a ks.length ++ rowZ ks z.1 ++ [sepT z.1]) (by omega) (hkr _ (List.getElem_mem hlt)) (by simp only [List.length_append, List.length_cons, List.length_nil]; omega)) (by simp [mids, It.mids, ownPc]) (by simp) Casts.refl (by kernel_rfl) rfl rfl rfl ?_
    refine After.mid [] (β := [_, _]) rfl (by intro x hx; simp only [List.mem_cons, List.not_mem_nil, or_false] at hx; rcases hx with rfl; rfl) ?_
    intro z49
    refine SX.val rfl (Val.assign rfl) (by simp) rfl rfl ?_
    refine SX.nil (SE.seq ?_)
    refine SC.region ?_
    refine SL.val (Val.assign rfl) rfl rfl ?_
    refine SL.nil ?_
    refine SE.inBlock ?_
    refine SE.seq ?_
    refine SC.region ?_
    first
      | refine SL.val (Val.addI rfl rfl (by simp only [InR, lo, hi]; omega)) rfl rfl ?_
      | refine SL.val (Val.addW rfl rfl) rfl rfl ?_
    refine SL.val (Val.move rfl) rfl rfl ?_
    refine SL.nil ?_
    refine SE.round (z.1 + 1, z49) (by first | omega | (dsimp only; omega)) (by first | omega | (dsimp only; omega)) (by exact ⟨rfl, rfl, congrArg (fun k : UInt8 => some (Abs.v (.int .u8 (k.toNat : Nat)))) (show (44 : UInt8) = sepT (z.1 + 1) from (if_neg (by omega)).symm), rfl, rfl, rfl, trivial⟩) (by rw [rowZ_next hlt]; simp only [List.append_assoc]; repeat (first | exact List.nil_sublist _ | exact List.Sublist.refl _ | apply List.Sublist.cons_cons | apply List.Sublist.cons))
theorem write_s (f : Frm) : ∀ (v : Value) (r : Txt), f.nodes ≤ 32 → f.ranges 7 = true → r.length + 8 * f.nodes ≤ 100000 → Spec Tryd.prog 19 [.v v, .agg f.abs] [own 5 1 v (bs (r))] (fun z : Value => [own 5 1 z (bs (r ++ f.text))]) (fun z => .v z) := Frm.ind (p := fun f => ∀ (v : Value) (r : Txt), f.nodes ≤ 32 → f.ranges 7 = true → r.length + 8 * f.nodes ≤ 100000 → Spec Tryd.prog 19 [.v v, .agg f.abs] [own 5 1 v (bs (r))] (fun z : Value => [own 5 1 z (bs (r ++ f.text))]) (fun z => .v z)) (fun o a ks ih v r hn hrg hr => write_step ih hn hrg hr) f
end
end Go.Proofs.YthaahcdfnmfihaaDoor.A
/-
  Policies' texts: Print, the document's, and whether policies are alike.
-/
set_option maxRecDepth 100000
set_option linter.unusedSimpArgs false
set_option linter.unusedVariables false
namespace Go.Proofs.YthaahcdfnmfihaaDoor.A
open Go.RowKit

theorem sep_len (j : Nat) : (if j = 0 then [] else [44] : Txt).length ≤ 1 := by split <;> simp
section
variable {l r wd : Txt} {i : Nat} {n o a : Int} {ks : List Frm} {f : Frm} {es er : Value}
theorem print_s (hn : f.nodes ≤ 1099511627000) : Spec Tryd.prog 11 [.agg f.abs] [] (fun _ : Unit => []) (fun _ => stA (printF f)) := by
  refine spec_of Tryd.func11 rfl Tryd.ntmps11 rfl fun G w => ?_
  refine SC.seq (SC.region ?_)
  refine SL.eff (Eff.boxA (cs := f.abs) rfl) rfl rfl ?_
  rintro _ _ ⟨b1, rfl, rfl⟩
  refine SL.val (Val.assign rfl) rfl rfl ?_
  refine SL.nil (SE.seq ?_)
  refine SC.seq ?_
  refine SC.seq (SC.region ?_)
  refine SL.val (Val.loadA tabOk rfl rfl rfl (by first|(apply Or.inl;(repeat first|assumption|exact m0|apply m1);done)|(apply Or.inr;(repeat first|assumption|exact m0|apply m1);done)) List.not_mem_nil (Frm.abs_len _)) rfl rfl ?_
  refine SL.call (fcheck_s (f := f) (n := 7) hn) Casts.refl (by kernel_rfl) rfl rfl rfl ?_
  refine After.pure (by repeat first|exact .nil|refine .blk (by repeat first|assumption|exact m0|apply m1) ?_|refine .rd (by repeat first|assumption|exact m0|apply m1) ?_|refine .pc (by repeat first|assumption|exact m0|apply m1) ?_|refine .rdpc (by repeat first|assumption|exact m0|apply m1) ?_) (fun _ => rfl) ?_
  intro _
  refine SL.val (Val.neI rfl rfl) rfl rfl ?_
  refine SL.nil (SE.seq ?_)
  refine SC.condP rfl ?_ ?_
  · intro hc5
    refine SC.seq (SC.region ?_)
    refine SL.val (Val.assign rfl) rfl rfl ?_
    refine SL.nil (SE.seq ?_)
    refine SC.ret ?_
    refine SE.then_ (by intro h; cases h) ?_
    refine SE.fin (rs := [.tmp 2]) rfl (RV.tmp rfl RV.nil) (()) (by repeat first|exact s0 _|exact s1 _|apply s2|apply s3) (by simp [It.rids]) ?_
    rw [show printF f = [] from if_neg hc5]
    rfl
  intro hc5
  refine SC.skip ?_
  refine SE.seq ?_
  refine SC.seq (SC.region ?_)
  refine SL.val (Val.loadA tabOk rfl rfl rfl (by first|(apply Or.inl;(repeat first|assumption|exact m0|apply m1);done)|(apply Or.inr;(repeat first|assumption|exact m0|apply m1);done)) List.not_mem_nil (Frm.abs_len _)) rfl rfl ?_
  refine SL.own0 5 1 ?_
  have hck := Frm.check_ok.1 (Classical.byContradiction hc5)
  refine SL.call (write_s f (.slice none 0 0) [] (by omega) hck.2.2.2 (by simp only [List.length_nil]; omega)) Casts.refl (by kernel_rfl) rfl rfl rfl ?_
  refine After.mid [] (β := [_]) rfl (by intro x hx; simp only [List.mem_cons, List.not_mem_nil, or_false] at hx; rcases hx with rfl; rfl) ?_
  intro z7
  refine SL.freeze [] (t := 7) rfl rfl ?_
  refine SL.val (Val.strOf (m := [] ++ f.text) rfl) rfl rfl ?_
  refine SL.val (Val.assign rfl) rfl rfl ?_
  refine SL.nil (SE.seq ?_)
  refine SC.ret ?_
  refine SE.fin (rs := [.tmp 2]) rfl (RV.tmp rfl RV.nil) (()) (by repeat first|exact s0 _|exact s1 _|apply s2|apply s3) (by simp [It.rids]) ?_
  rw [show printF f = f.text from if_pos (Classical.byContradiction hc5)]
  rfl
theorem rright_s (hn : f.nodes ≤ 1099511627000) : Spec Tryd.prog 20 [.agg f.abs] [] (fun _ : Unit => []) (fun _ => boo (decide (f.check 7 = 0))) := by
  refine spec_of Tryd.func20 rfl Tryd.ntmps20 rfl fun G w => ?_
  refine SC.seq (SC.region ?_)
  refine SL.eff (Eff.boxA (cs := f.abs) rfl) rfl rfl ?_
  rintro _ _ ⟨b1, rfl, rfl⟩
  refine SL.val (Val.assign rfl) rfl rfl ?_
  refine SL.nil (SE.seq ?_)
  refine SC.seq (SC.region ?_)
  refine SL.val (Val.loadA tabOk rfl rfl rfl (by first|(apply Or.inl;(repeat first|assumption|exact m0|apply m1);done)|(apply Or.inr;(repeat first|assumption|exact m0|apply m1);done)) List.not_mem_nil (Frm.abs_len _)) rfl rfl ?_
  refine SL.call (rfcheck_s (f := f) (n := 7) hn) Casts.refl (by kernel_rfl) rfl rfl rfl ?_
  refine After.pure (by repeat first|exact .nil|refine .blk (by repeat first|assumption|exact m0|apply m1) ?_|refine .rd (by repeat first|assumption|exact m0|apply m1) ?_|refine .pc (by repeat first|assumption|exact m0|apply m1) ?_|refine .rdpc (by repeat first|assumption|exact m0|apply m1) ?_) (fun _ => rfl) ?_
  intro _
  refine SL.val (Val.eqI rfl rfl) rfl rfl ?_
  refine SL.val (Val.assign rfl) rfl rfl ?_
  refine SL.nil (SE.seq ?_)
  refine SC.ret ?_
  refine SE.fin (rs := [.tmp 2]) rfl (RV.tmp rfl RV.nil) (()) (by repeat first|exact s0 _|exact s1 _|apply s2|apply s3) (by simp [It.rids]) ?_
  exact rfl
theorem dig1_s (h9 : i < 10) : Spec Tryd.prog 34 [int (i : Nat)] [] (fun _ : Unit => []) (fun _ => stA [dg i]) := by
  refine spec_of Tryd.func34 rfl Tryd.ntmps34 rfl fun G w => ?_
  refine SC.seq (SC.region ?_)
  refine SL.val (Val.assign rfl) rfl rfl ?_
  refine SL.nil (SE.seq ?_)
  refine SC.seq ?_
  refine SC.seq (SC.region ?_)
  refine SL.val (Val.move rfl) rfl rfl ?_
  refine SL.val (Val.ltI rfl rfl) rfl rfl ?_
  refine SL.nil (SE.seq ?_)
  refine SC.condP rfl ?_ (by intro hc4; exfalso; omega)
  intro hc4
  refine SC.seq (SC.region ?_)
  refine SL.val (Val.move rfl) rfl rfl ?_
  refine SL.val (Val.addI rfl rfl (by simp only [InR, lo, hi]; omega)) rfl rfl ?_
  refine SL.val (Val.to (C := .v (bc (dg (i)))) (Val.convI rfl Tryd.underlying5 (by kernel_rfl) (by simp only [InR, lo, hi]; omega)) (congrArg (fun x : Int => Abs.v (.int .u8 x)) (by rw [dg_nat h9]; omega))) rfl rfl ?_
  refine SL.eff (Eff.buildSl tabOk Tryd.underlying36 rfl rfl rfl rfl rfl rfl rfl) rfl rfl ?_
  rintro _ _ ⟨rfl, rfl⟩
  refine SL.val (Val.strOf (m := [dg i]) rfl) rfl rfl ?_
  refine SL.val (Val.assign rfl) rfl rfl ?_
  refine SL.nil (SE.seq ?_)
  refine SC.ret ?_
  refine SE.then_ (by intro h; cases h) ?_
  refine SE.fin (rs := [.tmp 2]) rfl (RV.tmp rfl RV.nil) (()) (by repeat first|exact s0 _|exact s1 _|apply s2|apply s3) (by simp [It.rids]) ?_
  exact rfl
theorem dig_s (h9 : i < 100) : Spec Tryd.prog 34 [int (i : Nat)] [] (fun _ : Unit => []) (fun _ => stA (digT i)) := by
  refine spec_of Tryd.func34 rfl Tryd.ntmps34 rfl fun G w => ?_
  refine SC.seq (SC.region ?_)
  refine SL.val (Val.assign rfl) rfl rfl ?_
  refine SL.nil (SE.seq ?_)
  refine SC.seq ?_
  refine SC.seq (SC.region ?_)
  refine SL.val (Val.move rfl) rfl rfl ?_
  refine SL.val (Val.ltI rfl rfl) rfl rfl ?_
  refine SL.nil (SE.seq ?_)
  refine SC.condP rfl ?_ ?_
  · intro hc4
    refine SC.seq (SC.region ?_)
    refine SL.val (Val.move rfl) rfl rfl ?_
    refine SL.val (Val.addI rfl rfl (by simp only [InR, lo, hi]; omega)) rfl rfl ?_
    refine SL.val (Val.to (C := .v (bc (dg (i)))) (Val.convI rfl Tryd.underlying5 (by kernel_rfl) (by simp only [InR, lo, hi]; omega)) (congrArg (fun x : Int => Abs.v (.int .u8 x)) (by rw [dg_nat (show i < 10 by omega)]; omega))) rfl rfl ?_
    refine SL.eff (Eff.buildSl tabOk Tryd.underlying36 rfl rfl rfl rfl rfl rfl rfl) rfl rfl ?_
    rintro _ _ ⟨rfl, rfl⟩
    refine SL.val (Val.strOf (m := [dg i]) rfl) rfl rfl ?_
    refine SL.val (Val.assign rfl) rfl rfl ?_
    refine SL.nil (SE.seq ?_)
    refine SC.ret ?_
    refine SE.then_ (by intro h; cases h) ?_
    refine SE.fin (rs := [.tmp 2]) rfl (RV.tmp rfl RV.nil) (()) (by repeat first|exact s0 _|exact s1 _|apply s2|apply s3) (by simp [It.rids]) ?_
    rw [digT_one (show i < 10 by omega)]
    rfl
  intro hc4
  refine SC.skip ?_
  refine SE.seq ?_
  refine SC.seq ?_
  refine SC.draw [] (.q 0 (.q 1 (.q 3 (.q 4 (.q 5 (.q 6 (.two 2 7 (.e 7 (.q 8 (.q 9 (.q 10 .nil)))) (.q 8 (.e 2 (.q 9 (.q 10 .nil))))))))))) (by kernel_rfl) (by kernel_rfl) ?_
  refine SX.val rfl (Val.move rfl) (by simp) rfl rfl ?_
  refine SX.hx (by first|(simp[mids,It.mids,ownPc];done)|(intro k hk;simp[mids,It.mids,ownPc] at hk ⊢;grind)) fun hx9 => ?_
  refine SX.val rfl (Val.to (C := int ((i / 10 : Nat) : Int)) (Val.quoI rfl rfl (by omega) (by simp only [InR, lo, hi]; omega)) (congrArg int (by omega))) hx9 rfl rfl ?_
  refine SX.val rfl (Val.move rfl) (by simp) rfl rfl ?_
  refine SX.val rfl (Val.to (C := int ((i % 10 : Nat) : Int)) (Val.remI rfl rfl (by omega)) (congrArg int (by omega))) hx9 rfl rfl ?_
  first
    | refine SX.val rfl (Val.addI rfl rfl (by simp only [InR, lo, hi]; omega)) (by simp) rfl rfl ?_
    | refine SX.val rfl (Val.addW rfl rfl) (by simp) rfl rfl ?_
  refine SX.val rfl (Val.to (C := .v (bc (dg (i % 10)))) (Val.convI rfl Tryd.underlying5 (by kernel_rfl) (by simp only [InR, lo, hi]; omega)) (congrArg (fun x : Int => Abs.v (.int .u8 x)) (by rw [dg_nat (show i % 10 < 10 by omega)]; omega))) hx9 rfl rfl ?_
  refine SX.two ?_ ?_
  · skip
    refine SX.call rfl (dig1_s (i := i / 10) (by omega)) (by simp [mids, It.mids]) Casts.refl (by kernel_rfl) rfl rfl rfl ?_
    refine After.pure (by repeat first|exact .nil|refine .blk (by repeat first|assumption|exact m0|apply m1) ?_|refine .rd (by repeat first|assumption|exact m0|apply m1) ?_|refine .pc (by repeat first|assumption|exact m0|apply m1) ?_|refine .rdpc (by repeat first|assumption|exact m0|apply m1) ?_) (fun _ => rfl) ?_
    intro _
    refine SX.eff rfl (Eff.buildSl tabOk Tryd.underlying36 rfl rfl rfl rfl rfl rfl rfl) (by simp) rfl rfl ?_
    rintro _ _ ⟨rfl, rfl⟩
    refine SX.hx (by first|(simp[mids,It.mids,ownPc];done)|(intro k hk;simp[mids,It.mids,ownPc] at hk ⊢;grind)) fun hx9 => ?_
    refine SX.val rfl (Val.strOf (m := [dg (i % 10)]) rfl) hx9 rfl rfl ?_
    refine SX.val rfl (Val.to (C := stA ([dg (i / 10)] ++ [dg (i % 10)])) (Val.addS rfl rfl (by simp only [tx_size, List.length_append, List.length_cons, List.length_nil]; omega)) (st_add _ _)) hx9 rfl rfl ?_
    refine SX.val rfl (Val.assign rfl) (by simp) rfl rfl ?_
    refine SX.nil (SE.seq ?_)
    refine SC.ret ?_
    refine SE.fin (rs := [.tmp 2]) rfl (RV.tmp rfl RV.nil) (()) (by repeat first|exact s0 _|exact s1 _|apply s2|apply s3) (by simp [It.rids]) ?_
    rw [digT_two (show ¬ i < 10 by omega)]
    rfl
  · skip
    refine SX.eff rfl (Eff.buildSl tabOk Tryd.underlying36 rfl rfl rfl rfl rfl rfl rfl) (by simp) rfl rfl ?_
    rintro _ _ ⟨rfl, rfl⟩
    refine SX.hx (by first|(simp[mids,It.mids,ownPc];done)|(intro k hk;simp[mids,It.mids,ownPc] at hk ⊢;grind)) fun hx9 => ?_
    refine SX.val rfl (Val.strOf (m := [dg (i % 10)]) rfl) hx9 rfl rfl ?_
    refine SX.call rfl (dig1_s (i := i / 10) (by omega)) (by simp [mids, It.mids]) Casts.refl (by kernel_rfl) rfl rfl rfl ?_
    refine After.pure (by repeat first|exact .nil|refine .blk (by repeat first|assumption|exact m0|apply m1) ?_|refine .rd (by repeat first|assumption|exact m0|apply m1) ?_|refine .pc (by repeat first|assumption|exact m0|apply m1) ?_|refine .rdpc (by repeat first|assumption|exact m0|apply m1) ?_) (fun _ => rfl) ?_
    intro _
    refine SX.hx (by first|(simp[mids,It.mids,ownPc];done)|(intro k hk;simp[mids,It.mids,ownPc] at hk ⊢;grind)) fun hx9 => ?_
    refine SX.val rfl (Val.to (C := stA ([dg (i / 10)] ++ [dg (i % 10)])) (Val.addS rfl rfl (by simp only [tx_size, List.length_append, List.length_cons, List.length_nil]; omega)) (st_add _ _)) hx9 rfl rfl ?_
    refine SX.val rfl (Val.assign rfl) (by simp) rfl rfl ?_
    refine SX.nil (SE.seq ?_)
    refine SC.ret ?_
    refine SE.fin (rs := [.tmp 2]) rfl (RV.tmp rfl RV.nil) (()) (by repeat first|exact s0 _|exact s1 _|apply s2|apply s3) (by simp [It.rids]) ?_
    rw [digT_two (show ¬ i < 10 by omega)]
    rfl
set_option maxHeartbeats 4000000 in
theorem rprint_step (ih : ∀ k ∈ ks, k.nodes ≤ 32 → k.ranges 7 = true → Spec Tryd.prog 21 [.agg k.abs] [] (fun _ : Unit => []) (fun _ => stA k.text)) (hn : (Frm.mk o a ks).nodes ≤ 32) (hrg : (Frm.mk o a ks).ranges 7 = true) : Spec Tryd.prog 21 [.agg (Frm.mk o a ks).abs] [] (fun _ : Unit => []) (fun _ => stA (Frm.mk o a ks).text) := by
  rw [Frm.abs_mk]
  have hkr := Frm.kids_range hrg
  have hlen := Frm.length_le ks
  rw [Frm.nodes_mk] at hn
  have hhl := headT_len a ks.length
  refine spec_of Tryd.func21 rfl Tryd.ntmps21 rfl fun G w => ?_
  refine SC.seq (SC.region ?_)
  refine SL.eff (Eff.boxA (cs := [int o, int a, .sl 3 (ks.map Frm.abs)]) rfl) rfl rfl ?_
  rintro _ _ ⟨b1, rfl, rfl⟩
  refine SL.val (Val.assign rfl) rfl rfl ?_
  refine SL.nil (SE.seq ?_)
  refine SC.seq ?_
  refine SC.seq (SC.region ?_)
  refine SL.val (Val.fieldAddr tabOk rfl rfl rfl rfl rfl) rfl rfl ?_
  refine SL.val (Val.load1 tabOk rfl rfl (by first|(apply Or.inl;(repeat first|assumption|exact m0|apply m1);done)|(apply Or.inr;(repeat first|assumption|exact m0|apply m1);done)) List.not_mem_nil (by rfl)) rfl rfl ?_
  first
    | refine SL.val (Val.lenSl rfl Tryd.underlying23 (List.length_map _)) rfl rfl ?_
    | refine SL.val (Val.lenOwn rfl (by repeat first|assumption|exact m0|apply m1) Tryd.underlying23 (List.length_map _)) rfl rfl ?_
    | refine SL.val (Val.lenNil rfl Tryd.underlying23) rfl rfl ?_
  refine SL.val (Val.eqI rfl rfl) rfl rfl ?_
  refine SL.nil (SE.seq ?_)
  refine SC.condP rfl ?_ ?_
  · intro hc9
    have hk0 : ks = [] := List.eq_nil_of_length_eq_zero (by omega)
    subst hk0
    have hro := hrg
    rw [Frm.ranges_leaf, decide_eq_true_iff] at hro
    obtain ⟨m, rfl⟩ : ∃ m : Nat, o = (m : Nat) := ⟨o.toNat, by omega⟩
    refine SC.seq (SC.region ?_)
    refine SL.val (Val.fieldAddr tabOk rfl rfl rfl rfl rfl) rfl rfl ?_
    refine SL.val (Val.load1 tabOk rfl rfl (by first|(apply Or.inl;(repeat first|assumption|exact m0|apply m1);done)|(apply Or.inr;(repeat first|assumption|exact m0|apply m1);done)) List.not_mem_nil (by rfl)) rfl rfl ?_
    refine SL.call (dig_s (i := m) (by omega)) Casts.refl (by kernel_rfl) rfl rfl rfl ?_
    refine After.pure (by repeat first|exact .nil|refine .blk (by repeat first|assumption|exact m0|apply m1) ?_|refine .rd (by repeat first|assumption|exact m0|apply m1) ?_|refine .pc (by repeat first|assumption|exact m0|apply m1) ?_|refine .rdpc (by repeat first|assumption|exact m0|apply m1) ?_) (fun _ => rfl) ?_
    intro _
    refine SL.val (Val.assign rfl) rfl rfl ?_
    refine SL.nil (SE.seq ?_)
    refine SC.ret ?_
    refine SE.then_ (by intro h; cases h) ?_
    refine SE.fin (rs := [.tmp 2]) rfl (RV.tmp rfl RV.nil) (()) (by repeat first|exact s0 _|exact s1 _|apply s2|apply s3) (by simp [It.rids]) ?_
    rw [Frm.text_leaf]
    rfl
  intro hc9
  have hk0 : ks ≠ [] := by rintro rfl; simp at hc9
  have hro := hrg
  rw [Frm.ranges_node 7 o a hk0, Bool.and_eq_true, decide_eq_true_iff] at hro
  obtain ⟨m, rfl⟩ : ∃ m : Nat, a = (m : Nat) := ⟨a.toNat, by omega⟩
  refine SC.skip ?_
  refine SE.seq ?_
  refine SC.seq (SC.region ?_)
  refine SL.val (Val.fieldAddr tabOk rfl rfl rfl rfl rfl) rfl rfl ?_
  refine SL.val (Val.load1 tabOk rfl rfl (by first|(apply Or.inl;(repeat first|assumption|exact m0|apply m1);done)|(apply Or.inr;(repeat first|assumption|exact m0|apply m1);done)) List.not_mem_nil (by rfl)) rfl rfl ?_
  refine SL.call (dig_s (i := m) (by omega)) Casts.refl (by kernel_rfl) rfl rfl rfl ?_
  refine After.pure (by repeat first|exact .nil|refine .blk (by repeat first|assumption|exact m0|apply m1) ?_|refine .rd (by repeat first|assumption|exact m0|apply m1) ?_|refine .pc (by repeat first|assumption|exact m0|apply m1) ?_|refine .rdpc (by repeat first|assumption|exact m0|apply m1) ?_) (fun _ => rfl) ?_
  intro _
  refine SL.val (Val.to (C := stA (digT m ++ [111, 102, 40])) (Val.addS rfl rfl (by have := digT_len m; simp only [tx_size]; show ((digT m).length : Int) + ((3 : Nat) : Int) ≤ _; omega)) (st_add _ _)) rfl rfl ?_
  refine SL.val (Val.assign rfl) rfl rfl ?_
  refine SL.nil (SE.seq ?_)
  refine SC.cutS (ι := Txt) (fun z => [.blk b1 25 [int o, int (m : Nat), .sl 3 (ks.map Frm.abs)]]) (fun z => [(1, ptr b1), (3, stA z)]) (fun z => z = (if (m : Int) = 1 then [97, 110, 121] else digT m ++ [111, 102]) ++ [40] ∧ ks ≠ []) ?_ ?_
  · skip
    refine SC.seq (SC.region ?_)
    refine SL.val (Val.fieldAddr tabOk rfl rfl rfl rfl rfl) rfl rfl ?_
    refine SL.val (Val.load1 tabOk rfl rfl (by first|(apply Or.inl;(repeat first|assumption|exact m0|apply m1);done)|(apply Or.inr;(repeat first|assumption|exact m0|apply m1);done)) List.not_mem_nil (by rfl)) rfl rfl ?_
    refine SL.val (Val.eqI rfl rfl) rfl rfl ?_
    refine SL.nil (SE.seq ?_)
    refine SC.condP rfl ?_ ?_
    rotate_left
    · intro hc19
      refine SC.skip ?_
      refine SE.meet (digT m ++ [111, 102, 40]) (⟨by rw [if_neg hc19, List.append_assoc]; rfl, hk0⟩) (by exact ⟨rfl, rfl, trivial⟩) (by repeat first|exact s0 _|exact s1 _|apply s2|apply s3)
    intro hc19
    refine SC.region ?_
    refine SL.val (Val.assign rfl) rfl rfl ?_
    refine SL.nil ?_
    refine SE.meet ([97, 110, 121, 40]) (⟨by rw [if_pos hc19]; rfl, hk0⟩) (by exact ⟨rfl, rfl, trivial⟩) (by repeat first|exact s0 _|exact s1 _|apply s2|apply s3)
  · intro z hz
    refine SC.cutS (ι := Unit) (fun z => [.blk b1 25 [int o, int (m : Nat), .sl 3 (ks.map Frm.abs)]]) (fun z => [(1, ptr b1), (3, stA (headT (m : Nat) ks.length ++ [40]))]) (fun z => ks ≠ []) ?_ ?_
    · skip
      refine SC.seq (SC.region ?_)
      refine SL.val (Val.fieldAddr tabOk rfl rfl rfl rfl rfl) rfl rfl ?_
      refine SL.val (Val.load1 tabOk rfl rfl (by first|(apply Or.inl;(repeat first|assumption|exact m0|apply m1);done)|(apply Or.inr;(repeat first|assumption|exact m0|apply m1);done)) List.not_mem_nil (by rfl)) rfl rfl ?_
      refine SL.val (Val.fieldAddr tabOk rfl rfl rfl rfl rfl) rfl rfl ?_
      refine SL.val (Val.load1 tabOk rfl rfl (by first|(apply Or.inl;(repeat first|assumption|exact m0|apply m1);done)|(apply Or.inr;(repeat first|assumption|exact m0|apply m1);done)) List.not_mem_nil (by rfl)) rfl rfl ?_
      first
        | refine SL.val (Val.lenSl rfl Tryd.underlying23 (List.length_map _)) rfl rfl ?_
        | refine SL.val (Val.lenOwn rfl (by repeat first|assumption|exact m0|apply m1) Tryd.underlying23 (List.length_map _)) rfl rfl ?_
        | refine SL.val (Val.lenNil rfl Tryd.underlying23) rfl rfl ?_
      refine SL.val (Val.eqI rfl rfl) rfl rfl ?_
      refine SL.nil (SE.seq ?_)
      refine SC.condP rfl ?_ ?_
      rotate_left
      · intro hc25
        refine SC.skip ?_
        refine SE.meet (()) (hz.2) (by exact ⟨rfl, congrArg (fun l : Txt => some (stA l)) (by unfold headT; rw [if_neg hc25]; exact hz.1), trivial⟩) (by repeat first|exact s0 _|exact s1 _|apply s2|apply s3)
      intro hc25
      refine SC.region ?_
      refine SL.val (Val.assign rfl) rfl rfl ?_
      refine SL.nil ?_
      refine SE.meet (()) (hz.2) (by exact ⟨rfl, congrArg (fun l : Txt => some (stA l)) (by unfold headT; rw [if_pos hc25]; rfl), trivial⟩) (by repeat first|exact s0 _|exact s1 _|apply s2|apply s3)
    · intro z hz
      have hk0 : ks ≠ [] := hz
      refine SC.seq ?_
      refine SC.seq (SC.region ?_)
      refine SL.val (Val.fieldAddr tabOk rfl rfl rfl rfl rfl) rfl rfl ?_
      refine SL.val (Val.load1 tabOk rfl rfl (by first|(apply Or.inl;(repeat first|assumption|exact m0|apply m1);done)|(apply Or.inr;(repeat first|assumption|exact m0|apply m1);done)) List.not_mem_nil (by rfl)) rfl rfl ?_
      first
        | refine SL.val (Val.lenSl rfl Tryd.underlying23 (List.length_map _)) rfl rfl ?_
        | refine SL.val (Val.lenOwn rfl (by repeat first|assumption|exact m0|apply m1) Tryd.underlying23 (List.length_map _)) rfl rfl ?_
        | refine SL.val (Val.lenNil rfl Tryd.underlying23) rfl rfl ?_
      refine SL.val (Val.move rfl) rfl rfl ?_
      refine SL.nil (SE.seq ?_)
      refine SC.block ?_
      refine SC.loop (ι := Nat) (fun j => [.blk b1 25 [int o, int (m : Nat), .sl 3 (ks.map Frm.abs)]]) (fun j => [(1, ptr b1), (3, stA (headT (m : Nat) ks.length ++ [40] ++ joinT (ks.take j))), (27, .sl 3 (ks.map Frm.abs)), (28, int (ks.length : Nat)), (29, int (j : Nat))]) (fun j => j ≤ ks.length) (fun j => ks.length - j) (0) (Nat.zero_le _) (by exact ⟨rfl, congrArg (fun l : Txt => some (stA l)) (List.append_nil _).symm, rfl, rfl, rfl, trivial⟩) (by repeat first|exact s0 _|exact s1 _|apply s2|apply s3) ?_
      intro j hj
      refine SC.seq (SC.region ?_)
      refine SL.val (Val.ltI rfl rfl) rfl rfl ?_
      refine SL.nil (SE.seq ?_)
      refine SC.seq ?_
      refine SC.condP rfl ?_ ?_
      rotate_left
      · intro hc30
        have hz2 : j = ks.length := by omega
        have hjl := joinT_len (ks := ks.take j) fun k _ => Frm.text_len k
        have htl := Frm.take_nodes (ks := ks) j
        refine SC.exit ?_
        refine SE.then_ (by intro h; cases h) ?_
        refine SE.then_ (by intro h; cases h) ?_
        refine SE.exit ?_
        refine SE.seq ?_
        refine SC.seq (SC.region ?_)
        refine SL.val (Val.move rfl) rfl rfl ?_
        refine SL.val (Val.to (C := stA ((headT (m : Nat) ks.length ++ [40] ++ joinT (ks.take j)) ++ [41])) (Val.addS rfl rfl (by simp only [tx_size, List.length_append, List.length_cons, List.length_nil]; show ((_ : Nat) : Int) + ((1 : Nat) : Int) ≤ _; omega)) (st_add _ _)) rfl rfl ?_
        refine SL.val (Val.assign rfl) rfl rfl ?_
        refine SL.nil (SE.seq ?_)
        refine SC.ret ?_
        refine SE.fin (rs := [.tmp 2]) rfl (RV.tmp rfl RV.nil) (()) (by repeat first|exact s0 _|exact s1 _|apply s2|apply s3) (by simp [It.rids]) ?_
        refine congrArg stA ?_
        rw [Frm.text_node o _ hk0, hz2, List.take_length]
        simp only [List.append_assoc, List.cons_append, List.nil_append]
      intro hc30
      have hlt : j < ks.length := by omega
      have hkz := Frm.nodes_mem (List.getElem_mem hlt)
      have hkl := Frm.text_len (ks[j]'hlt)
      have hjl := joinT_len (ks := ks.take j) fun k _ => Frm.text_len k
      have htl := Frm.take_nodes (ks := ks) j
      refine SC.skip ?_
      refine SE.seq ?_
      refine SC.seq ?_
      refine SC.block ?_
      refine SC.seq (SC.region ?_)
      refine SL.val (Val.move rfl) rfl rfl ?_
      refine SL.val (Val.indexSl tabOk Tryd.underlying23 rfl rfl rfl rfl (at_map (by omega)) rfl rfl) rfl rfl ?_
      refine SL.val (Val.loadAR tabOk rfl rfl rfl (Frm.abs_len _)) rfl rfl ?_
      refine SL.eff (Eff.alloc tabOk rfl) rfl rfl ?_
      rintro _ _ ⟨b5, rfl, rfl⟩
      refine SL.val (Val.assign rfl) rfl rfl ?_
      refine SL.eff (Eff.store (L' := (ks[j]'hlt).abs) tabOk rfl rfl rfl (by repeat first|assumption|exact Upd.here|apply Upd.there) (by exact Frm.abs_len _) (Nat.le_of_ble_eq_true (by rfl)) (by exact Frm.abs_ones _) (putL_whole (by exact Frm.abs_len _))) rfl rfl ?_
      rintro _ _ ⟨rfl, rfl⟩
      refine SL.nil (SE.seq ?_)
      refine SC.cutS (ι := Unit) (fun z => [.blk b5 25 (ks[j]'hlt).abs, .blk b1 25 [int o, int (m : Nat), .sl 3 (ks.map Frm.abs)]]) (fun z => [(1, ptr b1), (3, stA ((headT (m : Nat) ks.length ++ [40] ++ joinT (ks.take j)) ++ (if j = 0 then [] else [44]))), (5, ptr b5), (27, .sl 3 (ks.map Frm.abs)), (28, int (ks.length : Nat)), (29, int (j : Nat))]) (fun z => True) ?_ ?_
      · skip
        refine SC.seq (SC.region ?_)
        refine SL.val (Val.move rfl) rfl rfl ?_
        refine SL.val (Val.gtI rfl rfl) rfl rfl ?_
        refine SL.nil (SE.seq ?_)
        refine SC.condP rfl ?_ ?_
        rotate_left
        · intro hc35
          refine SC.skip ?_
          refine SE.meet (()) (trivial) (by exact ⟨rfl, congrArg (fun l : Txt => some (stA l)) (by rw [show (if j = 0 then [] else [44]) = ([] : Txt) from if_pos (by omega), List.append_nil]), rfl, rfl, rfl, rfl, trivial⟩) (by repeat first|exact s0 _|exact s1 _|apply s2|apply s3)
        intro hc35
        refine SC.region ?_
        refine SL.val (Val.move rfl) rfl rfl ?_
        refine SL.val (Val.to (C := stA ((headT (m : Nat) ks.length ++ [40] ++ joinT (ks.take j)) ++ [44])) (Val.addS rfl rfl (by simp only [tx_size, List.length_append, List.length_cons, List.length_nil]; show ((_ : Nat) : Int) + ((1 : Nat) : Int) ≤ _; omega)) (st_add _ _)) rfl rfl ?_
        refine SL.val (Val.assign rfl) rfl rfl ?_
        refine SL.nil ?_
        refine SE.meet (()) (trivial) (by exact ⟨rfl, congrArg (fun l : Txt => some (stA l)) (by rw [show (if j = 0 then [] else [44]) = ([44] : Txt) from if_neg (by omega)]), rfl, rfl, rfl, rfl, trivial⟩) (by repeat first|exact s0 _|exact s1 _|apply s2|apply s3)
      · intro z hz
        refine SC.region ?_
        refine SL.val (Val.move rfl) rfl rfl ?_
        refine SL.val (Val.loadA tabOk rfl rfl rfl (by first|(apply Or.inl;(repeat first|assumption|exact m0|apply m1);done)|(apply Or.inr;(repeat first|assumption|exact m0|apply m1);done)) List.not_mem_nil (Frm.abs_len _)) rfl rfl ?_
        refine SL.call (ih (ks[j]'hlt) (List.getElem_mem hlt) (by omega) (hkr _ (List.getElem_mem hlt))) Casts.refl (by kernel_rfl) rfl rfl rfl ?_
        refine After.pure (by repeat first|exact .nil|refine .blk (by repeat first|assumption|exact m0|apply m1) ?_|refine .rd (by repeat first|assumption|exact m0|apply m1) ?_|refine .pc (by repeat first|assumption|exact m0|apply m1) ?_|refine .rdpc (by repeat first|assumption|exact m0|apply m1) ?_) (fun _ => rfl) ?_
        intro _
        refine SL.val (Val.to (C := stA (((headT (m : Nat) ks.length ++ [40] ++ joinT (ks.take j)) ++ (if j = 0 then [] else [44])) ++ (ks[j]'hlt).text)) (Val.addS rfl rfl (by have hs1 := sep_len j; simp only [tx_size, List.length_append, List.length_cons, List.length_nil]; omega)) (st_add _ _)) rfl rfl ?_
        refine SL.val (Val.assign rfl) rfl rfl ?_
        refine SL.nil ?_
        refine SE.inBlock ?_
        refine SE.seq ?_
        refine SC.region ?_
        first
          | refine SL.val (Val.addI rfl rfl (by simp only [InR, lo, hi]; omega)) rfl rfl ?_
          | refine SL.val (Val.addW rfl rfl) rfl rfl ?_
        refine SL.val (Val.move rfl) rfl rfl ?_
        refine SL.nil ?_
        refine SE.round (j + 1) (by first | omega | (dsimp only; omega)) (by first | omega | (dsimp only; omega)) (by exact ⟨rfl, congrArg (fun l : Txt => some (stA l)) (by rw [join_next hlt]; simp only [List.append_assoc]), rfl, rfl, rfl, trivial⟩) (by repeat first|exact s0 _|exact s1 _|apply s2|apply s3)
theorem rprint_s (f : Frm) : f.nodes ≤ 32 → f.ranges 7 = true → Spec Tryd.prog 21 [.agg f.abs] [] (fun _ : Unit => []) (fun _ => stA f.text) := Frm.ind (p := fun f => f.nodes ≤ 32 → f.ranges 7 = true → Spec Tryd.prog 21 [.agg f.abs] [] (fun _ : Unit => []) (fun _ => stA f.text)) (fun o a ks ih hn hrg => rprint_step ih hn hrg) f
theorem rPrint_s (hn : f.nodes ≤ 1099511627000) : Spec Tryd.prog 12 [.agg f.abs] [] (fun _ : Unit => []) (fun _ => stA (printF f)) := by
  refine spec_of Tryd.func12 rfl Tryd.ntmps12 rfl fun G w => ?_
  refine SC.seq (SC.region ?_)
  refine SL.eff (Eff.boxA (cs := f.abs) rfl) rfl rfl ?_
  rintro _ _ ⟨b1, rfl, rfl⟩
  refine SL.val (Val.assign rfl) rfl rfl ?_
  refine SL.nil (SE.seq ?_)
  refine SC.seq ?_
  refine SC.seq (SC.region ?_)
  refine SL.val (Val.loadA tabOk rfl rfl rfl (by first|(apply Or.inl;(repeat first|assumption|exact m0|apply m1);done)|(apply Or.inr;(repeat first|assumption|exact m0|apply m1);done)) List.not_mem_nil (Frm.abs_len _)) rfl rfl ?_
  refine SL.call (rright_s (f := f) hn) Casts.refl (by kernel_rfl) rfl rfl rfl ?_
  refine After.pure (by repeat first|exact .nil|refine .blk (by repeat first|assumption|exact m0|apply m1) ?_|refine .rd (by repeat first|assumption|exact m0|apply m1) ?_|refine .pc (by repeat first|assumption|exact m0|apply m1) ?_|refine .rdpc (by repeat first|assumption|exact m0|apply m1) ?_) (fun _ => rfl) ?_
  intro _
  refine SL.val (Val.notP rfl) rfl rfl ?_
  refine SL.nil (SE.seq ?_)
  refine SC.condP rfl ?_ ?_
  · intro hc5
    refine SC.seq (SC.region ?_)
    refine SL.val (Val.assign rfl) rfl rfl ?_
    refine SL.nil (SE.seq ?_)
    refine SC.ret ?_
    refine SE.then_ (by intro h; cases h) ?_
    refine SE.fin (rs := [.tmp 2]) rfl (RV.tmp rfl RV.nil) (()) (by repeat first|exact s0 _|exact s1 _|apply s2|apply s3) (by simp [It.rids]) ?_
    rw [show printF f = [] from if_neg hc5]
    rfl
  intro hc5
  refine SC.skip ?_
  refine SE.seq ?_
  refine SC.seq (SC.region ?_)
  refine SL.val (Val.loadA tabOk rfl rfl rfl (by first|(apply Or.inl;(repeat first|assumption|exact m0|apply m1);done)|(apply Or.inr;(repeat first|assumption|exact m0|apply m1);done)) List.not_mem_nil (Frm.abs_len _)) rfl rfl ?_
  have hck := Frm.check_ok.1 (Classical.byContradiction hc5)
  refine SL.call (rprint_s f (by omega) hck.2.2.2) Casts.refl (by kernel_rfl) rfl rfl rfl ?_
  refine After.pure (by repeat first|exact .nil|refine .blk (by repeat first|assumption|exact m0|apply m1) ?_|refine .rd (by repeat first|assumption|exact m0|apply m1) ?_|refine .pc (by repeat first|assumption|exact m0|apply m1) ?_|refine .rdpc (by repeat first|assumption|exact m0|apply m1) ?_) (fun _ => rfl) ?_
  intro _
  refine SL.val (Val.assign rfl) rfl rfl ?_
  refine SL.nil (SE.seq ?_)
  refine SC.ret ?_
  refine SE.fin (rs := [.tmp 2]) rfl (RV.tmp rfl RV.nil) (()) (by repeat first|exact s0 _|exact s1 _|apply s2|apply s3) (by simp [It.rids]) ?_
  rw [show printF f = f.text from if_pos (Classical.byContradiction hc5)]
  rfl
set_option maxHeartbeats 1000000 in
theorem same_step (ih : ∀ k ∈ ks, k.nodes ≤ 1099511627776 → Spec Tryd.prog 9 [.agg k.abs, .agg k.abs] [] (fun _ : Unit => []) (fun _ => boo true)) (hn : (Frm.mk o a ks).nodes ≤ 1099511627776) : Spec Tryd.prog 9 [.agg (Frm.mk o a ks).abs, .agg (Frm.mk o a ks).abs] [] (fun _ : Unit => []) (fun _ => boo true) := by
  rw [Frm.abs_mk]
  have hlen := Frm.length_le ks
  rw [Frm.nodes_mk] at hn
  refine spec_of Tryd.func9 rfl Tryd.ntmps9 rfl fun G w => ?_
  refine SC.seq (SC.region ?_)
  refine SL.eff (Eff.boxA (cs := [int o, int a, .sl 3 (ks.map Frm.abs)]) rfl) rfl rfl ?_
  rintro _ _ ⟨b2, rfl, rfl⟩
  refine SL.eff (Eff.boxA (cs := [int o, int a, .sl 3 (ks.map Frm.abs)]) rfl) rfl rfl ?_
  rintro _ _ ⟨b3, rfl, rfl⟩
  refine SL.val (Val.assign rfl) rfl rfl ?_
  refine SL.nil (SE.seq ?_)
  refine SC.seq ?_
  refine SC.seq (SC.region ?_)
  refine SL.val (Val.fieldAddr tabOk rfl rfl rfl rfl rfl) rfl rfl ?_
  refine SL.val (Val.load1 tabOk rfl rfl (by first|(apply Or.inl;(repeat first|assumption|exact m0|apply m1);done)|(apply Or.inr;(repeat first|assumption|exact m0|apply m1);done)) List.not_mem_nil (by rfl)) rfl rfl ?_
  refine SL.val (Val.fieldAddr tabOk rfl rfl rfl rfl rfl) rfl rfl ?_
  refine SL.val (Val.load1 tabOk rfl rfl (by first|(apply Or.inl;(repeat first|assumption|exact m0|apply m1);done)|(apply Or.inr;(repeat first|assumption|exact m0|apply m1);done)) List.not_mem_nil (by rfl)) rfl rfl ?_
  refine SL.val (Val.neI rfl rfl) rfl rfl ?_
  refine SL.val (Val.move rfl) rfl rfl ?_
  refine SL.bothP (t := 11) rfl (by intro hc11; exfalso; omega) ?_
  intro hc11
  refine SL.val (Val.fieldAddr tabOk rfl rfl rfl rfl rfl) rfl rfl ?_
  refine SL.val (Val.load1 tabOk rfl rfl (by first|(apply Or.inl;(repeat first|assumption|exact m0|apply m1);done)|(apply Or.inr;(repeat first|assumption|exact m0|apply m1);done)) List.not_mem_nil (by rfl)) rfl rfl ?_
  refine SL.val (Val.fieldAddr tabOk rfl rfl rfl rfl rfl) rfl rfl ?_
  refine SL.val (Val.load1 tabOk rfl rfl (by first|(apply Or.inl;(repeat first|assumption|exact m0|apply m1);done)|(apply Or.inr;(repeat first|assumption|exact m0|apply m1);done)) List.not_mem_nil (by rfl)) rfl rfl ?_
  refine SL.val (Val.neI rfl rfl) rfl rfl ?_
  refine SL.val (Val.pickF rfl rfl) rfl rfl ?_
  refine SL.val (Val.move rfl) rfl rfl ?_
  refine SL.bothP (t := 18) rfl (by intro hc18; exfalso; omega) ?_
  intro hc18
  refine SL.val (Val.fieldAddr tabOk rfl rfl rfl rfl rfl) rfl rfl ?_
  refine SL.val (Val.load1 tabOk rfl rfl (by first|(apply Or.inl;(repeat first|assumption|exact m0|apply m1);done)|(apply Or.inr;(repeat first|assumption|exact m0|apply m1);done)) List.not_mem_nil (by rfl)) rfl rfl ?_
  first
    | refine SL.val (Val.lenSl rfl Tryd.underlying23 (List.length_map _)) rfl rfl ?_
    | refine SL.val (Val.lenOwn rfl (by repeat first|assumption|exact m0|apply m1) Tryd.underlying23 (List.length_map _)) rfl rfl ?_
    | refine SL.val (Val.lenNil rfl Tryd.underlying23) rfl rfl ?_
  refine SL.val (Val.fieldAddr tabOk rfl rfl rfl rfl rfl) rfl rfl ?_
  refine SL.val (Val.load1 tabOk rfl rfl (by first|(apply Or.inl;(repeat first|assumption|exact m0|apply m1);done)|(apply Or.inr;(repeat first|assumption|exact m0|apply m1);done)) List.not_mem_nil (by rfl)) rfl rfl ?_
  first
    | refine SL.val (Val.lenSl rfl Tryd.underlying23 (List.length_map _)) rfl rfl ?_
    | refine SL.val (Val.lenOwn rfl (by repeat first|assumption|exact m0|apply m1) Tryd.underlying23 (List.length_map _)) rfl rfl ?_
    | refine SL.val (Val.lenNil rfl Tryd.underlying23) rfl rfl ?_
  refine SL.val (Val.neI rfl rfl) rfl rfl ?_
  refine SL.val (Val.pickF rfl rfl) rfl rfl ?_
  refine SL.nil (SE.seq ?_)
  refine SC.condP rfl (by intro hc26; exfalso; omega) ?_
  intro hc26
  refine SC.skip ?_
  refine SE.seq ?_
  refine SC.seq ?_
  refine SC.seq (SC.region ?_)
  refine SL.val (Val.fieldAddr tabOk rfl rfl rfl rfl rfl) rfl rfl ?_
  refine SL.val (Val.load1 tabOk rfl rfl (by first|(apply Or.inl;(repeat first|assumption|exact m0|apply m1);done)|(apply Or.inr;(repeat first|assumption|exact m0|apply m1);done)) List.not_mem_nil (by rfl)) rfl rfl ?_
  first
    | refine SL.val (Val.lenSl rfl Tryd.underlying23 (List.length_map _)) rfl rfl ?_
    | refine SL.val (Val.lenOwn rfl (by repeat first|assumption|exact m0|apply m1) Tryd.underlying23 (List.length_map _)) rfl rfl ?_
    | refine SL.val (Val.lenNil rfl Tryd.underlying23) rfl rfl ?_
  refine SL.val (Val.move rfl) rfl rfl ?_
  refine SL.nil (SE.seq ?_)
  refine SC.block ?_
  refine SC.loop (ι := Nat) (fun z => [.blk b3 25 [int o, int a, .sl 3 (ks.map Frm.abs)], .blk b2 25 [int o, int a, .sl 3 (ks.map Frm.abs)]]) (fun z => [(2, ptr b2), (3, ptr b3), (29, int (ks.length : Nat)), (30, int (z : Nat))]) (fun z => z ≤ ks.length) (fun z => ks.length - z) (0) (Nat.zero_le _) (by exact ⟨rfl, rfl, rfl, rfl, trivial⟩) (by repeat first|exact s0 _|exact s1 _|apply s2|apply s3) ?_
  intro z hz
  refine SC.seq (SC.region ?_)
  refine SL.val (Val.ltI rfl rfl) rfl rfl ?_
  refine SL.nil (SE.seq ?_)
  refine SC.seq ?_
  refine SC.condP rfl ?_ ?_
  rotate_left
  · intro hc31
    refine SC.exit ?_
    refine SE.then_ (by intro h; cases h) ?_
    refine SE.then_ (by intro h; cases h) ?_
    refine SE.exit ?_
    refine SE.seq ?_
    refine SC.seq (SC.region ?_)
    refine SL.val (Val.assign rfl) rfl rfl ?_
    refine SL.nil (SE.seq ?_)
    refine SC.ret ?_
    refine SE.fin (rs := [.tmp 4]) rfl (RV.tmp rfl RV.nil) (()) (by repeat first|exact s0 _|exact s1 _|apply s2|apply s3) (by simp [It.rids]) ?_
    exact rfl
  intro hc31
  have hlt : z < ks.length := by omega
  have hkz := Frm.nodes_mem (List.getElem_mem hlt)
  refine SC.skip ?_
  refine SE.seq ?_
  refine SC.seq ?_
  refine SC.block ?_
  refine SC.seq (SC.region ?_)
  refine SL.val (Val.move rfl) rfl rfl ?_
  refine SL.val (Val.assign rfl) rfl rfl ?_
  refine SL.nil (SE.seq ?_)
  refine SC.seq ?_
  refine SC.draw [] (.q 0 (.q 1 (.q 2 (.q 3 (.q 4 (.q 5 (.q 6 (.q 7 (.q 8 (.q 9 (.e 10 (.q 11 .nil)))))))))))) (by kernel_rfl) (by kernel_rfl) ?_
  refine SX.val rfl (Val.fieldAddr tabOk rfl rfl rfl rfl rfl) (by simp) rfl rfl ?_
  refine SX.val rfl (Val.load1 tabOk rfl rfl (by first|(apply Or.inl;(repeat first|assumption|exact m0|apply m1);done)|(apply Or.inr;(repeat first|assumption|exact m0|apply m1);done)) List.not_mem_nil (by rfl)) (by simp) rfl rfl ?_
  refine SX.val rfl (Val.move rfl) (by simp) rfl rfl ?_
  refine SX.val rfl (Val.indexSl tabOk Tryd.underlying23 rfl rfl rfl rfl (at_map (by omega)) rfl rfl) (by simp) rfl rfl ?_
  refine SX.hx (by first|(simp[mids,It.mids,ownPc];done)|(intro k hk;simp[mids,It.mids,ownPc] at hk ⊢;grind)) fun hx9 => ?_
  refine SX.val rfl (Val.loadAR tabOk rfl rfl rfl (Frm.abs_len _)) hx9 rfl rfl ?_
  refine SX.val rfl (Val.fieldAddr tabOk rfl rfl rfl rfl rfl) (by simp) rfl rfl ?_
  refine SX.val rfl (Val.load1 tabOk rfl rfl (by first|(apply Or.inl;(repeat first|assumption|exact m0|apply m1);done)|(apply Or.inr;(repeat first|assumption|exact m0|apply m1);done)) List.not_mem_nil (by rfl)) (by simp) rfl rfl ?_
  refine SX.val rfl (Val.move rfl) (by simp) rfl rfl ?_
  refine SX.val rfl (Val.indexSl tabOk Tryd.underlying23 rfl rfl rfl rfl (at_map (by omega)) rfl rfl) (by simp) rfl rfl ?_
  refine SX.val rfl (Val.loadAR tabOk rfl rfl rfl (Frm.abs_len _)) hx9 rfl rfl ?_
  refine SX.call rfl (ih (ks[z]'hlt) (List.getElem_mem hlt) (by omega)) (by simp [mids, It.mids]) Casts.refl (by kernel_rfl) rfl rfl rfl ?_
  refine After.pure (by repeat first|exact .nil|refine .blk (by repeat first|assumption|exact m0|apply m1) ?_|refine .rd (by repeat first|assumption|exact m0|apply m1) ?_|refine .pc (by repeat first|assumption|exact m0|apply m1) ?_|refine .rdpc (by repeat first|assumption|exact m0|apply m1) ?_) (fun _ => rfl) ?_
  intro _
  refine SX.val rfl (Val.notB rfl) (by simp) rfl rfl ?_
  refine SX.nil (SE.seq ?_)
  refine SC.cond rfl (by intro hc44; exfalso; cases hc44) ?_
  intro hc44
  refine SC.skip ?_
  refine SE.inBlock ?_
  refine SE.seq ?_
  refine SC.region ?_
  first
    | refine SL.val (Val.addI rfl rfl (by simp only [InR, lo, hi]; omega)) rfl rfl ?_
    | refine SL.val (Val.addW rfl rfl) rfl rfl ?_
  refine SL.val (Val.move rfl) rfl rfl ?_
  refine SL.nil ?_
  refine SE.round (z + 1) (by first | omega | (dsimp only; omega)) (by first | omega | (dsimp only; omega)) (by exact ⟨rfl, rfl, rfl, rfl, trivial⟩) (by repeat first|exact s0 _|exact s1 _|apply s2|apply s3)
theorem same_s (f : Frm) : f.nodes ≤ 1099511627776 → Spec Tryd.prog 9 [.agg f.abs, .agg f.abs] [] (fun _ : Unit => []) (fun _ => boo true) := Frm.ind (p := fun f => f.nodes ≤ 1099511627776 → Spec Tryd.prog 9 [.agg f.abs, .agg f.abs] [] (fun _ : Unit => []) (fun _ => boo true)) (fun o a ks ih hn => same_step ih hn) f
end
end Go.Proofs.YthaahcdfnmfihaaDoor.A
/-
  Policies' texts: the law TermsReads, walked.
-/
set_option maxRecDepth 100000
set_option linter.unusedSimpArgs false
set_option linter.unusedVariables false
namespace Go.Proofs.YthaahcdfnmfihaaDoor.A
open Go.RowKit

section
variable {l r wd : Txt} {i : Nat} {n o a : Int} {ks : List Frm} {f : Frm} {es er : Value}
theorem casts_eq {xs ys : List Abs} (h : xs = ys) : Casts xs ys := h ▸ Casts.refl
theorem fixed1 : parseF [50, 32, 111, 102, 32, 40, 48, 44, 49, 44, 32, 50, 41] 3 = ((Frm.mk 0 2 [.mk 0 0 [], .mk 1 0 [], .mk 2 0 []]), 0) := by kernel_rfl
theorem fixed2 : parseF [97, 110, 121, 40, 41] 3 = (.mk 0 0 [], 2) := by kernel_rfl
theorem fixed3 : printF (Frm.mk 0 2 [.mk 0 0 [], .mk 1 0 [], .mk 2 0 []]) = [50, 111, 102, 40, 48, 44, 49, 44, 50, 41] := by kernel_rfl
theorem fixed1a : (parseF [50, 32, 111, 102, 32, 40, 48, 44, 49, 44, 32, 50, 41] 3).1.abs = [int 0, int 2, .sl 3 (List.map Frm.abs [.mk 0 0 [], .mk 1 0 [], .mk 2 0 []])] := by rw [fixed1, Frm.abs_mk]
theorem fixed1b : (parseF [50, 32, 111, 102, 32, 40, 48, 44, 49, 44, 32, 50, 41] 3).2 = 0 := by rw [fixed1]
theorem fixed2a : (parseF [97, 110, 121, 40, 41] 3).1.abs = [int 0, int 0, .sl 3 []] := by rw [fixed2, Frm.abs_mk]; rfl
theorem fixed2b : (parseF [97, 110, 121, 40, 41] 3).2 = 2 := by rw [fixed2]
theorem fixed_s (he : isIf es) (hr : isIf er) : Spec Tryd.prog 6 [] (globs es er) (fun _ : Unit => []) (fun _ => boo true) := by
  refine spec_of Tryd.func6 rfl Tryd.ntmps6 rfl fun G w => ?_
  refine SC.seq (SC.region ?_)
  refine SL.val (Val.assign rfl) rfl rfl ?_
  refine SL.nil (SE.seq ?_)
  refine SC.seq (SC.region ?_)
  refine SL.call (parse_s (l := [50, 32, 111, 102, 32, 40, 48, 44, 49, 44, 32, 50, 41]) (n := 3) he hr) Casts.refl (by kernel_rfl) rfl rfl rfl ?_
  refine After.pure (by repeat (first | exact Reads.nil | (refine Reads.blk ?_ ?_; focus ((repeat first|assumption|exact m0|apply m1); done)) | (refine Reads.rd ?_ ?_; focus ((repeat first|assumption|exact m0|apply m1); done)) | (refine Reads.pc ?_ ?_; focus ((repeat first|assumption|exact m0|apply m1); done)) | (refine Reads.rdpc ?_ ?_; focus ((repeat first|assumption|exact m0|apply m1); done)))) (fun _ => rfl) ?_
  intro _
  rw [fixed1a, fixed1b]
  refine SL.val (Val.move rfl) rfl rfl ?_
  refine SL.val (Val.extract rfl rfl) rfl rfl ?_
  refine SL.val (Val.extract rfl rfl) rfl rfl ?_
  refine SL.eff (Eff.alloc tabOk rfl) rfl rfl ?_
  rintro _ _ ⟨b1, rfl, rfl⟩
  refine SL.eff (Eff.store (L' := [int 0, int 2, .sl 3 (List.map Frm.abs [.mk 0 0 [], .mk 1 0 [], .mk 2 0 []])]) tabOk rfl rfl rfl (by repeat first|assumption|exact Upd.here|apply Upd.there) rfl (Nat.le_of_ble_eq_true (by rfl)) rfl (by rfl)) rfl rfl ?_
  rintro _ _ ⟨rfl, rfl⟩
  refine SL.val (Val.assign rfl) rfl rfl ?_
  refine SL.nil (SE.seq ?_)
  refine SC.seq (SC.region ?_)
  refine SL.call (parse_s (l := [97, 110, 121, 40, 41]) (n := 3) he hr) Casts.refl (by kernel_rfl) rfl rfl rfl ?_
  refine After.pure (by repeat (first | exact Reads.nil | (refine Reads.blk ?_ ?_; focus ((repeat first|assumption|exact m0|apply m1); done)) | (refine Reads.rd ?_ ?_; focus ((repeat first|assumption|exact m0|apply m1); done)) | (refine Reads.pc ?_ ?_; focus ((repeat first|assumption|exact m0|apply m1); done)) | (refine Reads.rdpc ?_ ?_; focus ((repeat first|assumption|exact m0|apply m1); done)))) (fun _ => rfl) ?_
  intro _
  rw [fixed2a, fixed2b]
  refine SL.val (Val.move rfl) rfl rfl ?_
  refine SL.val (Val.extract rfl rfl) rfl rfl ?_
  refine SL.val (Val.extract rfl rfl) rfl rfl ?_
  refine SL.eff (Eff.alloc tabOk rfl) rfl rfl ?_
  rintro _ _ ⟨b3, rfl, rfl⟩
  refine SL.eff (Eff.store (L' := [int 0, int 0, .sl 3 []]) tabOk rfl rfl rfl (by repeat first|assumption|exact Upd.here|apply Upd.there) rfl (Nat.le_of_ble_eq_true (by rfl)) rfl (by rfl)) rfl rfl ?_
  rintro _ _ ⟨rfl, rfl⟩
  refine SL.val (Val.assign rfl) rfl rfl ?_
  refine SL.nil (SE.seq ?_)
  refine SC.seq (SC.region ?_)
  refine SL.val (Val.move rfl) rfl rfl ?_
  refine SL.val (Val.eqI rfl rfl) rfl rfl ?_
  refine SL.val (Val.move rfl) rfl rfl ?_
  refine SL.bothP (t := 15) rfl ?_ (by intro hc15; exfalso; exact hc15 rfl)
  intro hc15
  refine SL.val (Val.move rfl) rfl rfl ?_
  refine SL.val (Val.eqI rfl rfl) rfl rfl ?_
  refine SL.val (Val.pickT rfl rfl) rfl rfl ?_
  refine SL.val (Val.move rfl) rfl rfl ?_
  refine SL.bothP (t := 19) rfl ?_ (by intro hc19; exfalso; exact hc19 rfl)
  intro hc19
  refine SL.val (Val.fieldAddr tabOk rfl rfl rfl rfl rfl) rfl rfl ?_
  refine SL.val (Val.load1 tabOk rfl rfl (by first|(apply Or.inl;(repeat first|assumption|exact m0|apply m1);done)|(apply Or.inr;(repeat first|assumption|exact m0|apply m1);done)) List.not_mem_nil (by rfl)) rfl rfl ?_
  refine SL.val (Val.eqI rfl rfl) rfl rfl ?_
  refine SL.val (Val.pickT rfl rfl) rfl rfl ?_
  refine SL.val (Val.move rfl) rfl rfl ?_
  refine SL.bothP (t := 24) rfl ?_ (by intro hc24; exfalso; exact hc24 rfl)
  intro hc24
  refine SL.val (Val.fieldAddr tabOk rfl rfl rfl rfl rfl) rfl rfl ?_
  refine SL.val (Val.load1 tabOk rfl rfl (by first|(apply Or.inl;(repeat first|assumption|exact m0|apply m1);done)|(apply Or.inr;(repeat first|assumption|exact m0|apply m1);done)) List.not_mem_nil (by rfl)) rfl rfl ?_
  first
    | refine SL.val (Val.lenSl rfl Tryd.underlying23 (List.length_map _)) rfl rfl ?_
    | refine SL.val (Val.lenOwn rfl (by repeat first|assumption|exact m0|apply m1) Tryd.underlying23 (List.length_map _)) rfl rfl ?_
    | refine SL.val (Val.lenNil rfl Tryd.underlying23) rfl rfl ?_
  refine SL.val (Val.eqI rfl rfl) rfl rfl ?_
  refine SL.val (Val.pickT rfl rfl) rfl rfl ?_
  refine SL.val (Val.move rfl) rfl rfl ?_
  refine SL.bothP (t := 30) rfl ?_ (by intro hc30; exfalso; exact hc30 rfl)
  intro hc30
  first
    | refine SL.val (Val.loadA tabOk rfl rfl rfl (by first|(apply Or.inl;(repeat first|assumption|exact m0|apply m1);done)|(apply Or.inr;(repeat first|assumption|exact m0|apply m1);done)) List.not_mem_nil (by rfl)) rfl rfl ?_
    | refine SL.val (Val.loadP tabOk rfl rfl rfl (by first|(apply Or.inl;(repeat first|assumption|exact m0|apply m1);done)|(apply Or.inr;(repeat first|assumption|exact m0|apply m1);done)) List.not_mem_nil (Nat.le_of_ble_eq_true (by rfl))) rfl rfl ?_
  refine SL.call (print_s (f := (Frm.mk 0 2 [.mk 0 0 [], .mk 1 0 [], .mk 2 0 []])) (by rw [show (Frm.mk 0 2 [.mk 0 0 [], .mk 1 0 [], .mk 2 0 []]).nodes = 4 by kernel_rfl]; decide)) (casts_eq (by rw [Frm.abs_mk])) (by kernel_rfl) rfl rfl rfl ?_
  refine After.pure Reads.nil (fun _ => rfl) ?_
  intro _
  refine SL.val (Val.to (C := boo true) (Val.eqS rfl rfl) (congrArg (fun b => Abs.v (Value.bool b)) (decide_eq_true (congrArg (fun l : Txt => ByteArray.mk l.toArray) fixed3)))) rfl rfl ?_
  refine SL.val (Val.pickT rfl rfl) rfl rfl ?_
  refine SL.val (Val.assign rfl) rfl rfl ?_
  refine SL.nil (SE.seq ?_)
  refine SC.ret ?_
  refine SE.fin (rs := [.tmp 0]) rfl (RV.tmp rfl RV.nil) (()) (by repeat first|exact s0 _|exact s1 _|apply s2|apply s3) (by simp [It.rids]) ?_
  exact rfl
end
end Go.Proofs.YthaahcdfnmfihaaDoor.A
/-
  Policies' texts, plain: what is printed reads back, blanks or none between its parts.
-/
set_option maxRecDepth 100000
set_option linter.unusedSimpArgs false
set_option linter.unusedVariables false
namespace Go.Proofs.YthaahcdfnmfihaaDoor.A
open Go.RowKit

/-- Behind these blanks may stand; ahead of those. -/
def opn (c : UInt8) : Bool := decide (c = 40 ∨ c = 44)
def spc (c : UInt8) : Bool := decide (c = 40 ∨ c = 44 ∨ c = 41)
/-- A text, with blanks where they may stand; what stands ahead of it. -/
inductive Pad : UInt8 → Txt → Txt → Prop
  | nil {p : UInt8} : Pad p [] []
  | cons {p c : UInt8} {t u : Txt} (m : Nat) (h : m = 0 ∨ opn p = true ∨ spc c = true) (k : Pad c t u) : Pad p (c :: t) (List.replicate m 32 ++ c :: u)
theorem Pad.refl : ∀ (p : UInt8) (t : Txt), Pad p t t
  | _, [] => .nil
  | _, c :: t => .cons 0 (.inl rfl) (Pad.refl c t)
theorem Pad.len {p : UInt8} {t u : Txt} (h : Pad p t u) : t.length ≤ u.length := by
  induction h with
  | nil => exact Nat.le_refl _
  | cons m h k ih => simp only [List.length_append, List.length_cons, List.length_replicate]; omega
theorem Pad.end_ {p : UInt8} {u : Txt} (h : Pad p [] u) : u = [] := by cases h; rfl
theorem Pad.mark {p c : UInt8} {t u : Txt} (h : Pad p (c :: t) u) : ∃ m v, u = List.replicate m 32 ++ c :: v ∧ Pad c t v := by
  cases h with
  | cons m h k => exact ⟨m, _, rfl, k⟩
theorem bare_rep (m : Nat) (t : Txt) : bare (List.replicate m 32 ++ t) = bare t := by
  induction m with
  | zero => rfl
  | succ m ih => rw [List.replicate_succ, List.cons_append]; exact (if_pos rfl).trans ih
theorem bare_own {c : UInt8} {t : Txt} (h : c ≠ 32) : bare (c :: t) = c :: t := if_neg h
theorem spc_opn {c : UInt8} (h : spc c = false) : opn c = false := by
  unfold spc at h
  unfold opn
  simp at h ⊢
  exact ⟨h.1, h.2.1⟩
/-- A word's end: no blanks in it. -/
theorem Pad.tail : ∀ {s : Txt} {p : UInt8} {t u : Txt}, opn p = false → (∀ d ∈ s, spc d = false) → Pad p (s ++ t) u → ∃ q v, u = s ++ v ∧ Pad q t v
  | [], p, t, u, hp, hs, h => ⟨p, u, rfl, h⟩
  | c :: s, p, t, u, hp, hs, h => by
    have h : Pad p (c :: (s ++ t)) u := h
    cases h with
    | cons m h3 k =>
      have hc := hs c List.mem_cons_self
      have h0 : m = 0 := by
        rcases h3 with h3 | h3 | h3
        · exact h3
        · rw [hp] at h3; cases h3
        · rw [hc] at h3; cases h3
      subst h0
      obtain ⟨q, v, rfl, h4⟩ := Pad.tail (spc_opn hc) (fun d hd => hs d (List.mem_cons_of_mem _ hd)) k
      exact ⟨q, v, rfl, h4⟩
/-- A word: blanks ahead of it at most. -/
theorem Pad.word {s : Txt} {p c : UInt8} {t u : Txt} (hs : ∀ d ∈ c :: s, spc d = false) (h : Pad p (c :: s ++ t) u) : ∃ m q v, u = List.replicate m 32 ++ (c :: (s ++ v)) ∧ Pad q t v := by
  obtain ⟨m, v, rfl, h2⟩ := Pad.mark (show Pad p (c :: (s ++ t)) u from h)
  obtain ⟨q, v2, rfl, h3⟩ := Pad.tail (spc_opn (hs c List.mem_cons_self)) (fun d hd => hs d (List.mem_cons_of_mem _ hd)) h2
  exact ⟨m, q, v2, rfl, h3⟩
/-! ### Numbers -/
theorem dg_dig {n : Nat} (h : n < 10) : isDig (dg n) = true := by
  unfold isDig
  rw [dg_nat h, decide_eq_true_iff]
  omega
theorem dg_ne {n : Nat} (h : n < 10) {c : UInt8} (hc : c.toNat < 48 ∨ 57 < c.toNat) : dg n ≠ c := fun e => by
  have := dg_nat h
  rw [e] at this
  omega
theorem spc_dg {n : Nat} (h : n < 10) : spc (dg n) = false := by
  unfold spc
  rw [decide_eq_false_iff_not]
  rintro (e | e | e)
  · exact dg_ne h (by decide) e
  · exact dg_ne h (by decide) e
  · exact dg_ne h (by decide) e
theorem digT_mem {i : Nat} (h : i < 100) : ∀ c ∈ digT i, ∃ n, n < 10 ∧ c = dg n := by
  intro c hc
  unfold digT at hc
  split at hc
  · rw [List.mem_singleton] at hc
    exact ⟨i, (by assumption), hc⟩
  · simp only [List.mem_cons, List.not_mem_nil, or_false] at hc
    rcases hc with e | e
    · exact ⟨i / 10, (by omega), e⟩
    · exact ⟨i % 10, (by omega), e⟩
/-- A number that is printed reads back. -/
theorem num_text {i : Nat} (h : i < 100) {v : Txt} (hv : digs v = []) : numT (digT i ++ v) = some (i, v) := by
  have hd : digs (digT i ++ v) = digT i := by
    have h1 : (digT i ++ v).takeWhile isDig = digT i ++ v.takeWhile isDig := List.takeWhile_append_of_pos fun c hc => by
      obtain ⟨n, hn, rfl⟩ := digT_mem h c hc
      exact dg_dig hn
    show (digT i ++ v).takeWhile isDig = _
    rw [h1, show v.takeWhile isDig = [] from hv, List.append_nil]
  unfold numT
  rw [hd, List.drop_left]
  by_cases h10 : i < 10
  · have e := dg_nat h10
    rw [digT_one h10, if_neg (by simp)]
    show some (0 * 10 + ((dg i).toNat - 48), v) = _
    rw [e]
    congr 2
    omega
  · have e1 := dg_nat (show i / 10 < 10 by omega)
    have e2 := dg_nat (show i % 10 < 10 by omega)
    rw [digT_two h10, if_neg (by
      simp only [List.length_cons, List.length_nil, List.head?_cons, Option.some.injEq]
      rintro (h1 | h1 | ⟨_, h1⟩)
      · omega
      · omega
      · rw [h1] at e1
        have : (48 : UInt8).toNat = 48 := rfl
        omega)]
    show some ((0 * 10 + ((dg (i / 10)).toNat - 48)) * 10 + ((dg (i % 10)).toNat - 48), v) = _
    rw [e1, e2]
    congr 2
    omega
theorem begins_own (c : UInt8) (v : Txt) : begins (c :: v) [c] = true := by unfold begins; simp [List.isPrefixOf]
theorem begins_not {c d : UInt8} (h : d ≠ c) (v : Txt) : ¬ begins (c :: v) [d] = true := by unfold begins; simp [List.isPrefixOf]; exact h
/-- What may stand behind a policy. -/
def Stop (r : Txt) : Prop := r = [] ∨ ∃ t, r = 41 :: t ∨ r = 44 :: t
theorem stop_pad {p : UInt8} {r v : Txt} (h : Stop r) (hp : Pad p r v) : digs v = [] ∧ begins (bare v) [111, 102] = false := by
  rcases h with rfl | ⟨t, rfl | rfl⟩
  · rw [hp.end_]; exact ⟨rfl, rfl⟩
  · obtain ⟨m, u, rfl, _⟩ := hp.mark
    refine ⟨?_, ?_⟩
    · cases m with
      | zero => rfl
      | succ m => rw [List.replicate_succ]; rfl
    · rw [bare_rep, bare_own (by decide)]; rfl
  · obtain ⟨m, u, rfl, _⟩ := hp.mark
    refine ⟨?_, ?_⟩
    · cases m with
      | zero => rfl
      | succ m => rw [List.replicate_succ]; rfl
    · rw [bare_rep, bare_own (by decide)]; rfl
/-! ### Policies -/
def ReadsT (k : Nat) (f : Frm) : Prop := ∀ (p : UInt8) (rest u : Txt), Stop rest → Pad p (f.text ++ rest) u → ∃ c v, polT k u = some (f, v) ∧ Pad c rest v
theorem rowL_pad {k : Nat} : ∀ (ks : List Frm) (k0 : Frm) (F : Nat) (acc : List Frm) (p : UInt8) (rest u : Txt), ReadsT k k0 → (∀ x ∈ ks, ReadsT k x) → ks.length + 1 ≤ F → Pad p (k0.text ++ (Frm.texts ks ++ 41 :: rest)) u → ∃ v, rowL (polT k) F u acc = some (acc ++ k0 :: ks, v) ∧ Pad 41 rest v
  | [], k0, F, acc, p, rest, u, h0, hk, hF, hp => by
    obtain ⟨c, v, e, h1⟩ := h0 p _ u (.inr ⟨rest, .inl rfl⟩) hp
    obtain ⟨m, v2, rfl, h2⟩ := Pad.mark (show Pad c (41 :: rest) v from h1)
    obtain ⟨F, rfl⟩ : ∃ n, F = n + 1 := ⟨F - 1, (by simp at hF; omega)⟩
    refine ⟨v2, ?_, h2⟩
    unfold rowL
    rw [e]
    dsimp only
    rw [bare_rep, bare_own (by decide), if_pos (begins_own 41 v2)]
    rfl
  | k1 :: ks, k0, F, acc, p, rest, u, h0, hk, hF, hp => by
    obtain ⟨c, v, e, h1⟩ := h0 p _ u (.inr ⟨_, .inr rfl⟩) (show Pad p (k0.text ++ (44 :: (k1.text ++ Frm.texts ks ++ 41 :: rest))) u by rw [Frm.texts] at hp; exact hp)
    obtain ⟨m, v2, rfl, h2⟩ := Pad.mark h1
    obtain ⟨F, rfl⟩ : ∃ n, F = n + 1 := ⟨F - 1, (by simp at hF; omega)⟩
    obtain ⟨v3, e3, h3⟩ := rowL_pad ks k1 F (acc ++ [k0]) 44 rest v2 (hk _ List.mem_cons_self) (fun x hx => hk x (List.mem_cons_of_mem _ hx)) (by simp only [List.length_cons] at hF; omega) (by rw [← List.append_assoc]; exact h2)
    refine ⟨v3, ?_, h3⟩
    unfold rowL
    rw [e]
    dsimp only
    rw [bare_rep, bare_own (by decide), if_neg (begins_not (by decide) v2), if_pos (begins_own 44 v2)]
    show rowL (polT k) F v2 (acc ++ [k0]) = _
    rw [e3, List.append_assoc]
    rfl
theorem row_pad {k : Nat} {ks : List Frm} (hk : ∀ x ∈ ks, ReadsT k x) (hn : ks ≠ []) {p : UInt8} {rest u : Txt} (hp : Pad p (40 :: (joinT ks ++ 41 :: rest)) u) : ∃ v, rowT (polT k) u = some (ks, v) ∧ Pad 41 rest v := by
  obtain ⟨m, v, rfl, h1⟩ := hp.mark
  cases ks with
  | nil => exact absurd rfl hn
  | cons k0 ks =>
    have hl := h1.len
    have ht : ks.length ≤ (Frm.texts ks).length := by
      clear hp h1 hl hk hn
      induction ks with
      | nil => simp
      | cons x l ih => rw [Frm.texts, List.length_cons, List.length_cons, List.length_append]; omega
    rw [joinT, List.append_assoc] at h1 hl
    simp only [List.length_append, List.length_cons] at hl
    obtain ⟨v2, e, h2⟩ := rowL_pad ks k0 ((List.replicate m 32 ++ 40 :: v).length + 1) [] 40 rest v (hk _ List.mem_cons_self) (fun x hx => hk x (List.mem_cons_of_mem _ hx)) (by simp only [List.length_append, List.length_cons, List.length_replicate]; omega) h1
    refine ⟨v2, ?_, h2⟩
    unfold rowT
    rw [bare_rep, bare_own (by decide), if_pos (by rfl)]
    exact e
theorem pol_pad (f : Frm) : ∀ k : Nat, f.ranges 7 = true → f.nodes ≤ 32 → f.depth ≤ k → ReadsT k f := Frm.ind (p := fun f => ∀ k : Nat, f.ranges 7 = true → f.nodes ≤ 32 → f.depth ≤ k → ReadsT k f) (fun o a ks ih k hr hn hd => by
  rw [Frm.depth_mk] at hd
  obtain ⟨k, rfl⟩ : ∃ m, k = m + 1 := ⟨k - 1, (by omega)⟩
  intro p rest u hst hp
  by_cases hk : ks = []
  · subst hk
    rw [Frm.ranges_leaf, decide_eq_true_iff] at hr
    obtain ⟨m, rfl⟩ : ∃ m : Nat, o = (m : Nat) := ⟨o.toNat, (by omega)⟩
    have hm : m < 10 := by omega
    obtain ⟨ha0⟩ : a = 0 := hr.2.2
    rw [Frm.text_leaf, show digT (Int.toNat (m : Nat)) = [dg m] from digT_one hm] at hp
    obtain ⟨j, q, v, rfl, h1⟩ := Pad.word (s := []) (fun d hd => by rw [List.mem_singleton] at hd; subst hd; exact spc_dg hm) hp
    obtain ⟨s1, s2⟩ := stop_pad hst h1
    have hb : bare (List.replicate j 32 ++ (dg m :: ([] ++ v))) = dg m :: v := by rw [bare_rep]; exact bare_own (dg_ne hm (by decide))
    have h97 : (dg m == 97) = false := by rw [beq_eq_false_iff_ne]; exact dg_ne hm (by decide)
    refine ⟨q, v, ?_, h1⟩
    rw [pol_num (by rw [hb]; unfold begins; simp [List.isPrefixOf]; intro h; exact absurd h.symm (dg_ne hm (by decide))) (by rw [hb]; unfold begins; simp [List.isPrefixOf]; intro h; exact absurd h.symm (dg_ne hm (by decide))), hb,
      show dg m :: v = digT m ++ v by rw [digT_one hm]; rfl, num_text (by omega) s1]
    dsimp only
    rw [if_neg (by rw [s2]; decide)]
  · rw [Frm.ranges_node 7 o a hk, Bool.and_eq_true, decide_eq_true_iff, Frm.rangess_iff] at hr
    rw [Frm.nodes_mk] at hn
    have hlen := Frm.length_le ks
    have hks : ∀ x ∈ ks, ReadsT k x := fun x hx => ih x hx k (hr.1 x hx) (by have := Frm.nodes_mem hx; omega) (by have := Frm.depths_mem hx; omega)
    obtain ⟨m, rfl⟩ : ∃ m : Nat, a = (m : Nat) := ⟨a.toNat, (by omega)⟩
    rw [Frm.text_node o _ hk, List.append_assoc, List.append_assoc] at hp
    have hp : Pad p (headT (m : Nat) ks.length ++ (40 :: (joinT ks ++ 41 :: rest))) u := hp
    have ho : o = 0 := hr.2.2.2
    unfold headT at hp
    by_cases hall : (m : Int) = (ks.length : Nat)
    · rw [if_pos hall] at hp
      obtain ⟨j, q, v, rfl, h1⟩ := Pad.word (s := [108, 108]) (c := 97) (by decide) hp
      obtain ⟨v2, e, h2⟩ := row_pad hks hk h1
      refine ⟨41, v2, ?_, h2⟩
      unfold polT
      rw [bare_rep, bare_own (by decide), if_pos (by rfl)]
      show (rowT (polT k) v).map _ = _
      rw [e, ho, hall]
      rfl
    · rw [if_neg hall] at hp
      by_cases hany : (m : Int) = 1
      · rw [if_pos hany] at hp
        obtain ⟨j, q, v, rfl, h1⟩ := Pad.word (s := [110, 121]) (c := 97) (by decide) hp
        obtain ⟨v2, e, h2⟩ := row_pad hks hk h1
        refine ⟨41, v2, ?_, h2⟩
        unfold polT
        rw [bare_rep, bare_own (by decide), if_neg (by simp [begins, List.isPrefixOf]), if_pos (by rfl)]
        show (rowT (polT k) v).map _ = _
        rw [e, ho, hany]
        rfl
      · rw [if_neg hany] at hp
        have hp : Pad p ((digT m ++ [111, 102]) ++ (40 :: (joinT ks ++ 41 :: rest))) u := hp
        obtain ⟨c, s, hcs⟩ : ∃ c s, digT m ++ [111, 102] = c :: s := by unfold digT; split <;> exact ⟨_, _, rfl⟩
        obtain ⟨n, hn10, hc⟩ : ∃ n, n < 10 ∧ c = dg n := by
          have hm : ∃ d r, digT m = d :: r := by unfold digT; split <;> exact ⟨_, _, rfl⟩
          obtain ⟨d, r, hdr⟩ := hm
          rw [hdr] at hcs
          have e : d = c := (List.cons.inj hcs).1
          have := digT_mem (i := m) (by omega) d (by rw [hdr]; exact List.mem_cons_self)
          rw [e] at this
          exact this
        rw [hcs] at hp
        obtain ⟨j, q, v, rfl, h1⟩ := Pad.word (fun d hd => by
          rw [← hcs] at hd
          rcases List.mem_append.1 hd with hd | hd
          · obtain ⟨n2, h2, rfl⟩ := digT_mem (i := m) (by omega) d hd
            exact spc_dg h2
          · simp only [List.mem_cons, List.not_mem_nil, or_false] at hd
            rcases hd with rfl | rfl <;> decide) hp
        obtain ⟨v2, e, h2⟩ := row_pad hks hk h1
        have hb : bare (List.replicate j 32 ++ (c :: (s ++ v))) = digT m ++ ([111, 102] ++ v) := by
          rw [bare_rep, bare_own (by rw [hc]; exact dg_ne hn10 (by decide)), ← List.cons_append, ← hcs, List.append_assoc]
        have hne : ∀ w : Txt, begins (digT m ++ ([111, 102] ++ v)) (97 :: w) = false := fun w => by
          rw [← List.append_assoc, hcs, hc]
          unfold begins
          rw [List.cons_append, List.isPrefixOf]
          have : ((97 : UInt8) == dg n) = false := by rw [beq_eq_false_iff_ne]; exact fun h => dg_ne hn10 (by decide) h.symm
          rw [this, Bool.false_and]
        refine ⟨41, v2, ?_, h2⟩
        rw [pol_num (by rw [hb, hne]; decide) (by rw [hb, hne]; decide), hb, num_text (by omega) (by rfl)]
        dsimp only
        rw [show bare ([111, 102] ++ v) = 111 :: 102 :: v from bare_own (by decide), if_pos (by rfl), if_pos (by omega)]
        show (rowT (polT k) v).map _ = _
        rw [e, ho]
        rfl) f
/-- What is printed, blanks or none in it, reads back. -/
theorem parse_back {f : Frm} {n : Int} {u : Txt} (hc : f.check n = 0) (hu : u.length ≤ 200) (hp : Pad 0 (printF f) u) : parseF u n = (f, 0) := by
  obtain ⟨h1, h2, h3, h4⟩ := Frm.check_ok.1 hc
  have h7 := Frm.ranges_mono h1.2 f h4
  have hc7 : f.check 7 = 0 := Frm.check_ok.2 ⟨by omega, h2, h3, h7⟩
  rw [show printF f = f.text from if_pos hc7, ← List.append_nil f.text] at hp
  obtain ⟨c, v, e, h5⟩ := pol_pad f 10 h7 h2 (by omega) 0 [] u (.inl rfl) hp
  unfold parseF
  rw [if_neg (by omega), e]
  dsimp only
  rw [h5.end_, if_neg (by decide), if_neg (by rw [hc]; decide)]
end Go.Proofs.YthaahcdfnmfihaaDoor.A
/-
  Policies' texts: few, and the law TermsPrints, walked.
-/
set_option maxRecDepth 100000
set_option linter.unusedSimpArgs false
set_option linter.unusedVariables false
namespace Go.Proofs.YthaahcdfnmfihaaDoor.A
open Go.RowKit

section
variable {l r wd : Txt} {i : Nat} {n o a d : Int} {ks : List Frm} {f : Frm} {es er : Value}
set_option maxHeartbeats 2000000 in
theorem few_step (ih : ∀ k ∈ ks, ∀ d : Int, Spec Tryd.prog 10 [.agg k.abs, int d] [] (fun _ : {z : Int × Bool // z.2 = true → z.1 = k.nodes ∧ k.nodes ≤ 201} => []) (fun z => .tup [int z.1.1, boo z.1.2])) : Spec Tryd.prog 10 [.agg (Frm.mk o a ks).abs, int d] [] (fun _ : {z : Int × Bool // z.2 = true → z.1 = (Frm.mk o a ks).nodes ∧ (Frm.mk o a ks).nodes ≤ 201} => []) (fun z => .tup [int z.1.1, boo z.1.2]) := by
  rw [Frm.abs_mk]
  refine spec_of Tryd.func10 rfl Tryd.ntmps10 rfl fun G w => ?_
  refine SC.seq (SC.region ?_)
  refine SL.eff (Eff.boxA (cs := [int o, int a, .sl 3 (ks.map Frm.abs)]) rfl) rfl rfl ?_
  rintro _ _ ⟨b2, rfl, rfl⟩
  refine SL.val (Val.assign rfl) rfl rfl ?_
  refine SL.val (Val.assign rfl) rfl rfl ?_
  refine SL.nil (SE.seq ?_)
  refine SC.seq (SC.region ?_)
  refine SL.val (Val.assign rfl) rfl rfl ?_
  refine SL.nil (SE.seq ?_)
  refine SC.seq ?_
  refine SC.seq (SC.region ?_)
  refine SL.val (Val.fieldAddr tabOk rfl rfl rfl rfl rfl) rfl rfl ?_
  refine SL.val (Val.load1 tabOk rfl rfl (by first|(apply Or.inl;(repeat first|assumption|exact m0|apply m1);done)|(apply Or.inr;(repeat first|assumption|exact m0|apply m1);done)) List.not_mem_nil (by rfl)) rfl rfl ?_
  first
    | refine SL.val (Val.lenSl rfl Tryd.underlying23 (List.length_map _)) rfl rfl ?_
    | refine SL.val (Val.lenOwn rfl (by repeat first|assumption|exact m0|apply m1) Tryd.underlying23 (List.length_map _)) rfl rfl ?_
    | refine SL.val (Val.lenNil rfl Tryd.underlying23) rfl rfl ?_
  refine SL.val (Val.move rfl) rfl rfl ?_
  refine SL.nil (SE.seq ?_)
  refine SC.block ?_
  refine SC.rowLe (i := 12) rfl fun hml => ?_
  have hml2 : ks.length ≤ 9223372036854775807 := by rw [List.length_map] at hml; exact hml
  refine SC.loop (ι := Nat × Int) (fun z => [.blk b2 25 [int o, int a, .sl 3 (ks.map Frm.abs)]]) (fun z => [(1, int d), (2, ptr b2), (6, int z.2), (12, .sl 3 (ks.map Frm.abs)), (13, int (ks.length : Nat)), (14, int (z.1 : Nat))]) (fun z => z.1 ≤ ks.length ∧ z.2 = 1 + Frm.nodess (ks.take z.1) ∧ z.2 ≤ 200) (fun z => ks.length - z.1) (0, 1) (⟨Nat.zero_le _, rfl, by decide⟩) (by exact ⟨rfl, rfl, rfl, rfl, rfl, rfl, trivial⟩) (by repeat first|exact s0 _|exact s1 _|apply s2|apply s3) ?_
  intro z hz
  refine SC.seq (SC.region ?_)
  refine SL.val (Val.ltI rfl rfl) rfl rfl ?_
  refine SL.nil (SE.seq ?_)
  refine SC.seq ?_
  refine SC.condP rfl ?_ ?_
  rotate_left
  · intro hc15
    have hz2 : z.1 = ks.length := by omega
    have htk : ks.take z.1 = ks := by rw [hz2]; exact List.take_length
    refine SC.exit ?_
    refine SE.then_ (by intro h; cases h) ?_
    refine SE.then_ (by intro h; cases h) ?_
    refine SE.exit ?_
    refine SE.seq ?_
    refine SC.seq (SC.region ?_)
    refine SL.val (Val.move rfl) rfl rfl ?_
    refine SL.val (Val.move rfl) rfl rfl ?_
    refine SL.val (Val.leI rfl rfl) rfl rfl ?_
    refine SL.val (Val.assign rfl) rfl rfl ?_
    refine SL.val (Val.assign rfl) rfl rfl ?_
    refine SL.nil (SE.seq ?_)
    refine SC.ret ?_
    refine SE.fin (rs := [.tmp 4, .tmp 5]) rfl (RV.tmp rfl (RV.tmp rfl RV.nil)) (⟨(z.2, decide (d ≤ 50)), fun _ => by
      rw [Frm.nodes_mk]
      rw [htk] at hz
      dsimp only
      omega⟩) (by repeat first|exact s0 _|exact s1 _|apply s2|apply s3) (by simp [It.rids]) ?_
    exact rfl
  intro hc15
  have hlt : z.1 < ks.length := by omega
  have htn := Frm.take_nodes1 hlt
  refine SC.skip ?_
  refine SE.seq ?_
  refine SC.seq ?_
  refine SC.block ?_
  refine SC.seq (SC.region ?_)
  refine SL.val (Val.indexSl tabOk Tryd.underlying23 rfl rfl rfl rfl (at_map (by omega)) rfl rfl) rfl rfl ?_
  refine SL.val (Val.loadAR tabOk rfl rfl rfl (Frm.abs_len _)) rfl rfl ?_
  refine SL.eff (Eff.alloc tabOk rfl) rfl rfl ?_
  rintro _ _ ⟨b8, rfl, rfl⟩
  refine SL.eff (Eff.store (L' := (ks[z.1]'hlt).abs) tabOk rfl rfl rfl (by repeat first|assumption|exact Upd.here|apply Upd.there) (by exact Frm.abs_len _) (Nat.le_of_ble_eq_true (by rfl)) (by exact Frm.abs_ones _) (putL_whole (by exact Frm.abs_len _))) rfl rfl ?_
  rintro _ _ ⟨rfl, rfl⟩
  refine SL.nil (SE.seq ?_)
  refine SC.seq (SC.region ?_)
  refine SL.val (Val.loadA tabOk rfl rfl rfl (by first|(apply Or.inl;(repeat first|assumption|exact m0|apply m1);done)|(apply Or.inr;(repeat first|assumption|exact m0|apply m1);done)) List.not_mem_nil (Frm.abs_len _)) rfl rfl ?_
  refine SL.val (Val.move rfl) rfl rfl ?_
  refine SL.val (Val.addW rfl rfl) rfl rfl ?_
  refine SL.call (ih (ks[z.1]'hlt) (List.getElem_mem hlt) _) Casts.refl (by kernel_rfl) rfl rfl rfl ?_
  refine After.pure (by repeat first|exact .nil|refine .blk (by repeat first|assumption|exact m0|apply m1) ?_|refine .rd (by repeat first|assumption|exact m0|apply m1) ?_|refine .pc (by repeat first|assumption|exact m0|apply m1) ?_|refine .rdpc (by repeat first|assumption|exact m0|apply m1) ?_) (fun _ => rfl) ?_
  intro y
  refine SL.val (Val.move rfl) rfl rfl ?_
  refine SL.val (Val.extract rfl rfl) rfl rfl ?_
  refine SL.val (Val.extract rfl rfl) rfl rfl ?_
  refine SL.val (Val.assign rfl) rfl rfl ?_
  refine SL.val (Val.assign rfl) rfl rfl ?_
  refine SL.nil (SE.seq ?_)
  refine SC.seq (SC.region ?_)
  refine SL.val (Val.move rfl) rfl rfl ?_
  refine SL.val (Val.move rfl) rfl rfl ?_
  refine SL.val (Val.addW rfl rfl) rfl rfl ?_
  refine SL.val (Val.assign rfl) rfl rfl ?_
  refine SL.nil (SE.seq ?_)
  refine SC.seq (SC.region ?_)
  refine SL.val (Val.move rfl) rfl rfl ?_
  refine SL.val (Val.notB rfl) rfl rfl ?_
  refine SL.val (Val.move rfl) rfl rfl ?_
  refine SL.both (t := 30) rfl ?_ ?_
  · intro hc30
    iterate 2 refine SL.skip rfl rfl ?_
    refine SL.val (Val.pickT rfl rfl) rfl rfl ?_
    refine SL.nil (SE.seq ?_)
    refine SC.condT rfl ?_
    refine SC.seq (SC.region ?_)
    refine SL.val (Val.move rfl) rfl rfl ?_
    refine SL.val (Val.assign rfl) rfl rfl ?_
    refine SL.val (Val.assign rfl) rfl rfl ?_
    refine SL.nil (SE.seq ?_)
    refine SC.ret ?_
    refine SE.ret ?_
    refine SE.then_ (by intro h; cases h) ?_
    refine SE.then_ (by intro h; cases h) ?_
    refine SE.ret ?_
    refine SE.then_ (by intro h; cases h) ?_
    refine SE.fin (rs := [.tmp 4, .tmp 5]) rfl (RV.tmp rfl (RV.tmp rfl RV.nil)) (⟨(IntKind.i64.wrap (z.2 + y.1.1), false), fun h => (by cases h)⟩) (by repeat first|exact s0 _|exact s1 _|apply s2|apply s3) (by simp [It.rids]) ?_
    exact rfl
  intro hc30
  have hok : y.1.2 = true := by simpa using hc30
  obtain ⟨hy1, hy2⟩ := y.2 hok
  have hw : IntKind.i64.wrap (z.2 + y.1.1) = z.2 + y.1.1 := wrap_id (by simp only [InR, lo, hi]; omega)
  refine SL.val (Val.move rfl) rfl rfl ?_
  refine SL.val (Val.gtI rfl rfl) rfl rfl ?_
  refine SL.val (Val.pickF rfl rfl) rfl rfl ?_
  refine SL.nil (SE.seq ?_)
  refine SC.condP rfl ?_ ?_
  rotate_left
  · intro hc33
    refine SC.skip ?_
    refine SE.inBlock ?_
    refine SE.seq ?_
    refine SC.region ?_
    first
      | refine SL.val (Val.addI rfl rfl (by simp only [InR, lo, hi]; omega)) rfl rfl ?_
      | refine SL.val (Val.addW rfl rfl) rfl rfl ?_
    refine SL.val (Val.move rfl) rfl rfl ?_
    refine SL.nil ?_
    refine SE.round (z.1 + 1, IntKind.i64.wrap (z.2 + y.1.1)) (by first | omega | (dsimp only; omega)) (⟨by dsimp only; omega, by dsimp only; rw [hw]; omega, by dsimp only; omega⟩) (by exact ⟨rfl, rfl, rfl, rfl, rfl, rfl, trivial⟩) (by repeat first|exact s0 _|exact s1 _|apply s2|apply s3)
  intro hc33
  refine SC.seq (SC.region ?_)
  refine SL.val (Val.move rfl) rfl rfl ?_
  refine SL.val (Val.assign rfl) rfl rfl ?_
  refine SL.val (Val.assign rfl) rfl rfl ?_
  refine SL.nil (SE.seq ?_)
  refine SC.ret ?_
  refine SE.ret ?_
  refine SE.then_ (by intro h; cases h) ?_
  refine SE.then_ (by intro h; cases h) ?_
  refine SE.ret ?_
  refine SE.then_ (by intro h; cases h) ?_
  refine SE.fin (rs := [.tmp 4, .tmp 5]) rfl (RV.tmp rfl (RV.tmp rfl RV.nil)) (⟨(IntKind.i64.wrap (z.2 + y.1.1), false), fun h => (by cases h)⟩) (by repeat first|exact s0 _|exact s1 _|apply s2|apply s3) (by simp [It.rids]) ?_
  exact rfl
theorem few_s (f : Frm) : ∀ d : Int, Spec Tryd.prog 10 [.agg f.abs, int d] [] (fun _ : {z : Int × Bool // z.2 = true → z.1 = f.nodes ∧ f.nodes ≤ 201} => []) (fun z => .tup [int z.1.1, boo z.1.2]) := Frm.ind (p := fun f => ∀ d : Int, Spec Tryd.prog 10 [.agg f.abs, int d] [] (fun _ : {z : Int × Bool // z.2 = true → z.1 = f.nodes ∧ f.nodes ≤ 201} => []) (fun z => .tup [int z.1.1, boo z.1.2])) (fun o a ks ih d => few_step ih) f
set_option maxHeartbeats 2000000 in
theorem prints_s (he : isIf es) (hr : isIf er) : Spec Tryd.prog 4 [.agg f.abs, int n] (globs es er) (fun _ : Unit => []) (fun _ => boo true) := by
  refine spec_of Tryd.func4 rfl Tryd.ntmps4 rfl fun G w => ?_
  refine SC.seq (SC.region ?_)
  refine SL.eff (Eff.boxA (cs := f.abs) rfl) rfl rfl ?_
  rintro _ _ ⟨b2, rfl, rfl⟩
  refine SL.val (Val.assign rfl) rfl rfl ?_
  refine SL.nil (SE.seq ?_)
  refine SC.seq ?_
  refine SC.seq (SC.region ?_)
  refine SL.call (fixed_s he hr) Casts.refl (by kernel_rfl) rfl rfl rfl ?_
  refine After.pure (by repeat (first | exact Reads.nil | (refine Reads.blk ?_ ?_; focus ((repeat first|assumption|exact m0|apply m1); done)) | (refine Reads.rd ?_ ?_; focus ((repeat first|assumption|exact m0|apply m1); done)) | (refine Reads.pc ?_ ?_; focus ((repeat first|assumption|exact m0|apply m1); done)) | (refine Reads.rdpc ?_ ?_; focus ((repeat first|assumption|exact m0|apply m1); done)))) (fun _ => rfl) ?_
  intro _
  refine SL.val (Val.notB rfl) rfl rfl ?_
  refine SL.nil (SE.seq ?_)
  refine SC.cond rfl (by intro hc11; exfalso; cases hc11) ?_
  intro hc11
  refine SC.skip ?_
  refine SE.seq ?_
  refine SC.seq ?_
  refine SC.seq (SC.region ?_)
  refine SL.val (Val.loadA tabOk rfl rfl rfl (by first|(apply Or.inl;(repeat first|assumption|exact m0|apply m1);done)|(apply Or.inr;(repeat first|assumption|exact m0|apply m1);done)) List.not_mem_nil (Frm.abs_len _)) rfl rfl ?_
  refine SL.call (few_s f 1) Casts.refl (by kernel_rfl) rfl rfl rfl ?_
  refine After.pure Reads.nil (fun _ => rfl) ?_
  intro y
  refine SL.val (Val.move rfl) rfl rfl ?_
  refine SL.val (Val.extract rfl rfl) rfl rfl ?_
  refine SL.val (Val.extract rfl rfl) rfl rfl ?_
  refine SL.val (Val.assign rfl) rfl rfl ?_
  refine SL.val (Val.assign rfl) rfl rfl ?_
  refine SL.nil (SE.seq ?_)
  refine SC.seq (SC.region ?_)
  refine SL.val (Val.move rfl) rfl rfl ?_
  refine SL.val (Val.notB rfl) rfl rfl ?_
  refine SL.nil (SE.seq ?_)
  refine SC.cond rfl ?_ ?_
  · intro hc18
    refine SC.seq (SC.region ?_)
    refine SL.val (Val.assign rfl) rfl rfl ?_
    refine SL.nil (SE.seq ?_)
    refine SC.ret ?_
    refine SE.then_ (by intro h; cases h) ?_
    refine SE.fin (rs := [.tmp 4]) rfl (RV.tmp rfl RV.nil) (()) (by repeat first|exact s0 _|exact s1 _|apply s2|apply s3) (by simp [It.rids]) ?_
    exact rfl
  intro hc18
  have hnn := (y.2 (by simpa using hc18)).2
  refine SC.skip ?_
  refine SE.seq ?_
  refine SC.seq (SC.region ?_)
  refine SL.val (Val.loadA tabOk rfl rfl rfl (by first|(apply Or.inl;(repeat first|assumption|exact m0|apply m1);done)|(apply Or.inr;(repeat first|assumption|exact m0|apply m1);done)) List.not_mem_nil (Frm.abs_len _)) rfl rfl ?_
  refine SL.call (print_s (f := f) (by omega)) Casts.refl (by kernel_rfl) rfl rfl rfl ?_
  refine After.pure Reads.nil (fun _ => rfl) ?_
  intro _
  refine SL.val (Val.assign rfl) rfl rfl ?_
  refine SL.nil (SE.seq ?_)
  refine SC.seq ?_
  refine SC.seq (SC.region ?_)
  refine SL.val (Val.move rfl) rfl rfl ?_
  refine SL.val (Val.loadA tabOk rfl rfl rfl (by first|(apply Or.inl;(repeat first|assumption|exact m0|apply m1);done)|(apply Or.inr;(repeat first|assumption|exact m0|apply m1);done)) List.not_mem_nil (Frm.abs_len _)) rfl rfl ?_
  refine SL.call (rPrint_s (f := f) (by omega)) Casts.refl (by kernel_rfl) rfl rfl rfl ?_
  refine After.pure Reads.nil (fun _ => rfl) ?_
  intro _
  refine SL.val (Val.neS rfl rfl) rfl rfl ?_
  refine SL.nil (SE.seq ?_)
  refine SC.condP rfl (by intro hc24; exfalso; exact hc24 rfl) ?_
  intro hc24
  refine SC.skip ?_
  refine SE.seq ?_
  refine SC.seq ?_
  refine SC.seq (SC.region ?_)
  refine SL.val (Val.loadA tabOk rfl rfl rfl (by first|(apply Or.inl;(repeat first|assumption|exact m0|apply m1);done)|(apply Or.inr;(repeat first|assumption|exact m0|apply m1);done)) List.not_mem_nil (Frm.abs_len _)) rfl rfl ?_
  refine SL.val (Val.move rfl) rfl rfl ?_
  refine SL.call (rfcheck_s (f := f) (n := n) (by omega)) Casts.refl (by kernel_rfl) rfl rfl rfl ?_
  refine After.pure Reads.nil (fun _ => rfl) ?_
  intro _
  refine SL.val (Val.neI rfl rfl) rfl rfl ?_
  refine SL.val (Val.move rfl) rfl rfl ?_
  refine SL.bothP (t := 29) rfl ?_ ?_
  · intro hc29
    iterate 3 refine SL.skip rfl rfl ?_
    refine SL.val (Val.pickT rfl rfl) rfl rfl ?_
    refine SL.nil (SE.seq ?_)
    refine SC.condT rfl ?_
    refine SC.seq (SC.region ?_)
    refine SL.val (Val.assign rfl) rfl rfl ?_
    refine SL.nil (SE.seq ?_)
    refine SC.ret ?_
    refine SE.then_ (by intro h; cases h) ?_
    refine SE.fin (rs := [.tmp 4]) rfl (RV.tmp rfl RV.nil) (()) (by repeat first|exact s0 _|exact s1 _|apply s2|apply s3) (by simp [It.rids]) ?_
    exact rfl
  intro hc29
  refine SL.val (Val.move rfl) rfl rfl ?_
  refine SL.val (Val.to (C := int (((printF f).length : Nat) : Int)) (Val.lenSt rfl Tryd.underlying9) rfl) rfl rfl ?_
  refine SL.val (Val.gtI rfl rfl) rfl rfl ?_
  refine SL.val (Val.pickF rfl rfl) rfl rfl ?_
  refine SL.nil (SE.seq ?_)
  refine SC.condP rfl ?_ ?_
  · intro hc33
    refine SC.seq (SC.region ?_)
    refine SL.val (Val.assign rfl) rfl rfl ?_
    refine SL.nil (SE.seq ?_)
    refine SC.ret ?_
    refine SE.then_ (by intro h; cases h) ?_
    refine SE.fin (rs := [.tmp 4]) rfl (RV.tmp rfl RV.nil) (()) (by repeat first|exact s0 _|exact s1 _|apply s2|apply s3) (by simp [It.rids]) ?_
    exact rfl
  intro hc33
  have hpb := parse_back (f := f) (n := n) (u := printF f) (Classical.byContradiction hc29) (by omega) (Pad.refl 0 _)
  refine SC.skip ?_
  refine SE.seq ?_
  refine SC.seq (SC.region ?_)
  refine SL.val (Val.move rfl) rfl rfl ?_
  refine SL.val (Val.move rfl) rfl rfl ?_
  refine SL.call (parse_s (l := printF f) (n := n) he hr) Casts.refl (by kernel_rfl) rfl rfl rfl ?_
  refine After.pure (by repeat (first | exact Reads.nil | (refine Reads.blk ?_ ?_; focus ((repeat first|assumption|exact m0|apply m1); done)) | (refine Reads.rd ?_ ?_; focus ((repeat first|assumption|exact m0|apply m1); done)) | (refine Reads.pc ?_ ?_; focus ((repeat first|assumption|exact m0|apply m1); done)) | (refine Reads.rdpc ?_ ?_; focus ((repeat first|assumption|exact m0|apply m1); done)))) (fun _ => rfl) ?_
  intro _
  rw [hpb]
  refine SL.val (Val.move rfl) rfl rfl ?_
  refine SL.val (Val.extract rfl rfl) rfl rfl ?_
  refine SL.val (Val.extract rfl rfl) rfl rfl ?_
  refine SL.eff (Eff.alloc tabOk rfl) rfl rfl ?_
  rintro _ _ ⟨b8, rfl, rfl⟩
  refine SL.eff (Eff.store (L' := f.abs) tabOk rfl rfl rfl (by repeat first|assumption|exact Upd.here|apply Upd.there) (by exact Frm.abs_len _) (Nat.le_of_ble_eq_true (by rfl)) (by exact Frm.abs_ones _) (putL_whole (by exact Frm.abs_len _))) rfl rfl ?_
  rintro _ _ ⟨rfl, rfl⟩
  refine SL.val (Val.assign rfl) rfl rfl ?_
  refine SL.nil (SE.seq ?_)
  refine SC.seq (SC.region ?_)
  refine SL.val (Val.move rfl) rfl rfl ?_
  refine SL.val (Val.eqI rfl rfl) rfl rfl ?_
  refine SL.val (Val.move rfl) rfl rfl ?_
  refine SL.bothP (t := 42) rfl ?_ (by intro hc42; exfalso; exact hc42 rfl)
  intro hc42
  refine SL.val (Val.loadA tabOk rfl rfl rfl (by first|(apply Or.inl;(repeat first|assumption|exact m0|apply m1);done)|(apply Or.inr;(repeat first|assumption|exact m0|apply m1);done)) List.not_mem_nil (Frm.abs_len _)) rfl rfl ?_
  refine SL.val (Val.loadA tabOk rfl rfl rfl (by first|(apply Or.inl;(repeat first|assumption|exact m0|apply m1);done)|(apply Or.inr;(repeat first|assumption|exact m0|apply m1);done)) List.not_mem_nil (Frm.abs_len _)) rfl rfl ?_
  refine SL.call (same_s f (by omega)) Casts.refl (by kernel_rfl) rfl rfl rfl ?_
  refine After.pure Reads.nil (fun _ => rfl) ?_
  intro _
  refine SL.val (Val.pickT rfl rfl) rfl rfl ?_
  refine SL.val (Val.assign rfl) rfl rfl ?_
  refine SL.nil (SE.seq ?_)
  refine SC.ret ?_
  refine SE.fin (rs := [.tmp 4]) rfl (RV.tmp rfl RV.nil) (()) (by repeat first|exact s0 _|exact s1 _|apply s2|apply s3) (by simp [It.rids]) ?_
  exact rfl
end
end Go.Proofs.YthaahcdfnmfihaaDoor.A
