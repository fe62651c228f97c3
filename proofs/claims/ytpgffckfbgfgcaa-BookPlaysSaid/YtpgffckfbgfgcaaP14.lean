/-
  Packed out of the texts: B2, B3.
-/
import Derived.Test.YtpgffckfbgfgcaaP13
/-
  A book: the document's Tag and Check, the program's calls.
-/
set_option maxRecDepth 100000
set_option linter.unusedSimpArgs false
set_option linter.unusedVariables false
namespace Go.Proofs.Ytpgffckfbgfgcaa.A
open Go.RowKit

section
variable {r : Nat} {V1 V2 : Value} {ks : List DKey} {ts : List TKey} {from_ to_ : Int} {l M : List UInt8} {p bd bt : Nat} {D : DMap} {T : TMap}
/-! ### The document's -/
theorem plains_dg (d : List UInt8) : plains (digA d) = some (d.map bc) := by
  induction d with
  | nil => rfl
  | cons b d ih =>
    show (match plains (digA d) with | some us => some (bc b :: us) | none => none) = _
    rw [ih]; rfl
theorem ins_mem {α : Type} [DecidableEq α] (ks : List α) (k : α) : k ∈ ins ks k := by
  unfold ins
  split
  · assumption
  · simp
theorem isOrd_of {α : Type} [DecidableEq α] {ks : List α} {k : α} {j : Nat} (h : j < (ins ks k).length) (he : (ins ks k)[j] = k) : IsOrd ks k (j + 1) := by
  by_cases hk : k ∈ ks
  · have e : ins ks k = ks := if_pos hk
    simp only [e] at h he
    exact .inl ⟨j, h, he, rfl⟩
  · have e : ins ks k = ks ++ [k] := if_neg hk
    simp only [e] at h he
    rw [List.length_append, List.length_singleton] at h
    rcases Nat.lt_or_ge j ks.length with h1 | h1
    · rw [List.getElem_append_left h1] at he
      exact absurd (he ▸ List.getElem_mem h1) hk
    · obtain rfl : j = ks.length := by omega
      exact .inr ⟨hk, rfl⟩
theorem ins_all {α : Type} [DecidableEq α] {ks : List α} {k : α} {Q : α → Prop} (h : ∀ x ∈ ks, Q x) (hk : Q k) : ∀ x ∈ ins ks k, Q x := by
  unfold ins
  split
  · exact h
  · intro x hx
    rcases List.mem_append.1 hx with hx | hx
    · exact h x hx
    · rw [List.mem_singleton.1 hx]; exact hk
set_option maxHeartbeats 4000000 in
theorem rbtag_s (hsd : sdOk ((from_, to_), l)) (hall : ∀ t ∈ ts, sdOk t) (hn : ts.length < 100000) : Spec Try.prog 96 [ptr r, int from_, int to_, byt l] [.blk r 133 [.v V1, .v V2], own 9 1 V1 ((ks).map fun k => [.v (keyT k)]), own 251 3 V2 ((ts).map sdA)] (fun z : {o : Value × Nat // IsOrd ts (((from_, to_), l) : TKey) o.2} => [.blk r 133 [.v V1, .v z.1.1], own 9 1 V1 ((ks).map fun k => [.v (keyT k)]), own 251 3 z.1.1 ((ins ts (((from_, to_), l) : TKey)).map sdA)]) (fun z => .agg (digA (numB 255 z.1.2))) := by
  have hall2 := ins_all (k := (((from_, to_), l) : TKey)) hall hsd
  have hil := ins_length ts (((from_, to_), l) : TKey)
  refine spec_of Try.func96 rfl Try.ntmps96 rfl fun G w => ?_
  refine SC.seq (SC.region ?_)
  refine SL.eff (Eff.alloc tabOk rfl) rfl rfl ?_
  rintro _ _ ⟨b8, rfl, rfl⟩
  refine SL.nil (SE.seq ?_)
  refine SC.seq (SC.region ?_)
  refine SL.val (Val.move rfl) rfl rfl ?_
  refine SL.val (Val.move rfl) rfl rfl ?_
  refine SL.val (Val.move rfl) rfl rfl ?_
  refine SL.val (Val.strOf rfl) rfl rfl ?_
  refine SL.val (Val.buildS (L := sdA (((from_, to_), l) : TKey)) tabOk rfl rfl rfl (by rfl)) rfl rfl ?_
  refine SL.eff (Eff.alloc tabOk rfl) rfl rfl ?_
  rintro _ _ ⟨b9, rfl, rfl⟩
  refine SL.eff (Eff.store tabOk rfl rfl rfl (by repeat first|assumption|exact Upd.here|apply Upd.there) (by rfl) (Nat.le_of_ble_eq_true (by rfl)) (by rfl) (by rfl)) rfl rfl ?_
  rintro _ _ ⟨rfl, rfl⟩
  refine SL.nil (SE.seq ?_)
  refine SC.cutS (ι := Value) (fun z => [.blk b9 251 (sdA (((from_, to_), l) : TKey)), .blk b8 120 (zabs (List.replicate 32 (.int .u8 0))), .blk r 133 [.v V1, .v z], own 9 1 V1 ((ks).map fun k => [.v (keyT k)]), own 251 3 z (((ins ts (((from_, to_), l) : TKey))).map sdA)]) (fun z => [(0, ptr r), (8, ptr b8), (9, ptr b9)]) (fun z => True) ?_ ?_
  · skip
    refine SC.seq (SC.region ?_)
    refine SL.val (Val.move rfl) rfl rfl ?_
    first
      | refine SL.val (Val.loadA tabOk rfl rfl rfl (by first|(apply Or.inl;(repeat first|assumption|exact m0|apply m1);done)|(apply Or.inr;(repeat first|assumption|exact m0|apply m1);done)) List.not_mem_nil (by rfl)) rfl rfl ?_
      | refine SL.val (Val.loadP tabOk rfl rfl rfl (by first|(apply Or.inl;(repeat first|assumption|exact m0|apply m1);done)|(apply Or.inr;(repeat first|assumption|exact m0|apply m1);done)) List.not_mem_nil (Nat.le_of_ble_eq_true (by rfl))) rfl rfl ?_
    refine SL.call (rfind_s (r := r) (V1 := V1) (V2 := V2) (ts := ts) (s := (((from_, to_), l) : TKey)) hsd hall (by omega)) Casts.refl (by kernel_rfl) rfl rfl rfl ?_
    refine After.pure (by repeat first|exact .nil|refine .blk (by repeat first|assumption|exact m0|apply m1) ?_|refine .rd (by repeat first|assumption|exact m0|apply m1) ?_|refine .pc (by repeat first|assumption|exact m0|apply m1) ?_|refine .rdpc (by repeat first|assumption|exact m0|apply m1) ?_) (fun _ => rfl) ?_
    intro q1
    obtain ⟨q1, hq1⟩ := q1
    refine SL.val (Val.ltI rfl rfl) rfl rfl ?_
    refine SL.nil (SE.seq ?_)
    refine SC.condP rfl ?_ ?_
    rotate_left
    · intro hc18
      dsimp only at hc18
      have hin : (((from_, to_), l) : TKey) ∈ ts := by
        rcases hq1 with ⟨h, _⟩ | ⟨j, hj, he, h⟩
        · omega
        · exact he ▸ List.getElem_mem hj
      have hins : ins ts (((from_, to_), l) : TKey) = ts := if_pos hin
      refine SC.skip ?_
      first
        | exact SE.meet (r26) trivial (by exact ⟨rfl, rfl, rfl, trivial⟩) (by rw [hins]; exact (by repeat first|exact s0 _|exact s1 _|apply s2|apply s3))
        | exact SE.meet (V2) trivial (by exact ⟨rfl, rfl, rfl, trivial⟩) (by rw [hins]; exact (by repeat first|exact s0 _|exact s1 _|apply s2|apply s3))
    intro hc18
    dsimp only at hc18
    have hni : (((from_, to_), l) : TKey) ∉ ts := by
      rcases hq1 with ⟨_, h⟩ | ⟨j, hj, he, h⟩
      · exact h
      · omega
    have hins : ins ts (((from_, to_), l) : TKey) = ts ++ [(((from_, to_), l) : TKey)] := if_neg hni
    refine SC.draw (V2.ownBlock.toList ++ [r]) (.q 0 (.q 1 (.q 2 (.q 3 (.two 4 5 (.e 5 (.e 6 (.e 7 (.q 8 (.q 9 (.e 10 .nil)))))) (.two 4 6 (.e 6 (.e 7 (.q 8 (.q 9 (.e 10 .nil))))) (.e 4 (.e 7 (.q 8 (.q 9 (.e 10 .nil))))))))))) (by kernel_rfl) (by kernel_rfl) ?_
    refine SX.val rfl (Val.move rfl) (by first | (simp [mids, It.mids, ownPc, bkPc]; done) | (intro k hk; simp [mids, It.mids, ownPc, bkPc] at hk ⊢; grind)) rfl rfl ?_
    refine SX.val rfl (Val.move rfl) (by first | (simp [mids, It.mids, ownPc, bkPc]; done) | (intro k hk; simp [mids, It.mids, ownPc, bkPc] at hk ⊢; grind)) rfl rfl ?_
    refine SX.val rfl (Val.nilCheck rfl) (by first | (simp [mids, It.mids, ownPc, bkPc]; done) | (intro k hk; simp [mids, It.mids, ownPc, bkPc] at hk ⊢; grind)) rfl rfl ?_
    refine SX.val rfl (Val.fieldAddr tabOk rfl rfl rfl rfl rfl) (by first | (simp [mids, It.mids, ownPc, bkPc]; done) | (intro k hk; simp [mids, It.mids, ownPc, bkPc] at hk ⊢; grind)) rfl rfl ?_
    refine SX.two ?_ ?_
    · skip
      refine SX.valE rfl (Val.load1 tabOk rfl rfl (by first|(apply Or.inl;(repeat first|assumption|exact m0|apply m1);done)|(apply Or.inr;(repeat first|assumption|exact m0|apply m1);done)) List.not_mem_nil (by rfl)) rfl rfl ?_
      first
        | refine SX.valE rfl (Val.loadA tabOk rfl rfl rfl (by first|(apply Or.inl;(repeat first|assumption|exact m0|apply m1);done)|(apply Or.inr;(repeat first|assumption|exact m0|apply m1);done)) List.not_mem_nil (by rfl)) rfl rfl ?_
        | refine SX.valE rfl (Val.loadP tabOk rfl rfl rfl (by first|(apply Or.inl;(repeat first|assumption|exact m0|apply m1);done)|(apply Or.inr;(repeat first|assumption|exact m0|apply m1);done)) List.not_mem_nil (Nat.le_of_ble_eq_true (by rfl))) rfl rfl ?_
      refine SX.eff rfl (Eff.buildSl tabOk Try.underlying131 rfl rfl rfl rfl rfl rfl rfl) (by simp) rfl rfl ?_
      rintro _ _ ⟨rfl, rfl⟩
      refine SX.effX [r] rfl (Eff.appendE (zs := (ts ++ [(((from_, to_), l) : TKey)]).map sdA) tabOk [_, _, _, _] (by rw [List.map_append]; rfl) Try.underlying131 rfl rfl rfl rfl rfl rfl (by intro c hc; rw [List.mem_singleton] at hc; subst hc; rfl) (by unfold maxLen; simp only [List.length_map, List.length_cons, List.length_nil]; omega) (by rw [show Try.prog.bytesOf 251 = 32 by kernel_rfl]; simp only [List.length_map, List.length_cons, List.length_nil]; omega)) (fun k hk => List.mem_append_left _ hk) (by simp) rfl rfl ?_
      rintro _ _ ⟨r26, rfl, rfl⟩
      refine SX.val rfl (Val.nilCheck rfl) (by first | (simp [mids, It.mids, ownPc, bkPc]; done) | (intro k hk; simp [mids, It.mids, ownPc, bkPc] at hk ⊢; grind)) rfl rfl ?_
      refine SX.val rfl (Val.fieldAddr tabOk rfl rfl rfl rfl rfl) (by first | (simp [mids, It.mids, ownPc, bkPc]; done) | (intro k hk; simp [mids, It.mids, ownPc, bkPc] at hk ⊢; grind)) rfl rfl ?_
      first
        | refine SX.eff rfl (Eff.store tabOk rfl rfl rfl (by repeat first|assumption|exact Upd.here|apply Upd.there) (by rfl) (Nat.le_of_ble_eq_true (by rfl)) (by rfl) (by rfl)) (by simp) rfl rfl ?_
        | refine SX.eff rfl (Eff.storeOwn tabOk rfl rfl rfl rfl (by repeat first|assumption|exact m0|apply m1) (by repeat first|assumption|exact Upd.here|apply Upd.there) rfl (by rfl)) (by simp) rfl rfl ?_
      rintro _ _ ⟨rfl, rfl⟩
      refine SX.nil ?_
      first
        | exact SE.meet (r26) trivial (by exact ⟨rfl, rfl, rfl, trivial⟩) (by rw [hins]; exact (by repeat first|exact s0 _|exact s1 _|apply s2|apply s3))
        | exact SE.meet (V2) trivial (by exact ⟨rfl, rfl, rfl, trivial⟩) (by rw [hins]; exact (by repeat first|exact s0 _|exact s1 _|apply s2|apply s3))
    · skip
      first
        | refine SX.valE rfl (Val.loadA tabOk rfl rfl rfl (by first|(apply Or.inl;(repeat first|assumption|exact m0|apply m1);done)|(apply Or.inr;(repeat first|assumption|exact m0|apply m1);done)) List.not_mem_nil (by rfl)) rfl rfl ?_
        | refine SX.valE rfl (Val.loadP tabOk rfl rfl rfl (by first|(apply Or.inl;(repeat first|assumption|exact m0|apply m1);done)|(apply Or.inr;(repeat first|assumption|exact m0|apply m1);done)) List.not_mem_nil (Nat.le_of_ble_eq_true (by rfl))) rfl rfl ?_
      refine SX.two ?_ ?_
      · skip
        refine SX.valE rfl (Val.load1 tabOk rfl rfl (by first|(apply Or.inl;(repeat first|assumption|exact m0|apply m1);done)|(apply Or.inr;(repeat first|assumption|exact m0|apply m1);done)) List.not_mem_nil (by rfl)) rfl rfl ?_
        refine SX.eff rfl (Eff.buildSl tabOk Try.underlying131 rfl rfl rfl rfl rfl rfl rfl) (by simp) rfl rfl ?_
        rintro _ _ ⟨rfl, rfl⟩
        refine SX.effX [r] rfl (Eff.appendE (zs := (ts ++ [(((from_, to_), l) : TKey)]).map sdA) tabOk [_, _, _, _] (by rw [List.map_append]; rfl) Try.underlying131 rfl rfl rfl rfl rfl rfl (by intro c hc; rw [List.mem_singleton] at hc; subst hc; rfl) (by unfold maxLen; simp only [List.length_map, List.length_cons, List.length_nil]; omega) (by rw [show Try.prog.bytesOf 251 = 32 by kernel_rfl]; simp only [List.length_map, List.length_cons, List.length_nil]; omega)) (fun k hk => List.mem_append_left _ hk) (by simp) rfl rfl ?_
        rintro _ _ ⟨r26, rfl, rfl⟩
        refine SX.val rfl (Val.nilCheck rfl) (by first | (simp [mids, It.mids, ownPc, bkPc]; done) | (intro k hk; simp [mids, It.mids, ownPc, bkPc] at hk ⊢; grind)) rfl rfl ?_
        refine SX.val rfl (Val.fieldAddr tabOk rfl rfl rfl rfl rfl) (by first | (simp [mids, It.mids, ownPc, bkPc]; done) | (intro k hk; simp [mids, It.mids, ownPc, bkPc] at hk ⊢; grind)) rfl rfl ?_
        first
          | refine SX.eff rfl (Eff.store tabOk rfl rfl rfl (by repeat first|assumption|exact Upd.here|apply Upd.there) (by rfl) (Nat.le_of_ble_eq_true (by rfl)) (by rfl) (by rfl)) (by simp) rfl rfl ?_
          | refine SX.eff rfl (Eff.storeOwn tabOk rfl rfl rfl rfl (by repeat first|assumption|exact m0|apply m1) (by repeat first|assumption|exact Upd.here|apply Upd.there) rfl (by rfl)) (by simp) rfl rfl ?_
        rintro _ _ ⟨rfl, rfl⟩
        refine SX.nil ?_
        first
          | exact SE.meet (r26) trivial (by exact ⟨rfl, rfl, rfl, trivial⟩) (by rw [hins]; exact (by repeat first|exact s0 _|exact s1 _|apply s2|apply s3))
          | exact SE.meet (V2) trivial (by exact ⟨rfl, rfl, rfl, trivial⟩) (by rw [hins]; exact (by repeat first|exact s0 _|exact s1 _|apply s2|apply s3))
      · skip
        refine SX.eff rfl (Eff.buildSl tabOk Try.underlying131 rfl rfl rfl rfl rfl rfl rfl) (by simp) rfl rfl ?_
        rintro _ _ ⟨rfl, rfl⟩
        refine SX.valE rfl (Val.load1 tabOk rfl rfl (by first|(apply Or.inl;(repeat first|assumption|exact m0|apply m1);done)|(apply Or.inr;(repeat first|assumption|exact m0|apply m1);done)) List.not_mem_nil (by rfl)) rfl rfl ?_
        refine SX.effX [r] rfl (Eff.appendE (zs := (ts ++ [(((from_, to_), l) : TKey)]).map sdA) tabOk [_, _, _, _] (by rw [List.map_append]; rfl) Try.underlying131 rfl rfl rfl rfl rfl rfl (by intro c hc; rw [List.mem_singleton] at hc; subst hc; rfl) (by unfold maxLen; simp only [List.length_map, List.length_cons, List.length_nil]; omega) (by rw [show Try.prog.bytesOf 251 = 32 by kernel_rfl]; simp only [List.length_map, List.length_cons, List.length_nil]; omega)) (fun k hk => List.mem_append_left _ hk) (by simp) rfl rfl ?_
        rintro _ _ ⟨r26, rfl, rfl⟩
        refine SX.val rfl (Val.nilCheck rfl) (by first | (simp [mids, It.mids, ownPc, bkPc]; done) | (intro k hk; simp [mids, It.mids, ownPc, bkPc] at hk ⊢; grind)) rfl rfl ?_
        refine SX.val rfl (Val.fieldAddr tabOk rfl rfl rfl rfl rfl) (by first | (simp [mids, It.mids, ownPc, bkPc]; done) | (intro k hk; simp [mids, It.mids, ownPc, bkPc] at hk ⊢; grind)) rfl rfl ?_
        first
          | refine SX.eff rfl (Eff.store tabOk rfl rfl rfl (by repeat first|assumption|exact Upd.here|apply Upd.there) (by rfl) (Nat.le_of_ble_eq_true (by rfl)) (by rfl) (by rfl)) (by simp) rfl rfl ?_
          | refine SX.eff rfl (Eff.storeOwn tabOk rfl rfl rfl rfl (by repeat first|assumption|exact m0|apply m1) (by repeat first|assumption|exact Upd.here|apply Upd.there) rfl (by rfl)) (by simp) rfl rfl ?_
        rintro _ _ ⟨rfl, rfl⟩
        refine SX.nil ?_
        first
          | exact SE.meet (r26) trivial (by exact ⟨rfl, rfl, rfl, trivial⟩) (by rw [hins]; exact (by repeat first|exact s0 _|exact s1 _|apply s2|apply s3))
          | exact SE.meet (V2) trivial (by exact ⟨rfl, rfl, rfl, trivial⟩) (by rw [hins]; exact (by repeat first|exact s0 _|exact s1 _|apply s2|apply s3))
  · intro z hz
    refine SC.seq (SC.region ?_)
    refine SL.val (Val.move rfl) rfl rfl ?_
    first
      | refine SL.val (Val.loadA tabOk rfl rfl rfl (by first|(apply Or.inl;(repeat first|assumption|exact m0|apply m1);done)|(apply Or.inr;(repeat first|assumption|exact m0|apply m1);done)) List.not_mem_nil (by rfl)) rfl rfl ?_
      | refine SL.val (Val.loadP tabOk rfl rfl rfl (by first|(apply Or.inl;(repeat first|assumption|exact m0|apply m1);done)|(apply Or.inr;(repeat first|assumption|exact m0|apply m1);done)) List.not_mem_nil (Nat.le_of_ble_eq_true (by rfl))) rfl rfl ?_
    refine SL.call (rfind_s (r := r) (V1 := V1) (V2 := z) (ts := (ins ts (((from_, to_), l) : TKey))) (s := (((from_, to_), l) : TKey)) hsd hall2 (by omega)) Casts.refl (by kernel_rfl) rfl rfl rfl ?_
    refine After.pure (by repeat first|exact .nil|refine .blk (by repeat first|assumption|exact m0|apply m1) ?_|refine .rd (by repeat first|assumption|exact m0|apply m1) ?_|refine .pc (by repeat first|assumption|exact m0|apply m1) ?_|refine .rdpc (by repeat first|assumption|exact m0|apply m1) ?_) (fun _ => rfl) ?_
    intro q2
    obtain ⟨q2, hq2⟩ := q2
    rcases hq2 with ⟨_, hq2⟩ | ⟨j, hj, he, rfl⟩
    · exact absurd (ins_mem ts (((from_, to_), l) : TKey)) hq2
    first
      | refine SL.val (Val.addI rfl rfl (by simp only [InR, lo, hi]; omega)) rfl rfl ?_
      | refine SL.val (Val.addW rfl rfl) rfl rfl ?_
    refine SL.call (rnum_s (f := 255) (n := j + 1) (by omega) (by omega)) Casts.refl (by kernel_rfl) rfl rfl rfl ?_
    refine After.pure (by repeat first|exact .nil|refine .blk (by repeat first|assumption|exact m0|apply m1) ?_|refine .rd (by repeat first|assumption|exact m0|apply m1) ?_|refine .pc (by repeat first|assumption|exact m0|apply m1) ?_|refine .rdpc (by repeat first|assumption|exact m0|apply m1) ?_) (fun _ => rfl) ?_
    intro _
    refine SL.eff (Eff.store (L' := digA (numB 255 (j + 1))) tabOk rfl rfl rfl (by repeat first|assumption|exact Upd.here|apply Upd.there) (by simp only [cellsA, digA, List.length_map]; rw [numB_length]) (Nat.le_of_ble_eq_true (by rfl)) (by show ones (digA _) = true; rw [ones_iff]; intro a ha; obtain ⟨b, _, rfl⟩ := List.mem_map.1 ha; rfl) (by exact putL_all (by simp only [cellsA, digA, List.length_map]; rw [numB_length]; rfl))) rfl rfl ?_
    rintro _ _ ⟨rfl, rfl⟩
    refine SL.nil (SE.seq ?_)
    refine SC.ret ?_
    refine SE.fin (rs := [.cell 8 120]) rfl (RV.cell rfl (RV.cellA tabOk rfl rfl (by first|(apply Or.inl;(repeat first|assumption|exact m0|apply m1);done)|(apply Or.inr;(repeat first|assumption|exact m0|apply m1);done)) (by simp only [digA, List.length_map]; rw [numB_length])) RV.nil) (⟨(z, j + 1), isOrd_of hj he⟩) (by repeat first|exact s0 _|exact s1 _|apply s2|apply s3) (by simp [It.rids]) rfl
set_option maxHeartbeats 4000000 in
theorem rbcheck5_s (hsd : sdOk ((from_, to_), l)) (hall : ∀ t ∈ ts, sdOk t) (hn : ts.length < 100000) (hM : M.length = 32) : Spec Try.prog 97 [ptr r, int from_, int to_, byt l, .agg (digA M)] [.rd r 133 [.v V1, .v V2], .rdpc (ownPc 251 3 V2 (ts.map sdA))] (fun _ : {x : Bool × Nat // IsOrd ts (((from_, to_), l) : TKey) x.2 ∧ x.1 = (decide ((((from_, to_), l) : TKey) ∈ ts) && decide (M = numB 255 x.2))} => []) (fun z => boo z.1.1) := by
  refine spec_of Try.func97 rfl Try.ntmps97 rfl fun G w => ?_
  refine SC.seq (SC.region ?_)
  refine SL.eff (Eff.boxA rfl) rfl rfl ?_
  rintro _ _ ⟨b9, rfl, rfl⟩
  refine SL.val (Val.assign rfl) rfl rfl ?_
  refine SL.nil (SE.seq ?_)
  refine SC.seq (SC.region ?_)
  refine SL.val (Val.move rfl) rfl rfl ?_
  refine SL.val (Val.move rfl) rfl rfl ?_
  refine SL.val (Val.move rfl) rfl rfl ?_
  refine SL.val (Val.move rfl) rfl rfl ?_
  refine SL.val (Val.strOf rfl) rfl rfl ?_
  refine SL.val (Val.buildS (L := sdA (((from_, to_), l) : TKey)) tabOk rfl rfl rfl (by rfl)) rfl rfl ?_
  refine SL.call (rfind_s (r := r) (V1 := V1) (V2 := V2) (ts := ts) (s := (((from_, to_), l) : TKey)) hsd hall (by omega)) Casts.refl (by kernel_rfl) rfl rfl rfl ?_
  refine After.pure (Reads.rd (by repeat first|assumption|exact m0|apply m1) (Reads.rdpc (by repeat first|assumption|exact m0|apply m1) Reads.nil)) (fun _ => rfl) ?_
  intro q1
  obtain ⟨q1, hq1⟩ := q1
  refine SL.val (Val.assign rfl) rfl rfl ?_
  refine SL.nil (SE.seq ?_)
  refine SC.seq ?_
  refine SC.draw [] (.q 0 (.q 1 (.q 2 (.q 3 (.q 4 (.q 5 (.e 6 (.q 7 (.q 8 (.q 9 .nil)))))))))) (by kernel_rfl) (by kernel_rfl) ?_
  refine SX.val rfl (Val.move rfl) (by simp) rfl rfl ?_
  refine SX.val rfl (Val.geI rfl rfl) (by simp) rfl rfl ?_
  refine SX.val rfl (Val.move rfl) (by simp) rfl rfl ?_
  refine SX.bothP (t := 21) rfl ?_ ?_
  rotate_left
  · intro hc21
    dsimp only at hc21
    have hni : (((from_, to_), l) : TKey) ∉ ts := by
      rcases hq1 with ⟨_, h⟩ | ⟨j, hj, he, h⟩
      · exact h
      · omega
    iterate 3 refine SX.skip rfl rfl rfl ?_
    refine SX.skip' rfl rfl rfl ?_
    refine SX.skip rfl rfl rfl ?_
    refine SX.val rfl (Val.pickF rfl rfl) (by simp) rfl rfl ?_
    refine SX.val rfl (Val.assign rfl) (by simp) rfl rfl ?_
    refine SX.nil (SE.seq ?_)
    refine SC.ret ?_
    first
      | exact SE.fin (rs := [.tmp 10]) rfl (RV.tmp rfl RV.nil) ⟨(decide (M = numB 255 (j + 1)), j + 1), .inl ⟨j, hj, he, rfl⟩, by dsimp only; rw [decide_eq_true (show (((from_, to_), l) : TKey) ∈ ts from he ▸ List.getElem_mem hj), Bool.true_and]⟩ (by repeat first|exact s0 _|exact s1 _|apply s2|apply s3) (by simp [It.rids]) rfl
      | exact SE.fin (rs := [.tmp 10]) rfl (RV.tmp rfl RV.nil) ⟨(false, ts.length + 1), .inr ⟨hni, rfl⟩, by rw [decide_eq_false hni]; rfl⟩ (by repeat first|exact s0 _|exact s1 _|apply s2|apply s3) (by simp [It.rids]) rfl
  intro hc21
  dsimp only at hc21
  obtain ⟨j, hj, he, rfl⟩ : ∃ z, ∃ h : z < ts.length, ts[z] = (((from_, to_), l) : TKey) ∧ q1 = (z : Nat) := by
    rcases hq1 with ⟨h9, _⟩ | h9
    · omega
    · exact h9
  refine SX.val rfl (Val.loadA tabOk rfl rfl rfl (by first|(apply Or.inl;(repeat first|assumption|exact m0|apply m1);done)|(apply Or.inr;(repeat first|assumption|exact m0|apply m1);done)) List.not_mem_nil (by simp only [digA, List.length_map]; exact hM)) (by first | (simp [mids, It.mids, ownPc, bkPc]; done) | (intro k hk; simp [mids, It.mids, ownPc, bkPc] at hk ⊢; grind)) rfl rfl ?_
  refine SX.val rfl (Val.move rfl) (by simp) rfl rfl ?_
  first
    | refine SX.val rfl (Val.addI rfl rfl (by simp only [InR, lo, hi]; omega)) (by simp) rfl rfl ?_
    | refine SX.val rfl (Val.addW rfl rfl) (by simp) rfl rfl ?_
  refine SX.call rfl (rnum_s (f := 255) (n := j + 1) (by omega) (by omega)) (by simp [mids, It.mids]) Casts.refl (by kernel_rfl) rfl rfl rfl ?_
  refine After.pure (by repeat first|exact .nil|refine .blk (by repeat first|assumption|exact m0|apply m1) ?_|refine .rd (by repeat first|assumption|exact m0|apply m1) ?_|refine .pc (by repeat first|assumption|exact m0|apply m1) ?_|refine .rdpc (by repeat first|assumption|exact m0|apply m1) ?_) (fun _ => rfl) ?_
  intro _
  refine SX.val rfl (Val.eqA rfl rfl (plains_dg _) (plains_dg _) (by kernel_rfl) (eqlB Try.underlying120 (by kernel_rfl) (by kernel_rfl) _ _ hM (numB_length _ _) _ rfl)) (by first | (simp [mids, It.mids, ownPc, bkPc]; done) | (intro k hk; simp [mids, It.mids, ownPc, bkPc] at hk ⊢; grind)) rfl rfl ?_
  refine SX.val rfl (Val.pickT rfl rfl) (by simp) rfl rfl ?_
  refine SX.val rfl (Val.assign rfl) (by simp) rfl rfl ?_
  refine SX.nil (SE.seq ?_)
  refine SC.ret ?_
  first
    | exact SE.fin (rs := [.tmp 10]) rfl (RV.tmp rfl RV.nil) ⟨(decide (M = numB 255 (j + 1)), j + 1), .inl ⟨j, hj, he, rfl⟩, by dsimp only; rw [decide_eq_true (show (((from_, to_), l) : TKey) ∈ ts from he ▸ List.getElem_mem hj), Bool.true_and]⟩ (by repeat first|exact s0 _|exact s1 _|apply s2|apply s3) (by simp [It.rids]) rfl
    | exact SE.fin (rs := [.tmp 10]) rfl (RV.tmp rfl RV.nil) ⟨(false, ts.length + 1), .inr ⟨hni, rfl⟩, by rw [decide_eq_false hni]; rfl⟩ (by repeat first|exact s0 _|exact s1 _|apply s2|apply s3) (by simp [It.rids]) rfl
end
end Go.Proofs.Ytpgffckfbgfgcaa.A
/-
  BookPlays: the walk.
-/
set_option maxRecDepth 100000
set_option linter.unusedSimpArgs false
set_option linter.unusedVariables false
namespace Go.Proofs.Ytpgffckfbgfgcaa.A
open Go.RowKit

/-- An act: what is done, by whom, to whom, a text, a tag. -/
structure Act5 where
  kind : UInt8
  a : Int
  b : Int
  text : List UInt8
  tag : List UInt8
  len : tag.length = 32
def Act5.abs (x : Act5) : List Abs := .v (bc x.kind) :: int x.a :: int x.b :: byt x.text :: digA x.tag
theorem Act5.size (x : Act5) : x.abs.length = 36 := by simp [Act5.abs, digA, x.len]
theorem Act5.ones (x : Act5) : ones x.abs = true := by
  rw [ones_iff]; intro a ha
  simp only [Act5.abs, List.mem_cons] at ha
  rcases ha with rfl | rfl | rfl | rfl | ha
  · rfl
  · rfl
  · rfl
  · rfl
  · obtain ⟨b, _, rfl⟩ := List.mem_map.1 ha; rfl
theorem Act5.part (x : Act5) : part x.abs 4 32 = digA x.tag := by
  show (digA x.tag).take 32 = _
  exact List.take_of_length_le (by simp [digA, x.len])
structure Act5.Ok (x : Act5) : Prop where
  a : InR .i64 x.a
  b : InR .i64 x.b
theorem inr_i64r {a : Int} (h : InR .i64 a) : i64r a := by
  obtain ⟨h1, h2⟩ := h
  simp only [lo, hi] at h1 h2
  exact ⟨h1, by omega⟩
section
variable {acts : List Act5}
set_option maxHeartbeats 8000000 in
theorem plays_s (hok : ∀ x ∈ acts, x.Ok) : Spec Try.prog 13 [.sl 36 (acts.map Act5.abs)] [] (fun _ : Unit => []) (fun _ => boo true) := by
  have hmx : maxLen = 9223372036854775807 := rfl
  refine spec_of Try.func13 rfl Try.ntmps13 rfl fun G w => ?_
  refine SC.seq (SC.region ?_)
  refine SL.val (Val.assign rfl) rfl rfl ?_
  refine SL.nil (SE.seq ?_)
  refine SC.seq ?_
  refine SC.seq (SC.region ?_)
  refine SL.call (fixed05_s) Casts.refl (by kernel_rfl) rfl rfl rfl ?_
  refine After.pure (by repeat first|exact .nil|refine .blk (by repeat first|assumption|exact m0|apply m1) ?_|refine .rd (by repeat first|assumption|exact m0|apply m1) ?_|refine .pc (by repeat first|assumption|exact m0|apply m1) ?_|refine .rdpc (by repeat first|assumption|exact m0|apply m1) ?_) (fun _ => rfl) ?_
  intro _
  refine SL.val (Val.notT rfl) rfl rfl ?_
  refine SL.nil (SE.seq ?_)
  refine SC.condF rfl ?_
  refine SC.skip ?_
  refine SE.seq ?_
  refine SC.seq ?_
  refine SC.seq (SC.region ?_)
  refine SL.val (Val.move rfl) rfl rfl ?_
  first
    | refine SL.val (Val.lenSl rfl Try.underlying128 (List.length_map _)) rfl rfl ?_
    | refine SL.val (Val.lenOwn rfl (by repeat first|assumption|exact m0|apply m1) Try.underlying128 (List.length_map _)) rfl rfl ?_
    | refine SL.val (Val.lenNil rfl Try.underlying128) rfl rfl ?_
  refine SL.val (Val.gtI rfl rfl) rfl rfl ?_
  refine SL.nil (SE.seq ?_)
  refine SC.condP rfl ?_ ?_
  · intro hc15
    refine SC.seq (SC.region ?_)
    refine SL.val (Val.assign rfl) rfl rfl ?_
    refine SL.nil (SE.seq ?_)
    refine SC.ret ?_
    refine SE.then_ (by intro h; cases h) ?_
    refine SE.fin (rs := [.tmp 2]) rfl (RV.tmp rfl RV.nil) (()) (by repeat first|exact s0 _|exact s1 _|apply s2|apply s3) (by simp [It.rids]) ?_
    rfl
  intro hc15
  refine SC.skip ?_
  refine SE.seq ?_
  refine SC.seq (SC.region ?_)
  refine SL.call (bknew_s) Casts.refl (by kernel_rfl) rfl rfl rfl ?_
  refine After.make (by repeat first|exact .nil|refine .blk (by repeat first|assumption|exact m0|apply m1) ?_|refine .rd (by repeat first|assumption|exact m0|apply m1) ?_|refine .pc (by repeat first|assumption|exact m0|apply m1) ?_|refine .rdpc (by repeat first|assumption|exact m0|apply m1) ?_) (fun _ => rfl) ?_
  intro z0
  refine SL.val (Val.buildS tabOk rfl rfl rfl rfl) rfl rfl ?_
  refine SL.own0 251 3 ?_
  refine SL.own0 9 1 ?_
  refine SL.eff (Eff.boxA rfl) rfl rfl ?_
  rintro _ _ ⟨b18, rfl, rfl⟩
  refine SL.val (Val.assign rfl) rfl rfl ?_
  refine SL.val (Val.assign rfl) rfl rfl ?_
  refine SL.nil (SE.seq ?_)
  refine SC.seq (SC.region ?_)
  refine SL.val (Val.move rfl) rfl rfl ?_
  refine SL.val (Val.makeIface rfl (fun _ _ => by kernel_rfl)) rfl rfl ?_
  refine SL.val (Val.assign rfl) rfl rfl ?_
  refine SL.nil (SE.seq ?_)
  refine SC.seq ?_
  refine SC.seq (SC.region ?_)
  refine SL.val (Val.move rfl) rfl rfl ?_
  first
    | refine SL.val (Val.lenSl rfl Try.underlying128 (List.length_map _)) rfl rfl ?_
    | refine SL.val (Val.lenOwn rfl (by repeat first|assumption|exact m0|apply m1) Try.underlying128 (List.length_map _)) rfl rfl ?_
    | refine SL.val (Val.lenNil rfl Try.underlying128) rfl rfl ?_
  refine SL.val (Val.move rfl) rfl rfl ?_
  refine SL.nil (SE.seq ?_)
  refine SC.block ?_
  refine SC.loop (ι := Value × Value × List DKey × List TKey × DMap × TMap × Nat) (fun z => [.blk b18 133 [.v z.1, .v z.2.1], own 9 1 z.1 ((z.2.2.1).map fun k => [.v (keyT k)]), own 251 3 z.2.1 ((z.2.2.2.1).map sdA), .pc (bkPc z0.1 z0.2.1 z0.2.2 z.2.2.2.2.1 z.2.2.2.2.2.1)]) (fun z => [(3, .v (.pointer (some ⟨z0.1, 0, none⟩))), (4, ptr b18), (5, .ifc 25 (.v (.pointer (some ⟨z0.1, 0, none⟩)))), (21, .sl 36 (acts.map Act5.abs)), (22, int (acts.length : Nat)), (23, int (z.2.2.2.2.2.2 : Nat))]) (fun z => z.2.2.2.2.2.2 ≤ acts.length ∧ Numd z.2.2.2.2.1 z.2.2.1 ∧ Numd z.2.2.2.2.2.1 z.2.2.2.1 ∧ (∀ k ∈ z.2.2.1, k.1 < 256) ∧ (∀ t ∈ z.2.2.2.1, sdOk t) ∧ z.2.2.1.length ≤ z.2.2.2.2.2.2 ∧ z.2.2.2.1.length ≤ z.2.2.2.2.2.2) (fun z => acts.length - z.2.2.2.2.2.2) (.slice none 0 0, .slice none 0 0, [], [], [], [], 0) (⟨Nat.zero_le _, Numd.nil, Numd.nil, by simp, by simp, Nat.le_refl _, Nat.le_refl _⟩) (by exact ⟨rfl, rfl, rfl, rfl, rfl, rfl, trivial⟩) (by repeat first|exact s0 _|exact s1 _|apply s2|apply s3) ?_
  intro z hz
  refine SC.seq (SC.region ?_)
  refine SL.val (Val.ltI rfl rfl) rfl rfl ?_
  refine SL.nil (SE.seq ?_)
  refine SC.seq ?_
  refine SC.condP rfl ?_ ?_
  rotate_left
  · intro hc24
    refine SC.exit ?_
    refine SE.then_ (by intro h; cases h) ?_
    refine SE.then_ (by intro h; cases h) ?_
    refine SE.exit ?_
    refine SE.seq ?_
    refine SC.seq (SC.region ?_)
    refine SL.val (Val.assign rfl) rfl rfl ?_
    refine SL.nil (SE.seq ?_)
    refine SC.ret ?_
    refine SE.fin (rs := [.tmp 2]) rfl (RV.tmp rfl RV.nil) (()) (by repeat first|exact s0 _|exact s1 _|apply s2|apply s3) (by simp [It.rids]) ?_
    rfl
  intro hc24
  have hlt : z.2.2.2.2.2.2 < acts.length := by omega
  obtain ⟨i1, i2, i3, i4, i5, i6, i7⟩ := hz
  have hoka := (hok _ (List.getElem_mem hlt)).a
  have hokb := (hok _ (List.getElem_mem hlt)).b
  refine SC.skip ?_
  refine SE.seq ?_
  refine SC.seq ?_
  refine SC.block ?_
  refine SC.seq (SC.region ?_)
  refine SL.val (Val.indexSl tabOk Try.underlying128 rfl rfl rfl rfl (at_map (by omega)) rfl rfl) rfl rfl ?_
  refine SL.val (Val.loadAR tabOk rfl rfl rfl (Act5.size _)) rfl rfl ?_
  refine SL.eff (Eff.alloc tabOk rfl) rfl rfl ?_
  rintro _ _ ⟨b7, rfl, rfl⟩
  refine SL.eff (Eff.store (L' := (acts[z.2.2.2.2.2.2]'hlt).abs) tabOk rfl rfl rfl (by repeat first|assumption|exact Upd.here|apply Upd.there) (Act5.size _) (Nat.le_of_ble_eq_true (by rfl)) (Act5.ones _) (by exact putL_all (Act5.size _))) rfl rfl ?_
  rintro _ _ ⟨rfl, rfl⟩
  refine SL.nil (SE.seq ?_)
  refine SC.seq ?_
  refine SC.seq (SC.region ?_)
  refine SL.val (Val.fieldAddr tabOk rfl rfl rfl rfl rfl) rfl rfl ?_
  refine SL.val (Val.load1 tabOk rfl rfl (by first|(apply Or.inl;(repeat first|assumption|exact m0|apply m1);done)|(apply Or.inr;(repeat first|assumption|exact m0|apply m1);done)) List.not_mem_nil (by rfl)) rfl rfl ?_
  first
    | refine SL.val (Val.lenSl rfl Try.underlying34 (List.length_map _)) rfl rfl ?_
    | refine SL.val (Val.lenOwn rfl (by repeat first|assumption|exact m0|apply m1) Try.underlying34 (List.length_map _)) rfl rfl ?_
    | refine SL.val (Val.lenNil rfl Try.underlying34) rfl rfl ?_
  refine SL.val (Val.gtI rfl rfl) rfl rfl ?_
  refine SL.nil (SE.seq ?_)
  refine SC.condP rfl ?_ ?_
  · intro hc30
    refine SC.seq (SC.region ?_)
    refine SL.val (Val.assign rfl) rfl rfl ?_
    refine SL.nil (SE.seq ?_)
    refine SC.ret ?_
    refine SE.then_ (by intro h; cases h) ?_
    refine SE.ret ?_
    refine SE.then_ (by intro h; cases h) ?_
    refine SE.then_ (by intro h; cases h) ?_
    refine SE.ret ?_
    refine SE.then_ (by intro h; cases h) ?_
    refine SE.fin (rs := [.tmp 2]) rfl (RV.tmp rfl RV.nil) (()) (by repeat first|exact s0 _|exact s1 _|apply s2|apply s3) (by simp [It.rids]) ?_
    rfl
  intro hc30
  have hsd : sdOk ((((acts[z.2.2.2.2.2.2]'hlt).a, (acts[z.2.2.2.2.2.2]'hlt).b), (acts[z.2.2.2.2.2.2]'hlt).text) : TKey) := ⟨hoka, hokb, by show (acts[z.2.2.2.2.2.2]'hlt).text.length ≤ _; omega⟩
  refine SC.skip ?_
  refine SE.seq ?_
  refine SC.seq (SC.region ?_)
  refine SL.val (Val.assign rfl) rfl rfl ?_
  refine SL.nil (SE.seq ?_)
  refine SC.seq ?_
  refine SC.seq (SC.region ?_)
  refine SL.val (Val.fieldAddr tabOk rfl rfl rfl rfl rfl) rfl rfl ?_
  refine SL.val (Val.load1 tabOk rfl rfl (by first|(apply Or.inl;(repeat first|assumption|exact m0|apply m1);done)|(apply Or.inr;(repeat first|assumption|exact m0|apply m1);done)) List.not_mem_nil (by rfl)) rfl rfl ?_
  first
    | refine SL.val (Val.remI rfl rfl (by omega)) rfl rfl ?_
    | refine SL.val (Val.remT rfl rfl (by omega)) rfl rfl ?_
  refine SL.nil (SE.seq ?_)
  refine SC.block ?_
  refine SC.seq (SC.region ?_)
  refine SL.val (Val.eqI rfl rfl) rfl rfl ?_
  refine SL.val (Val.assign rfl) rfl rfl ?_
  refine SL.nil (SE.seq ?_)
  refine SC.condP rfl ?_ ?_
  · intro hc34
    have hpl : pl z.2.2.2.2.1 ((k8 (acts[z.2.2.2.2.2.2]'hlt).a, (acts[z.2.2.2.2.2.2]'hlt).text) : DKey) < 9223372036854775808 := by
      by_cases hk : ((k8 (acts[z.2.2.2.2.2.2]'hlt).a, (acts[z.2.2.2.2.2.2]'hlt).text) : DKey) ∈ z.2.2.1
      · obtain ⟨j, hj, he⟩ := List.getElem_of_mem hk
        rw [i2.pl (.inl ⟨j, hj, he, rfl⟩)]; omega
      · rw [i2.pl (.inr ⟨hk, rfl⟩)]; omega
    refine SC.known (p := b7 ∉ ([z0.1, z0.2.1, z0.2.2, b18] ++ z.1.ownBlock.toList ++ z.2.1.ownBlock.toList)) (fun _ _ h => by
        have h1 := h.mem.nodup
        simp [mids, It.mids, bkPc, ownPc] at h1 ⊢
        grind) fun hX => ?_
    refine SC.draw ([z0.1, z0.2.1, z0.2.2, b18] ++ z.1.ownBlock.toList ++ z.2.1.ownBlock.toList) (.q 0 (.q 1 (.q 2 (.q 3 (.q 4 (.q 6 (.q 7 (.q 8 (.q 9 (.q 10 (.e 5 (.e 11 (.q 12 (.q 13 .nil)))))))))))))) (by kernel_rfl) (by kernel_rfl) ?_
    refine SX.val rfl (Val.move rfl) (by first | (simp [mids, It.mids, ownPc, bkPc]; done) | (intro k hk; simp [mids, It.mids, ownPc, bkPc] at hk ⊢; grind)) rfl rfl ?_
    refine SX.val rfl (Val.fieldAddr tabOk rfl rfl rfl rfl rfl) (by first | (simp [mids, It.mids, ownPc, bkPc]; done) | (intro k hk; simp [mids, It.mids, ownPc, bkPc] at hk ⊢; grind)) rfl rfl ?_
    refine SX.val rfl (Val.load1 tabOk rfl rfl (by first|(apply Or.inl;(repeat first|assumption|exact m0|apply m1);done)|(apply Or.inr;(repeat first|assumption|exact m0|apply m1);done)) hX (by rfl)) (by first | (simp [mids, It.mids, ownPc, bkPc]; done) | (intro k hk; simp [mids, It.mids, ownPc, bkPc] at hk ⊢; grind)) rfl rfl ?_
    refine SX.val rfl (Val.fieldAddr tabOk rfl rfl rfl rfl rfl) (by first | (simp [mids, It.mids, ownPc, bkPc]; done) | (intro k hk; simp [mids, It.mids, ownPc, bkPc] at hk ⊢; grind)) rfl rfl ?_
    refine SX.val rfl (Val.load1 tabOk rfl rfl (by first|(apply Or.inl;(repeat first|assumption|exact m0|apply m1);done)|(apply Or.inr;(repeat first|assumption|exact m0|apply m1);done)) hX (by rfl)) (by first | (simp [mids, It.mids, ownPc, bkPc]; done) | (intro k hk; simp [mids, It.mids, ownPc, bkPc] at hk ⊢; grind)) rfl rfl ?_
    refine SX.val rfl (Val.move rfl) (by first | (simp [mids, It.mids, ownPc, bkPc]; done) | (intro k hk; simp [mids, It.mids, ownPc, bkPc] at hk ⊢; grind)) rfl rfl ?_
    refine SX.val rfl (Val.fieldAddr tabOk rfl rfl rfl rfl rfl) (by first | (simp [mids, It.mids, ownPc, bkPc]; done) | (intro k hk; simp [mids, It.mids, ownPc, bkPc] at hk ⊢; grind)) rfl rfl ?_
    refine SX.val rfl (Val.load1 tabOk rfl rfl (by first|(apply Or.inl;(repeat first|assumption|exact m0|apply m1);done)|(apply Or.inr;(repeat first|assumption|exact m0|apply m1);done)) hX (by rfl)) (by first | (simp [mids, It.mids, ownPc, bkPc]; done) | (intro k hk; simp [mids, It.mids, ownPc, bkPc] at hk ⊢; grind)) rfl rfl ?_
    refine SX.val rfl (Val.fieldAddr tabOk rfl rfl rfl rfl rfl) (by first | (simp [mids, It.mids, ownPc, bkPc]; done) | (intro k hk; simp [mids, It.mids, ownPc, bkPc] at hk ⊢; grind)) rfl rfl ?_
    refine SX.val rfl (Val.load1 tabOk rfl rfl (by first|(apply Or.inl;(repeat first|assumption|exact m0|apply m1);done)|(apply Or.inr;(repeat first|assumption|exact m0|apply m1);done)) hX (by rfl)) (by first | (simp [mids, It.mids, ownPc, bkPc]; done) | (intro k hk; simp [mids, It.mids, ownPc, bkPc] at hk ⊢; grind)) rfl rfl ?_
    refine SX.invokeR rfl (bkdigest_s (p := z0.1) (bd := z0.2.1) (bt := z0.2.2) (D := z.2.2.2.2.1) (T := z.2.2.2.2.2.1) (k := (acts[z.2.2.2.2.2.2]'hlt).a) (l := (acts[z.2.2.2.2.2.2]'hlt).text) (by omega) (by have := i2.1; omega) hpl) (by intro k hk; simp [mids, It.mids, ownPc, bkPc] at hk ⊢; grind) rfl Casts.refl (fun _ _ _ => by kernel_rfl) rfl rfl rfl ?_
    refine After.one rfl (by repeat first|assumption|exact m0|apply m1) (fun _ => rfl) ?_
    intro _
    refine ⟨_, (by repeat first|assumption|exact Upd.here|apply Upd.there), ?_⟩
    refine SX.callX ([]) rfl (rbdigest_s (r := b18) (V1 := z.1) (V2 := z.2.1) (ks := z.2.2.1) (ts := z.2.2.2.1) (kind := (acts[z.2.2.2.2.2.2]'hlt).a) (l := (acts[z.2.2.2.2.2.2]'hlt).text) (by omega) i4 (by omega)) (by intro k hk; simp [mids, It.mids, ownPc, bkPc] at hk ⊢; grind) (by simp) Casts.refl (by kernel_rfl) rfl rfl rfl ?_
    refine After.mid [_] rfl (by intro x hx; simp only [List.mem_cons, List.not_mem_nil, or_false] at hx; rcases hx with rfl | rfl | rfl <;> rfl) ?_
    intro o
    obtain ⟨⟨v3, o⟩, ho⟩ := o
    have hplo : pl z.2.2.2.2.1 ((k8 (acts[z.2.2.2.2.2.2]'hlt).a, (acts[z.2.2.2.2.2.2]'hlt).text) : DKey) = o := i2.pl ho
    refine SX.val rfl (Val.to (C := boo true) (Val.eqA rfl rfl (plains_dg _) (plains_dg _) (by kernel_rfl) (eqlB Try.underlying30 (by kernel_rfl) (by kernel_rfl) _ _ (numB_length _ _) (numB_length _ _) _ rfl)) (by rw [hplo]; simp)) (by simp) rfl rfl ?_
    refine SX.val rfl (Val.assign rfl) (by simp) rfl rfl ?_
    refine SX.nil ?_
    refine SE.inBlock ?_
    refine SE.seq ?_
    refine SC.seq (SC.region ?_)
    refine SL.val (Val.move rfl) rfl rfl ?_
    refine SL.call (bksizes_s (p := z0.1) (bd := z0.2.1) (bt := z0.2.2) (D := (pm z.2.2.2.2.1 ((k8 (acts[z.2.2.2.2.2.2]'hlt).a, (acts[z.2.2.2.2.2.2]'hlt).text) : DKey))) (T := z.2.2.2.2.2.1)) Casts.refl (by kernel_rfl) rfl rfl rfl ?_
    refine After.one rfl (by repeat first|assumption|exact m0|apply m1) (fun _ => rfl) ?_
    intro _
    refine ⟨_, (by repeat first|assumption|exact Upd.here|apply Upd.there), ?_⟩
    refine SL.val (Val.move rfl) rfl rfl ?_
    refine SL.val (Val.extract rfl rfl) rfl rfl ?_
    refine SL.val (Val.extract rfl rfl) rfl rfl ?_
    refine SL.val (Val.assign rfl) rfl rfl ?_
    refine SL.val (Val.assign rfl) rfl rfl ?_
    refine SL.nil (SE.seq ?_)
    refine SC.seq (SC.region ?_)
    refine SL.val (Val.move rfl) rfl rfl ?_
    refine SL.val (Val.notT rfl) rfl rfl ?_
    refine SL.val (Val.move rfl) rfl rfl ?_
    refine SL.val (Val.move rfl) rfl rfl ?_
    refine SL.val (Val.move rfl) rfl rfl ?_
    refine SL.val (Val.nilCheck rfl) rfl rfl ?_
    refine SL.val (Val.fieldAddr tabOk rfl rfl rfl rfl rfl) rfl rfl ?_
    refine SL.val (Val.load1 tabOk rfl rfl (by first|(apply Or.inl;(repeat first|assumption|exact m0|apply m1);done)|(apply Or.inr;(repeat first|assumption|exact m0|apply m1);done)) List.not_mem_nil (by rfl)) rfl rfl ?_
    refine SL.val (Val.lenOwnR rfl (.inl (by repeat first|assumption|exact m0|apply m1)) Try.underlying130 (List.length_map _)) rfl rfl ?_
    refine SL.val (Val.neI rfl rfl) rfl rfl ?_
    refine SL.val (Val.pickF rfl rfl) rfl rfl ?_
    refine SL.val (Val.move rfl) rfl rfl ?_
    refine SL.bothP (t := 107) rfl (by intro hc107; exfalso; have h8 := (i2.pm ((k8 (acts[z.2.2.2.2.2.2]'hlt).a, (acts[z.2.2.2.2.2.2]'hlt).text) : DKey)).1; omega) ?_
    intro hc107
    refine SL.val (Val.move rfl) rfl rfl ?_
    refine SL.val (Val.move rfl) rfl rfl ?_
    refine SL.val (Val.nilCheck rfl) rfl rfl ?_
    refine SL.val (Val.fieldAddr tabOk rfl rfl rfl rfl rfl) rfl rfl ?_
    refine SL.val (Val.load1 tabOk rfl rfl (by first|(apply Or.inl;(repeat first|assumption|exact m0|apply m1);done)|(apply Or.inr;(repeat first|assumption|exact m0|apply m1);done)) List.not_mem_nil (by rfl)) rfl rfl ?_
    refine SL.val (Val.lenOwnR rfl (.inl (by repeat first|assumption|exact m0|apply m1)) Try.underlying131 (List.length_map _)) rfl rfl ?_
    refine SL.val (Val.neI rfl rfl) rfl rfl ?_
    refine SL.val (Val.pickF rfl rfl) rfl rfl ?_
    refine SL.nil (SE.seq ?_)
    refine SC.condP rfl (by intro hc115; exfalso; have h8 := i3.1; omega) ?_
    intro hc115
    refine SC.skip ?_
    refine SE.inBlock ?_
    refine SE.seq ?_
    refine SC.region ?_
    first
      | refine SL.val (Val.addI rfl rfl (by simp only [InR, lo, hi]; omega)) rfl rfl ?_
      | refine SL.val (Val.addW rfl rfl) rfl rfl ?_
    refine SL.val (Val.move rfl) rfl rfl ?_
    refine SL.nil ?_
    exact SE.round (v3, z.2.1, ins z.2.2.1 ((k8 (acts[z.2.2.2.2.2.2]'hlt).a, (acts[z.2.2.2.2.2.2]'hlt).text) : DKey), z.2.2.2.1, pm z.2.2.2.2.1 ((k8 (acts[z.2.2.2.2.2.2]'hlt).a, (acts[z.2.2.2.2.2.2]'hlt).text) : DKey), z.2.2.2.2.2.1, z.2.2.2.2.2.2 + 1) (by dsimp only; omega) (⟨by dsimp only; omega, i2.pm _, i3, ins_all i4 (k8_lt _), i5, by dsimp only; have := ins_length z.2.2.1 ((k8 (acts[z.2.2.2.2.2.2]'hlt).a, (acts[z.2.2.2.2.2.2]'hlt).text) : DKey); omega, by dsimp only; omega⟩) (by exact ⟨rfl, rfl, rfl, rfl, rfl, rfl, trivial⟩) (by repeat first|exact s0 _|exact s1 _|apply s2|apply s3)
  intro hc34
  have hpl : pl z.2.2.2.2.2.1 ((((acts[z.2.2.2.2.2.2]'hlt).a, (acts[z.2.2.2.2.2.2]'hlt).b), (acts[z.2.2.2.2.2.2]'hlt).text) : TKey) < 9223372036854775808 := by
    by_cases hk : ((((acts[z.2.2.2.2.2.2]'hlt).a, (acts[z.2.2.2.2.2.2]'hlt).b), (acts[z.2.2.2.2.2.2]'hlt).text) : TKey) ∈ z.2.2.2.1
    · obtain ⟨j, hj, he⟩ := List.getElem_of_mem hk
      rw [i3.pl (.inl ⟨j, hj, he, rfl⟩)]; omega
    · rw [i3.pl (.inr ⟨hk, rfl⟩)]; omega
  refine SC.seq (SC.region ?_)
  refine SL.val (Val.eqI rfl rfl) rfl rfl ?_
  refine SL.val (Val.assign rfl) rfl rfl ?_
  refine SL.nil (SE.seq ?_)
  refine SC.condP rfl ?_ ?_
  · intro hc49
    refine SC.known (p := b7 ∉ ([z0.1, z0.2.1, z0.2.2, b18] ++ z.1.ownBlock.toList ++ z.2.1.ownBlock.toList)) (fun _ _ h => by
        have h1 := h.mem.nodup
        simp [mids, It.mids, bkPc, ownPc] at h1 ⊢
        grind) fun hX => ?_
    refine SC.draw ([z0.1, z0.2.1, z0.2.2, b18] ++ z.1.ownBlock.toList ++ z.2.1.ownBlock.toList) (.q 0 (.q 1 (.q 2 (.q 3 (.q 4 (.q 5 (.q 6 (.q 8 (.q 9 (.q 10 (.q 11 (.q 12 (.q 13 (.q 14 (.e 7 (.e 15 (.q 16 (.q 17 .nil)))))))))))))))))) (by kernel_rfl) (by kernel_rfl) ?_
    refine SX.val rfl (Val.move rfl) (by first | (simp [mids, It.mids, ownPc, bkPc]; done) | (intro k hk; simp [mids, It.mids, ownPc, bkPc] at hk ⊢; grind)) rfl rfl ?_
    refine SX.val rfl (Val.fieldAddr tabOk rfl rfl rfl rfl rfl) (by first | (simp [mids, It.mids, ownPc, bkPc]; done) | (intro k hk; simp [mids, It.mids, ownPc, bkPc] at hk ⊢; grind)) rfl rfl ?_
    refine SX.val rfl (Val.load1 tabOk rfl rfl (by first|(apply Or.inl;(repeat first|assumption|exact m0|apply m1);done)|(apply Or.inr;(repeat first|assumption|exact m0|apply m1);done)) hX (by rfl)) (by first | (simp [mids, It.mids, ownPc, bkPc]; done) | (intro k hk; simp [mids, It.mids, ownPc, bkPc] at hk ⊢; grind)) rfl rfl ?_
    refine SX.val rfl (Val.fieldAddr tabOk rfl rfl rfl rfl rfl) (by first | (simp [mids, It.mids, ownPc, bkPc]; done) | (intro k hk; simp [mids, It.mids, ownPc, bkPc] at hk ⊢; grind)) rfl rfl ?_
    refine SX.val rfl (Val.load1 tabOk rfl rfl (by first|(apply Or.inl;(repeat first|assumption|exact m0|apply m1);done)|(apply Or.inr;(repeat first|assumption|exact m0|apply m1);done)) hX (by rfl)) (by first | (simp [mids, It.mids, ownPc, bkPc]; done) | (intro k hk; simp [mids, It.mids, ownPc, bkPc] at hk ⊢; grind)) rfl rfl ?_
    refine SX.val rfl (Val.fieldAddr tabOk rfl rfl rfl rfl rfl) (by first | (simp [mids, It.mids, ownPc, bkPc]; done) | (intro k hk; simp [mids, It.mids, ownPc, bkPc] at hk ⊢; grind)) rfl rfl ?_
    refine SX.val rfl (Val.load1 tabOk rfl rfl (by first|(apply Or.inl;(repeat first|assumption|exact m0|apply m1);done)|(apply Or.inr;(repeat first|assumption|exact m0|apply m1);done)) hX (by rfl)) (by first | (simp [mids, It.mids, ownPc, bkPc]; done) | (intro k hk; simp [mids, It.mids, ownPc, bkPc] at hk ⊢; grind)) rfl rfl ?_
    refine SX.val rfl (Val.move rfl) (by first | (simp [mids, It.mids, ownPc, bkPc]; done) | (intro k hk; simp [mids, It.mids, ownPc, bkPc] at hk ⊢; grind)) rfl rfl ?_
    refine SX.val rfl (Val.fieldAddr tabOk rfl rfl rfl rfl rfl) (by first | (simp [mids, It.mids, ownPc, bkPc]; done) | (intro k hk; simp [mids, It.mids, ownPc, bkPc] at hk ⊢; grind)) rfl rfl ?_
    refine SX.val rfl (Val.load1 tabOk rfl rfl (by first|(apply Or.inl;(repeat first|assumption|exact m0|apply m1);done)|(apply Or.inr;(repeat first|assumption|exact m0|apply m1);done)) hX (by rfl)) (by first | (simp [mids, It.mids, ownPc, bkPc]; done) | (intro k hk; simp [mids, It.mids, ownPc, bkPc] at hk ⊢; grind)) rfl rfl ?_
    refine SX.val rfl (Val.fieldAddr tabOk rfl rfl rfl rfl rfl) (by first | (simp [mids, It.mids, ownPc, bkPc]; done) | (intro k hk; simp [mids, It.mids, ownPc, bkPc] at hk ⊢; grind)) rfl rfl ?_
    refine SX.val rfl (Val.load1 tabOk rfl rfl (by first|(apply Or.inl;(repeat first|assumption|exact m0|apply m1);done)|(apply Or.inr;(repeat first|assumption|exact m0|apply m1);done)) hX (by rfl)) (by first | (simp [mids, It.mids, ownPc, bkPc]; done) | (intro k hk; simp [mids, It.mids, ownPc, bkPc] at hk ⊢; grind)) rfl rfl ?_
    refine SX.val rfl (Val.fieldAddr tabOk rfl rfl rfl rfl rfl) (by first | (simp [mids, It.mids, ownPc, bkPc]; done) | (intro k hk; simp [mids, It.mids, ownPc, bkPc] at hk ⊢; grind)) rfl rfl ?_
    refine SX.val rfl (Val.load1 tabOk rfl rfl (by first|(apply Or.inl;(repeat first|assumption|exact m0|apply m1);done)|(apply Or.inr;(repeat first|assumption|exact m0|apply m1);done)) hX (by rfl)) (by first | (simp [mids, It.mids, ownPc, bkPc]; done) | (intro k hk; simp [mids, It.mids, ownPc, bkPc] at hk ⊢; grind)) rfl rfl ?_
    refine SX.invokeR rfl (bktag_s (p := z0.1) (bd := z0.2.1) (bt := z0.2.2) (D := z.2.2.2.2.1) (T := z.2.2.2.2.2.1) (from_ := (acts[z.2.2.2.2.2.2]'hlt).a) (to_ := (acts[z.2.2.2.2.2.2]'hlt).b) (l := (acts[z.2.2.2.2.2.2]'hlt).text) (inr_i64r hoka) (inr_i64r hokb) (by omega) (by have := i3.1; omega) hpl) (by intro k hk; simp [mids, It.mids, ownPc, bkPc] at hk ⊢; grind) rfl Casts.refl (fun _ _ _ => by kernel_rfl) rfl rfl rfl ?_
    refine After.one rfl (by repeat first|assumption|exact m0|apply m1) (fun _ => rfl) ?_
    intro _
    refine ⟨_, (by repeat first|assumption|exact Upd.here|apply Upd.there), ?_⟩
    refine SX.callX ([]) rfl (rbtag_s (r := b18) (V1 := z.1) (V2 := z.2.1) (ks := z.2.2.1) (ts := z.2.2.2.1) (from_ := (acts[z.2.2.2.2.2.2]'hlt).a) (to_ := (acts[z.2.2.2.2.2.2]'hlt).b) (l := (acts[z.2.2.2.2.2.2]'hlt).text) hsd i5 (by omega)) (by intro k hk; simp [mids, It.mids, ownPc, bkPc] at hk ⊢; grind) (by simp) Casts.refl (by kernel_rfl) rfl rfl rfl ?_
    refine After.mid [_] rfl (by intro x hx; simp only [List.mem_cons, List.not_mem_nil, or_false] at hx; rcases hx with rfl | rfl | rfl <;> rfl) ?_
    intro o
    obtain ⟨⟨v3, o⟩, ho⟩ := o
    have hplo : pl z.2.2.2.2.2.1 ((((acts[z.2.2.2.2.2.2]'hlt).a, (acts[z.2.2.2.2.2.2]'hlt).b), (acts[z.2.2.2.2.2.2]'hlt).text) : TKey) = o := i3.pl ho
    refine SX.val rfl (Val.to (C := boo true) (Val.eqA rfl rfl (plains_dg _) (plains_dg _) (by kernel_rfl) (eqlB Try.underlying120 (by kernel_rfl) (by kernel_rfl) _ _ (numB_length _ _) (numB_length _ _) _ rfl)) (by rw [hplo]; simp)) (by simp) rfl rfl ?_
    refine SX.val rfl (Val.assign rfl) (by simp) rfl rfl ?_
    refine SX.nil ?_
    refine SE.inBlock ?_
    refine SE.seq ?_
    refine SC.seq (SC.region ?_)
    refine SL.val (Val.move rfl) rfl rfl ?_
    refine SL.call (bksizes_s (p := z0.1) (bd := z0.2.1) (bt := z0.2.2) (D := z.2.2.2.2.1) (T := (pm z.2.2.2.2.2.1 ((((acts[z.2.2.2.2.2.2]'hlt).a, (acts[z.2.2.2.2.2.2]'hlt).b), (acts[z.2.2.2.2.2.2]'hlt).text) : TKey)))) Casts.refl (by kernel_rfl) rfl rfl rfl ?_
    refine After.one rfl (by repeat first|assumption|exact m0|apply m1) (fun _ => rfl) ?_
    intro _
    refine ⟨_, (by repeat first|assumption|exact Upd.here|apply Upd.there), ?_⟩
    refine SL.val (Val.move rfl) rfl rfl ?_
    refine SL.val (Val.extract rfl rfl) rfl rfl ?_
    refine SL.val (Val.extract rfl rfl) rfl rfl ?_
    refine SL.val (Val.assign rfl) rfl rfl ?_
    refine SL.val (Val.assign rfl) rfl rfl ?_
    refine SL.nil (SE.seq ?_)
    refine SC.seq (SC.region ?_)
    refine SL.val (Val.move rfl) rfl rfl ?_
    refine SL.val (Val.notT rfl) rfl rfl ?_
    refine SL.val (Val.move rfl) rfl rfl ?_
    refine SL.val (Val.move rfl) rfl rfl ?_
    refine SL.val (Val.move rfl) rfl rfl ?_
    refine SL.val (Val.nilCheck rfl) rfl rfl ?_
    refine SL.val (Val.fieldAddr tabOk rfl rfl rfl rfl rfl) rfl rfl ?_
    refine SL.val (Val.load1 tabOk rfl rfl (by first|(apply Or.inl;(repeat first|assumption|exact m0|apply m1);done)|(apply Or.inr;(repeat first|assumption|exact m0|apply m1);done)) List.not_mem_nil (by rfl)) rfl rfl ?_
    refine SL.val (Val.lenOwnR rfl (.inl (by repeat first|assumption|exact m0|apply m1)) Try.underlying130 (List.length_map _)) rfl rfl ?_
    refine SL.val (Val.neI rfl rfl) rfl rfl ?_
    refine SL.val (Val.pickF rfl rfl) rfl rfl ?_
    refine SL.val (Val.move rfl) rfl rfl ?_
    refine SL.bothP (t := 107) rfl (by intro hc107; exfalso; have h8 := i2.1; omega) ?_
    intro hc107
    refine SL.val (Val.move rfl) rfl rfl ?_
    refine SL.val (Val.move rfl) rfl rfl ?_
    refine SL.val (Val.nilCheck rfl) rfl rfl ?_
    refine SL.val (Val.fieldAddr tabOk rfl rfl rfl rfl rfl) rfl rfl ?_
    refine SL.val (Val.load1 tabOk rfl rfl (by first|(apply Or.inl;(repeat first|assumption|exact m0|apply m1);done)|(apply Or.inr;(repeat first|assumption|exact m0|apply m1);done)) List.not_mem_nil (by rfl)) rfl rfl ?_
    refine SL.val (Val.lenOwnR rfl (.inl (by repeat first|assumption|exact m0|apply m1)) Try.underlying131 (List.length_map _)) rfl rfl ?_
    refine SL.val (Val.neI rfl rfl) rfl rfl ?_
    refine SL.val (Val.pickF rfl rfl) rfl rfl ?_
    refine SL.nil (SE.seq ?_)
    refine SC.condP rfl (by intro hc115; exfalso; have h8 := (i3.pm ((((acts[z.2.2.2.2.2.2]'hlt).a, (acts[z.2.2.2.2.2.2]'hlt).b), (acts[z.2.2.2.2.2.2]'hlt).text) : TKey)).1; omega) ?_
    intro hc115
    refine SC.skip ?_
    refine SE.inBlock ?_
    refine SE.seq ?_
    refine SC.region ?_
    first
      | refine SL.val (Val.addI rfl rfl (by simp only [InR, lo, hi]; omega)) rfl rfl ?_
      | refine SL.val (Val.addW rfl rfl) rfl rfl ?_
    refine SL.val (Val.move rfl) rfl rfl ?_
    refine SL.nil ?_
    exact SE.round (z.1, v3, z.2.2.1, ins z.2.2.2.1 ((((acts[z.2.2.2.2.2.2]'hlt).a, (acts[z.2.2.2.2.2.2]'hlt).b), (acts[z.2.2.2.2.2.2]'hlt).text) : TKey), z.2.2.2.2.1, pm z.2.2.2.2.2.1 ((((acts[z.2.2.2.2.2.2]'hlt).a, (acts[z.2.2.2.2.2.2]'hlt).b), (acts[z.2.2.2.2.2.2]'hlt).text) : TKey), z.2.2.2.2.2.2 + 1) (by dsimp only; omega) (⟨by dsimp only; omega, i2, i3.pm _, i4, ins_all i5 hsd, by dsimp only; omega, by dsimp only; have := ins_length z.2.2.2.1 ((((acts[z.2.2.2.2.2.2]'hlt).a, (acts[z.2.2.2.2.2.2]'hlt).b), (acts[z.2.2.2.2.2.2]'hlt).text) : TKey); omega⟩) (by exact ⟨rfl, rfl, rfl, rfl, rfl, rfl, trivial⟩) (by repeat first|exact s0 _|exact s1 _|apply s2|apply s3)
  intro hc49
  refine SC.seq (SC.region ?_)
  refine SL.val (Val.eqI rfl rfl) rfl rfl ?_
  refine SL.val (Val.assign rfl) rfl rfl ?_
  refine SL.nil (SE.seq ?_)
  refine SC.condP rfl ?_ (by intro hc68; exfalso; omega)
  intro hc68
  refine SC.known (p := b7 ∉ ([z0.1, z0.2.1, z0.2.2, b18] ++ z.1.ownBlock.toList ++ z.2.1.ownBlock.toList)) (fun _ _ h => by
      have h1 := h.mem.nodup
      simp [mids, It.mids, bkPc, ownPc] at h1 ⊢
      grind) fun hX => ?_
  refine SC.draw ([z0.1, z0.2.1, z0.2.2, b18] ++ z.1.ownBlock.toList ++ z.2.1.ownBlock.toList) (.q 0 (.q 1 (.q 2 (.q 3 (.q 4 (.q 5 (.q 6 (.q 7 (.q 8 (.q 10 (.q 11 (.q 12 (.q 13 (.q 14 (.q 15 (.q 16 (.q 17 (.q 18 (.e 9 (.e 19 (.q 20 (.q 21 .nil)))))))))))))))))))))) (by kernel_rfl) (by kernel_rfl) ?_
  refine SX.val rfl (Val.move rfl) (by first | (simp [mids, It.mids, ownPc, bkPc]; done) | (intro k hk; simp [mids, It.mids, ownPc, bkPc] at hk ⊢; grind)) rfl rfl ?_
  refine SX.val rfl (Val.fieldAddr tabOk rfl rfl rfl rfl rfl) (by first | (simp [mids, It.mids, ownPc, bkPc]; done) | (intro k hk; simp [mids, It.mids, ownPc, bkPc] at hk ⊢; grind)) rfl rfl ?_
  refine SX.val rfl (Val.load1 tabOk rfl rfl (by first|(apply Or.inl;(repeat first|assumption|exact m0|apply m1);done)|(apply Or.inr;(repeat first|assumption|exact m0|apply m1);done)) hX (by rfl)) (by first | (simp [mids, It.mids, ownPc, bkPc]; done) | (intro k hk; simp [mids, It.mids, ownPc, bkPc] at hk ⊢; grind)) rfl rfl ?_
  refine SX.val rfl (Val.fieldAddr tabOk rfl rfl rfl rfl rfl) (by first | (simp [mids, It.mids, ownPc, bkPc]; done) | (intro k hk; simp [mids, It.mids, ownPc, bkPc] at hk ⊢; grind)) rfl rfl ?_
  refine SX.val rfl (Val.load1 tabOk rfl rfl (by first|(apply Or.inl;(repeat first|assumption|exact m0|apply m1);done)|(apply Or.inr;(repeat first|assumption|exact m0|apply m1);done)) hX (by rfl)) (by first | (simp [mids, It.mids, ownPc, bkPc]; done) | (intro k hk; simp [mids, It.mids, ownPc, bkPc] at hk ⊢; grind)) rfl rfl ?_
  refine SX.val rfl (Val.fieldAddr tabOk rfl rfl rfl rfl rfl) (by first | (simp [mids, It.mids, ownPc, bkPc]; done) | (intro k hk; simp [mids, It.mids, ownPc, bkPc] at hk ⊢; grind)) rfl rfl ?_
  refine SX.val rfl (Val.load1 tabOk rfl rfl (by first|(apply Or.inl;(repeat first|assumption|exact m0|apply m1);done)|(apply Or.inr;(repeat first|assumption|exact m0|apply m1);done)) hX (by rfl)) (by first | (simp [mids, It.mids, ownPc, bkPc]; done) | (intro k hk; simp [mids, It.mids, ownPc, bkPc] at hk ⊢; grind)) rfl rfl ?_
  refine SX.val rfl (Val.fieldAddr tabOk rfl rfl rfl rfl rfl) (by first | (simp [mids, It.mids, ownPc, bkPc]; done) | (intro k hk; simp [mids, It.mids, ownPc, bkPc] at hk ⊢; grind)) rfl rfl ?_
  refine SX.val rfl (Val.to (C := .agg (digA (acts[z.2.2.2.2.2.2]'hlt).tag)) (Val.loadP tabOk rfl rfl rfl (by first|(apply Or.inl;(repeat first|assumption|exact m0|apply m1);done)|(apply Or.inr;(repeat first|assumption|exact m0|apply m1);done)) hX (by show 36 ≤ _; rw [Act5.size]; omega)) (congrArg Abs.agg (Act5.part _))) (by first | (simp [mids, It.mids, ownPc, bkPc]; done) | (intro k hk; simp [mids, It.mids, ownPc, bkPc] at hk ⊢; grind)) rfl rfl ?_
  refine SX.val rfl (Val.move rfl) (by first | (simp [mids, It.mids, ownPc, bkPc]; done) | (intro k hk; simp [mids, It.mids, ownPc, bkPc] at hk ⊢; grind)) rfl rfl ?_
  refine SX.val rfl (Val.fieldAddr tabOk rfl rfl rfl rfl rfl) (by first | (simp [mids, It.mids, ownPc, bkPc]; done) | (intro k hk; simp [mids, It.mids, ownPc, bkPc] at hk ⊢; grind)) rfl rfl ?_
  refine SX.val rfl (Val.load1 tabOk rfl rfl (by first|(apply Or.inl;(repeat first|assumption|exact m0|apply m1);done)|(apply Or.inr;(repeat first|assumption|exact m0|apply m1);done)) hX (by rfl)) (by first | (simp [mids, It.mids, ownPc, bkPc]; done) | (intro k hk; simp [mids, It.mids, ownPc, bkPc] at hk ⊢; grind)) rfl rfl ?_
  refine SX.val rfl (Val.fieldAddr tabOk rfl rfl rfl rfl rfl) (by first | (simp [mids, It.mids, ownPc, bkPc]; done) | (intro k hk; simp [mids, It.mids, ownPc, bkPc] at hk ⊢; grind)) rfl rfl ?_
  refine SX.val rfl (Val.load1 tabOk rfl rfl (by first|(apply Or.inl;(repeat first|assumption|exact m0|apply m1);done)|(apply Or.inr;(repeat first|assumption|exact m0|apply m1);done)) hX (by rfl)) (by first | (simp [mids, It.mids, ownPc, bkPc]; done) | (intro k hk; simp [mids, It.mids, ownPc, bkPc] at hk ⊢; grind)) rfl rfl ?_
  refine SX.val rfl (Val.fieldAddr tabOk rfl rfl rfl rfl rfl) (by first | (simp [mids, It.mids, ownPc, bkPc]; done) | (intro k hk; simp [mids, It.mids, ownPc, bkPc] at hk ⊢; grind)) rfl rfl ?_
  refine SX.val rfl (Val.load1 tabOk rfl rfl (by first|(apply Or.inl;(repeat first|assumption|exact m0|apply m1);done)|(apply Or.inr;(repeat first|assumption|exact m0|apply m1);done)) hX (by rfl)) (by first | (simp [mids, It.mids, ownPc, bkPc]; done) | (intro k hk; simp [mids, It.mids, ownPc, bkPc] at hk ⊢; grind)) rfl rfl ?_
  refine SX.val rfl (Val.fieldAddr tabOk rfl rfl rfl rfl rfl) (by first | (simp [mids, It.mids, ownPc, bkPc]; done) | (intro k hk; simp [mids, It.mids, ownPc, bkPc] at hk ⊢; grind)) rfl rfl ?_
  refine SX.val rfl (Val.to (C := .agg (digA (acts[z.2.2.2.2.2.2]'hlt).tag)) (Val.loadP tabOk rfl rfl rfl (by first|(apply Or.inl;(repeat first|assumption|exact m0|apply m1);done)|(apply Or.inr;(repeat first|assumption|exact m0|apply m1);done)) hX (by show 36 ≤ _; rw [Act5.size]; omega)) (congrArg Abs.agg (Act5.part _))) (by first | (simp [mids, It.mids, ownPc, bkPc]; done) | (intro k hk; simp [mids, It.mids, ownPc, bkPc] at hk ⊢; grind)) rfl rfl ?_
  refine SX.invokeR rfl (bkcheck_s (p := z0.1) (bd := z0.2.1) (bt := z0.2.2) (D := z.2.2.2.2.1) (T := z.2.2.2.2.2.1) (from_ := (acts[z.2.2.2.2.2.2]'hlt).a) (to_ := (acts[z.2.2.2.2.2.2]'hlt).b) (l := (acts[z.2.2.2.2.2.2]'hlt).text) (M := (acts[z.2.2.2.2.2.2]'hlt).tag) (inr_i64r hoka) (inr_i64r hokb) (by omega) (acts[z.2.2.2.2.2.2]'hlt).len (by have := i3.1; omega) hpl) (by intro k hk; simp [mids, It.mids, ownPc, bkPc] at hk ⊢; grind) rfl Casts.refl (fun _ _ _ => by kernel_rfl) rfl rfl rfl ?_
  refine After.one rfl (by repeat first|assumption|exact m0|apply m1) (fun _ => rfl) ?_
  intro _
  refine ⟨_, (by repeat first|assumption|exact Upd.here|apply Upd.there), ?_⟩
  refine SX.call rfl (rbcheck5_s (r := b18) (V1 := z.1) (V2 := z.2.1) (ts := z.2.2.2.1) (from_ := (acts[z.2.2.2.2.2.2]'hlt).a) (to_ := (acts[z.2.2.2.2.2.2]'hlt).b) (l := (acts[z.2.2.2.2.2.2]'hlt).text) (M := (acts[z.2.2.2.2.2.2]'hlt).tag) hsd i5 (by omega) (acts[z.2.2.2.2.2.2]'hlt).len) (by simp [mids, It.mids]) Casts.refl (by kernel_rfl) rfl rfl rfl ?_
  refine After.pure (by repeat first|exact .nil|refine .blk (by repeat first|assumption|exact m0|apply m1) ?_|refine .rd (by repeat first|assumption|exact m0|apply m1) ?_|refine .pc (by repeat first|assumption|exact m0|apply m1) ?_|refine .rdpc (by repeat first|assumption|exact m0|apply m1) ?_) (fun _ => rfl) ?_
  intro o
  obtain ⟨⟨cb, o⟩, ho, hcb⟩ := o
  have hcb2 : cb = (decide (((((acts[z.2.2.2.2.2.2]'hlt).a, (acts[z.2.2.2.2.2.2]'hlt).b), (acts[z.2.2.2.2.2.2]'hlt).text) : TKey) ∈ z.2.2.2.1) && decide ((acts[z.2.2.2.2.2.2]'hlt).tag = numB 255 o)) := hcb
  have hplo : pl z.2.2.2.2.2.1 ((((acts[z.2.2.2.2.2.2]'hlt).a, (acts[z.2.2.2.2.2.2]'hlt).b), (acts[z.2.2.2.2.2.2]'hlt).text) : TKey) = o := i3.pl ho
  refine SX.val rfl (Val.to (C := boo true) (Val.eqB rfl rfl (by kernel_rfl)) (by show boo (_ == _) = boo true; dsimp only; rw [hcb2, hplo, i3.some]; refine congrArg (fun b => Abs.v (Value.bool b)) ?_; rw [beq_iff_eq, Bool.eq_iff_iff]; simp only [Bool.and_eq_true, decide_eq_true_eq])) (by first | (simp [mids, It.mids, ownPc, bkPc]; done) | (intro k hk; simp [mids, It.mids, ownPc, bkPc] at hk ⊢; grind)) rfl rfl ?_
  refine SX.val rfl (Val.assign rfl) (by first | (simp [mids, It.mids, ownPc, bkPc]; done) | (intro k hk; simp [mids, It.mids, ownPc, bkPc] at hk ⊢; grind)) rfl rfl ?_
  refine SX.nil ?_
  refine SE.inBlock ?_
  refine SE.seq ?_
  refine SC.seq (SC.region ?_)
  refine SL.val (Val.move rfl) rfl rfl ?_
  refine SL.call (bksizes_s (p := z0.1) (bd := z0.2.1) (bt := z0.2.2) (D := z.2.2.2.2.1) (T := z.2.2.2.2.2.1)) Casts.refl (by kernel_rfl) rfl rfl rfl ?_
  refine After.one rfl (by repeat first|assumption|exact m0|apply m1) (fun _ => rfl) ?_
  intro _
  refine ⟨_, (by repeat first|assumption|exact Upd.here|apply Upd.there), ?_⟩
  refine SL.val (Val.move rfl) rfl rfl ?_
  refine SL.val (Val.extract rfl rfl) rfl rfl ?_
  refine SL.val (Val.extract rfl rfl) rfl rfl ?_
  refine SL.val (Val.assign rfl) rfl rfl ?_
  refine SL.val (Val.assign rfl) rfl rfl ?_
  refine SL.nil (SE.seq ?_)
  refine SC.seq (SC.region ?_)
  refine SL.val (Val.move rfl) rfl rfl ?_
  refine SL.val (Val.notT rfl) rfl rfl ?_
  refine SL.val (Val.move rfl) rfl rfl ?_
  refine SL.val (Val.move rfl) rfl rfl ?_
  refine SL.val (Val.move rfl) rfl rfl ?_
  refine SL.val (Val.nilCheck rfl) rfl rfl ?_
  refine SL.val (Val.fieldAddr tabOk rfl rfl rfl rfl rfl) rfl rfl ?_
  refine SL.val (Val.load1 tabOk rfl rfl (by first|(apply Or.inl;(repeat first|assumption|exact m0|apply m1);done)|(apply Or.inr;(repeat first|assumption|exact m0|apply m1);done)) List.not_mem_nil (by rfl)) rfl rfl ?_
  refine SL.val (Val.lenOwnR rfl (.inl (by repeat first|assumption|exact m0|apply m1)) Try.underlying130 (List.length_map _)) rfl rfl ?_
  refine SL.val (Val.neI rfl rfl) rfl rfl ?_
  refine SL.val (Val.pickF rfl rfl) rfl rfl ?_
  refine SL.val (Val.move rfl) rfl rfl ?_
  refine SL.bothP (t := 107) rfl (by intro hc107; exfalso; have h8 := i2.1; omega) ?_
  intro hc107
  refine SL.val (Val.move rfl) rfl rfl ?_
  refine SL.val (Val.move rfl) rfl rfl ?_
  refine SL.val (Val.nilCheck rfl) rfl rfl ?_
  refine SL.val (Val.fieldAddr tabOk rfl rfl rfl rfl rfl) rfl rfl ?_
  refine SL.val (Val.load1 tabOk rfl rfl (by first|(apply Or.inl;(repeat first|assumption|exact m0|apply m1);done)|(apply Or.inr;(repeat first|assumption|exact m0|apply m1);done)) List.not_mem_nil (by rfl)) rfl rfl ?_
  refine SL.val (Val.lenOwnR rfl (.inl (by repeat first|assumption|exact m0|apply m1)) Try.underlying131 (List.length_map _)) rfl rfl ?_
  refine SL.val (Val.neI rfl rfl) rfl rfl ?_
  refine SL.val (Val.pickF rfl rfl) rfl rfl ?_
  refine SL.nil (SE.seq ?_)
  refine SC.condP rfl (by intro hc115; exfalso; have h8 := i3.1; omega) ?_
  intro hc115
  refine SC.skip ?_
  refine SE.inBlock ?_
  refine SE.seq ?_
  refine SC.region ?_
  first
    | refine SL.val (Val.addI rfl rfl (by simp only [InR, lo, hi]; omega)) rfl rfl ?_
    | refine SL.val (Val.addW rfl rfl) rfl rfl ?_
  refine SL.val (Val.move rfl) rfl rfl ?_
  refine SL.nil ?_
  exact SE.round (z.1, z.2.1, z.2.2.1, z.2.2.2.1, z.2.2.2.2.1, z.2.2.2.2.2.1, z.2.2.2.2.2.2 + 1) (by dsimp only; omega) (⟨by dsimp only; omega, i2, i3, i4, i5, by dsimp only; omega, by dsimp only; omega⟩) (by exact ⟨rfl, rfl, rfl, rfl, rfl, rfl, trivial⟩) (by repeat first|exact s0 _|exact s1 _|apply s2|apply s3)
end
end Go.Proofs.Ytpgffckfbgfgcaa.A
