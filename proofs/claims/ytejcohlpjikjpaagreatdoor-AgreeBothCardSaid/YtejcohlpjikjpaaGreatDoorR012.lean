/-
  Packed out of the texts: AG14.
-/
import Derived.Test.YtejcohlpjikjpaaGreatDoorR011
/-
  Agree: the four laws.
-/
set_option maxRecDepth 100000
set_option linter.unusedSimpArgs false
set_option linter.unusedVariables false
namespace Go.Proofs.YtejcohlpjikjpaaGreatDoor.A
open Go.RowKit

section
variable {n client stamp : Int} {h : List (List Ent)} {a b : List Dd} {l : List (List Dd)} {e1 e2 : Value}
abbrev FewD (d : List Dd) : Prop := FewH (d.map (·.batch))
theorem fewD_len (h : FewD a) : a.length ≤ 40 := by have := h.len; simpa using this
theorem fewD_bat (h : FewD a) : ∀ x ∈ a, x.batch.length ≤ 10 := fun x hx => h.row (List.mem_map.2 ⟨x, hx, rfl⟩)
theorem fewD_bat2 (h : FewD a) : ∀ x ∈ a, x.batch.length ≤ 1000 := fun x hx => Nat.le_trans (fewD_bat h x hx) (by decide)
theorem merge_at (hok : (mergeF l).2 = true) {d : Dd} (hd : d ∈ l.flatten) (h0 : d.adopted = false) (h1 : 1 ≤ d.seq) (h2 : d.seq ≤ ((mergeF l).1.length : Nat)) : (mergeF l).1[(d.seq - 1).toNat]? = some d.batch := by
  unfold mergeF at hok h2 ⊢
  by_cases hs : allSame l
  · rw [if_pos hs] at h2 ⊢
    have hlt : (d.seq - 1).toNat < (histF l.flatten).length := by
      have h2 : d.seq ≤ ((histF l.flatten).length : Nat) := h2
      omega
    obtain ⟨x, hx, he⟩ := (histF_is l.flatten).at_ _ hlt
    show (histF l.flatten)[(d.seq - 1).toNat]? = _
    rw [List.getElem?_eq_getElem hlt, he]
    have hk : (((d.seq - 1).toNat : Nat) : Int) + 1 = d.seq := by omega
    rw [hk] at hx
    exact congrArg some ((allSame_rows.1 hs d.seq) d (rowOf_mem.2 ⟨hd, h0, rfl⟩) x hx).symm
  · rw [if_neg hs] at hok
    cases hok
theorem merge_two (h1 : sameD a a) (h2 : sameD a b) (h3 : sameD b b) : (mergeF [a, b]).2 = true := by
  unfold mergeF
  rw [if_pos]
  intro x hx y hy
  simp only [List.mem_cons, List.not_mem_nil, or_false] at hx hy
  rcases hx with rfl | rfl <;> rcases hy with rfl | rfl
  · exact h1
  · exact h2
  · exact h2.symm
  · exact h3
theorem gap_rise : ∀ {q : Int} {l : List Dd}, gapB q l = true → (∀ x ∈ l, q < x.seq) ∧ ∀ i j (hi9 : i < l.length) (hj : j < l.length), i < j → l[i].seq < l[j].seq
  | q, [], _ => ⟨by simp, fun i j h => by cases h⟩
  | q, x :: l, h => by
    rw [gapB] at h
    split at h
    · cases h
    · next hn =>
      have hx : q < x.seq := by omega
      obtain ⟨h1, h2⟩ := gap_rise h
      refine ⟨fun y hy => ?_, fun i j hi9 hj hij => ?_⟩
      · rcases List.mem_cons.1 hy with rfl | hy
        · exact hx
        · have := h1 y hy
          omega
      · match i, j, hi9, hj, hij with
        | 0, j + 1, _, hj, _ => exact h1 _ (List.getElem_mem (by simpa using hj))
        | i + 1, j + 1, hi9, hj, hij => exact h2 i j (by simpa using hi9) (by simpa using hj) (by omega)
theorem gap_self (h : gapB 0 a = true) : sameD a a := fun x hx y hy _ _ h3 => by
  obtain ⟨i, hi9, rfl⟩ := List.getElem_of_mem hx
  obtain ⟨j, hj, rfl⟩ := List.getElem_of_mem hy
  have h4 := (gap_rise h).2
  rcases Nat.lt_trichotomy i j with h5 | h5 | h5
  · have := h4 i j hi9 hj h5
    omega
  · subst h5
    rfl
  · have := h4 j i hj hi9 h5
    omega
set_option maxHeartbeats 4000000 in
theorem aboth_s (he : isIf e1) (hr : isIf e2) (ha : ∀ d ∈ a, DdIns d) (hb : ∀ d ∈ b, DdIns d) (ha4 : a.length * 40 ≤ reachBytes) (hb4 : b.length * 40 ≤ reachBytes) : Spec Tryz.prog 5 [ddsA a, ddsA b] (globs e1 e2) (fun _ : Unit => []) (fun _ => boo true) := by
  refine spec_of Tryz.func5 rfl Tryz.ntmps5 rfl fun G w => ?_
  refine SC.seq (SC.region ?_)
  refine SL.val (Val.assign rfl) rfl rfl ?_
  refine SL.nil (SE.seq ?_)
  refine SC.seq ?_
  refine SC.seq (SC.region ?_)
  refine SL.call (fixed34_s he hr) Casts.refl (by kernel_rfl) rfl rfl rfl ?_
  refine After.pure (by repeat (first | exact Reads.nil | (refine Reads.blk ?_ ?_; focus ((repeat first|assumption|exact m0|apply m1); done)) | (refine Reads.rd ?_ ?_; focus ((repeat first|assumption|exact m0|apply m1); done)) | (refine Reads.pc ?_ ?_; focus ((repeat first|assumption|exact m0|apply m1); done)) | (refine Reads.rdpc ?_ ?_; focus ((repeat first|assumption|exact m0|apply m1); done)))) (fun _ => rfl) ?_
  intro _
  refine SL.val (Val.notT rfl) rfl rfl ?_
  refine SL.nil (SE.seq ?_)
  refine SC.condF rfl ?_
  refine SC.skip ?_
  refine SE.seq ?_
  refine SC.seq ?_
  refine SC.seq (SC.region ?_)
  refine SL.val (Val.move rfl) rfl rfl ?_
  refine SL.call (batches_s (l := a) (by unfold reachBytes at ha4 hb4; omega)) Casts.refl (by kernel_rfl) rfl rfl rfl ?_
  refine After.pure (by repeat (first | exact Reads.nil | (refine Reads.blk ?_ ?_; focus ((repeat first|assumption|exact m0|apply m1); done)) | (refine Reads.rd ?_ ?_; focus ((repeat first|assumption|exact m0|apply m1); done)) | (refine Reads.pc ?_ ?_; focus ((repeat first|assumption|exact m0|apply m1); done)) | (refine Reads.rdpc ?_ ?_; focus ((repeat first|assumption|exact m0|apply m1); done)))) (fun _ => rfl) ?_
  intro _
  refine SL.call (few34_s (h := a.map (·.batch))) Casts.refl (by kernel_rfl) rfl rfl rfl ?_
  refine After.pure (by repeat (first | exact Reads.nil | (refine Reads.blk ?_ ?_; focus ((repeat first|assumption|exact m0|apply m1); done)) | (refine Reads.rd ?_ ?_; focus ((repeat first|assumption|exact m0|apply m1); done)) | (refine Reads.pc ?_ ?_; focus ((repeat first|assumption|exact m0|apply m1); done)) | (refine Reads.rdpc ?_ ?_; focus ((repeat first|assumption|exact m0|apply m1); done)))) (fun _ => rfl) ?_
  intro _
  refine SL.val (Val.notP rfl) rfl rfl ?_
  refine SL.val (Val.move rfl) rfl rfl ?_
  refine SL.bothP (t := 15) rfl ?_ ?_
  · intro hc15
    iterate 4 refine SL.skip rfl rfl ?_
    refine SL.val (Val.pickT rfl rfl) rfl rfl ?_
    refine SL.nil (SE.seq ?_)
    refine SC.condT rfl ?_
    refine SC.seq (SC.region ?_)
    refine SL.val (Val.assign rfl) rfl rfl ?_
    refine SL.nil (SE.seq ?_)
    refine SC.ret ?_
    refine SE.then_ (by intro h; cases h) ?_
    refine SE.fin (rs := [.tmp 4]) rfl (RV.tmp rfl RV.nil) (()) (by repeat first|exact s0 _|exact s1 _|apply s2|apply s3) (by simp [It.rids]) ?_
    exact rfl
  intro hc15
  refine SL.val (Val.move rfl) rfl rfl ?_
  refine SL.call (batches_s (l := b) (by unfold reachBytes at ha4 hb4; omega)) Casts.refl (by kernel_rfl) rfl rfl rfl ?_
  refine After.pure (by repeat (first | exact Reads.nil | (refine Reads.blk ?_ ?_; focus ((repeat first|assumption|exact m0|apply m1); done)) | (refine Reads.rd ?_ ?_; focus ((repeat first|assumption|exact m0|apply m1); done)) | (refine Reads.pc ?_ ?_; focus ((repeat first|assumption|exact m0|apply m1); done)) | (refine Reads.rdpc ?_ ?_; focus ((repeat first|assumption|exact m0|apply m1); done)))) (fun _ => rfl) ?_
  intro _
  refine SL.call (few34_s (h := b.map (·.batch))) Casts.refl (by kernel_rfl) rfl rfl rfl ?_
  refine After.pure (by repeat (first | exact Reads.nil | (refine Reads.blk ?_ ?_; focus ((repeat first|assumption|exact m0|apply m1); done)) | (refine Reads.rd ?_ ?_; focus ((repeat first|assumption|exact m0|apply m1); done)) | (refine Reads.pc ?_ ?_; focus ((repeat first|assumption|exact m0|apply m1); done)) | (refine Reads.rdpc ?_ ?_; focus ((repeat first|assumption|exact m0|apply m1); done)))) (fun _ => rfl) ?_
  intro _
  refine SL.val (Val.notP rfl) rfl rfl ?_
  refine SL.val (Val.pickF rfl rfl) rfl rfl ?_
  refine SL.nil (SE.seq ?_)
  refine SC.condP rfl ?_ ?_
  · intro hc20
    refine SC.seq (SC.region ?_)
    refine SL.val (Val.assign rfl) rfl rfl ?_
    refine SL.nil (SE.seq ?_)
    refine SC.ret ?_
    refine SE.then_ (by intro h; cases h) ?_
    refine SE.fin (rs := [.tmp 4]) rfl (RV.tmp rfl RV.nil) (()) (by repeat first|exact s0 _|exact s1 _|apply s2|apply s3) (by simp [It.rids]) ?_
    exact rfl
  intro hc20
  have hfa : FewD a := Classical.byContradiction hc15
  have hfb : FewD b := Classical.byContradiction hc20
  have hal := fewD_len hfa
  have hbl := fewD_len hfb
  have hfi : ∀ d ∈ [a, b].flatten, DdIns d := two_flat ha hb
  have hft : ∀ d ∈ [a, b].flatten, d.batch.length ≤ 1000 := two_flat (fewD_bat2 hfa) (fewD_bat2 hfb)
  have hfn : [a, b].flatten.length ≤ 1000 := by simp only [List.flatten_cons, List.flatten_nil, List.append_nil, List.length_append]; omega
  refine SC.skip ?_
  refine SE.seq ?_
  refine SC.seq ?_
  refine SC.cutS (ι := Unit) (fun z => (globs e1 e2)) (fun z => [(0, ddsA a), (1, ddsA b), (37, boo false)]) (fun z => True) ?_ ?_
  · skip
    refine SC.region ?_
    refine SL.val (Val.move rfl) rfl rfl ?_
    refine SL.val (Val.move rfl) rfl rfl ?_
    refine SL.call (agree_s (a := a) (b := b) ha hb (fewD_bat2 hfa) (fewD_bat2 hfb) (by omega) (by omega)) Casts.refl (by kernel_rfl) rfl rfl rfl ?_
    refine After.pure (by repeat (first | exact Reads.nil | (refine Reads.blk ?_ ?_; focus ((repeat first|assumption|exact m0|apply m1); done)) | (refine Reads.rd ?_ ?_; focus ((repeat first|assumption|exact m0|apply m1); done)) | (refine Reads.pc ?_ ?_; focus ((repeat first|assumption|exact m0|apply m1); done)) | (refine Reads.rdpc ?_ ?_; focus ((repeat first|assumption|exact m0|apply m1); done)))) (fun _ => rfl) ?_
    intro _
    refine SL.val (Val.move rfl) rfl rfl ?_
    refine SL.val (Val.move rfl) rfl rfl ?_
    refine SL.call (agree_s (a := b) (b := a) hb ha (fewD_bat2 hfb) (fewD_bat2 hfa) (by omega) (by omega)) Casts.refl (by kernel_rfl) rfl rfl rfl ?_
    refine After.pure (by repeat (first | exact Reads.nil | (refine Reads.blk ?_ ?_; focus ((repeat first|assumption|exact m0|apply m1); done)) | (refine Reads.rd ?_ ?_; focus ((repeat first|assumption|exact m0|apply m1); done)) | (refine Reads.pc ?_ ?_; focus ((repeat first|assumption|exact m0|apply m1); done)) | (refine Reads.rdpc ?_ ?_; focus ((repeat first|assumption|exact m0|apply m1); done)))) (fun _ => rfl) ?_
    intro _
    refine SL.val (Val.to (C := boo false) (Val.neB rfl rfl (by kernel_rfl)) (congrArg (fun b => Abs.v (Value.bool b)) (by rw [show decide (sameD b a) = decide (sameD a b) from decide_eq_decide.2 ⟨fun h => h.symm, fun h => h.symm⟩]; simp))) rfl rfl ?_
    refine SL.val (Val.move rfl) rfl rfl ?_
    refine SL.val (Val.move rfl) rfl rfl ?_
    refine SL.call (gap_s (l := a) ha) Casts.refl (by kernel_rfl) rfl rfl rfl ?_
    refine After.pure (by repeat (first | exact Reads.nil | (refine Reads.blk ?_ ?_; focus ((repeat first|assumption|exact m0|apply m1); done)) | (refine Reads.rd ?_ ?_; focus ((repeat first|assumption|exact m0|apply m1); done)) | (refine Reads.pc ?_ ?_; focus ((repeat first|assumption|exact m0|apply m1); done)) | (refine Reads.rdpc ?_ ?_; focus ((repeat first|assumption|exact m0|apply m1); done)))) (fun _ => rfl) ?_
    intro _
    refine SL.val (Val.move rfl) rfl rfl ?_
    refine SL.both (t := 31) rfl ?_ ?_
    rotate_left
    · intro hc31
      iterate 4 refine SL.skip rfl rfl ?_
      refine SL.val (Val.pickF rfl rfl) rfl rfl ?_
      refine SL.val (Val.pickF rfl rfl) rfl rfl ?_
      refine SL.nil ?_
      refine SE.meet (()) (trivial) (by exact ⟨rfl, rfl, rfl, trivial⟩) (by repeat first|exact s0 _|exact s1 _|apply s2|apply s3)
    intro hc31
    refine SL.val (Val.move rfl) rfl rfl ?_
    refine SL.val (Val.move rfl) rfl rfl ?_
    refine SL.call (agree_s (a := a) (b := a) ha ha (fewD_bat2 hfa) (fewD_bat2 hfa) (by omega) (by omega)) Casts.refl (by kernel_rfl) rfl rfl rfl ?_
    refine After.pure (by repeat (first | exact Reads.nil | (refine Reads.blk ?_ ?_; focus ((repeat first|assumption|exact m0|apply m1); done)) | (refine Reads.rd ?_ ?_; focus ((repeat first|assumption|exact m0|apply m1); done)) | (refine Reads.pc ?_ ?_; focus ((repeat first|assumption|exact m0|apply m1); done)) | (refine Reads.rdpc ?_ ?_; focus ((repeat first|assumption|exact m0|apply m1); done)))) (fun _ => rfl) ?_
    intro _
    rw [decide_eq_true (gap_self hc31)]
    refine SL.val (Val.notT rfl) rfl rfl ?_
    refine SL.val (Val.pickT rfl rfl) rfl rfl ?_
    refine SL.val (Val.pickF rfl rfl) rfl rfl ?_
    refine SL.nil ?_
    refine SE.meet (()) (trivial) (by exact ⟨rfl, rfl, rfl, trivial⟩) (by repeat first|exact s0 _|exact s1 _|apply s2|apply s3)
  · intro z hz
    refine SC.condF rfl ?_
    refine SC.skip ?_
    refine SE.seq ?_
    refine SC.seq (SC.region ?_)
    refine SL.val (Val.move rfl) rfl rfl ?_
    refine SL.val (Val.move rfl) rfl rfl ?_
    refine SL.eff (Eff.buildSl tabOk Tryz.underlying22 rfl rfl rfl rfl rfl rfl rfl) rfl rfl ?_
    rintro _ _ ⟨rfl, rfl⟩
    refine SL.call (merge_s (l := [a, b]) hfi hft hfn) Casts.refl (by kernel_rfl) rfl rfl rfl ?_
    refine After.pure (by repeat (first | exact Reads.nil | (refine Reads.blk ?_ ?_; focus ((repeat first|assumption|exact m0|apply m1); done)) | (refine Reads.rd ?_ ?_; focus ((repeat first|assumption|exact m0|apply m1); done)) | (refine Reads.pc ?_ ?_; focus ((repeat first|assumption|exact m0|apply m1); done)) | (refine Reads.rdpc ?_ ?_; focus ((repeat first|assumption|exact m0|apply m1); done)))) (fun _ => rfl) ?_
    intro _
    refine SL.val (Val.move rfl) rfl rfl ?_
    refine SL.val (Val.extract rfl rfl) rfl rfl ?_
    refine SL.val (Val.extract rfl rfl) rfl rfl ?_
    refine SL.val (Val.assign rfl) rfl rfl ?_
    refine SL.val (Val.assign rfl) rfl rfl ?_
    refine SL.nil (SE.seq ?_)
    refine SC.seq ?_
    refine SC.seq (SC.region ?_)
    refine SL.val (Val.move rfl) rfl rfl ?_
    refine SL.val (Val.notB rfl) rfl rfl ?_
    refine SL.nil (SE.seq ?_)
    refine SC.cond rfl ?_ ?_
    · intro hc46
      refine SC.seq (SC.region ?_)
      refine SL.val (Val.move rfl) rfl rfl ?_
      refine SL.val (Val.move rfl) rfl rfl ?_
      refine SL.call (agree_s (a := a) (b := b) ha hb (fewD_bat2 hfa) (fewD_bat2 hfb) (by omega) (by omega)) Casts.refl (by kernel_rfl) rfl rfl rfl ?_
      refine After.pure (by repeat (first | exact Reads.nil | (refine Reads.blk ?_ ?_; focus ((repeat first|assumption|exact m0|apply m1); done)) | (refine Reads.rd ?_ ?_; focus ((repeat first|assumption|exact m0|apply m1); done)) | (refine Reads.pc ?_ ?_; focus ((repeat first|assumption|exact m0|apply m1); done)) | (refine Reads.rdpc ?_ ?_; focus ((repeat first|assumption|exact m0|apply m1); done)))) (fun _ => rfl) ?_
      intro _
      refine SL.val (Val.notP rfl) rfl rfl ?_
      refine SL.val (Val.move rfl) rfl rfl ?_
      refine SL.bothP (t := 51) rfl ?_ ?_
      · intro hc51
        iterate 4 refine SL.skip rfl rfl ?_
        refine SL.val (Val.pickT rfl rfl) rfl rfl ?_
        refine SL.val (Val.move rfl) rfl rfl ?_
        iterate 4 refine SL.skip rfl rfl ?_
        refine SL.val (Val.pickT rfl rfl) rfl rfl ?_
        refine SL.val (Val.assign rfl) rfl rfl ?_
        refine SL.nil (SE.seq ?_)
        refine SC.ret ?_
        refine SE.then_ (by intro h; cases h) ?_
        refine SE.fin (rs := [.tmp 4]) rfl (RV.tmp rfl RV.nil) (()) (by repeat first|exact s0 _|exact s1 _|apply s2|apply s3) (by simp [It.rids]) ?_
        exact rfl
      intro hc51
      refine SL.val (Val.move rfl) rfl rfl ?_
      refine SL.val (Val.move rfl) rfl rfl ?_
      refine SL.call (agree_s (a := a) (b := a) ha ha (fewD_bat2 hfa) (fewD_bat2 hfa) (by omega) (by omega)) Casts.refl (by kernel_rfl) rfl rfl rfl ?_
      refine After.pure (by repeat (first | exact Reads.nil | (refine Reads.blk ?_ ?_; focus ((repeat first|assumption|exact m0|apply m1); done)) | (refine Reads.rd ?_ ?_; focus ((repeat first|assumption|exact m0|apply m1); done)) | (refine Reads.pc ?_ ?_; focus ((repeat first|assumption|exact m0|apply m1); done)) | (refine Reads.rdpc ?_ ?_; focus ((repeat first|assumption|exact m0|apply m1); done)))) (fun _ => rfl) ?_
      intro _
      refine SL.val (Val.notP rfl) rfl rfl ?_
      refine SL.val (Val.pickF rfl rfl) rfl rfl ?_
      refine SL.val (Val.move rfl) rfl rfl ?_
      refine SL.bothP (t := 57) rfl ?_ ?_
      · intro hc57
        iterate 4 refine SL.skip rfl rfl ?_
        refine SL.val (Val.pickT rfl rfl) rfl rfl ?_
        refine SL.val (Val.assign rfl) rfl rfl ?_
        refine SL.nil (SE.seq ?_)
        refine SC.ret ?_
        refine SE.then_ (by intro h; cases h) ?_
        refine SE.fin (rs := [.tmp 4]) rfl (RV.tmp rfl RV.nil) (()) (by repeat first|exact s0 _|exact s1 _|apply s2|apply s3) (by simp [It.rids]) ?_
        exact rfl
      intro hc57
      refine SL.val (Val.move rfl) rfl rfl ?_
      refine SL.val (Val.move rfl) rfl rfl ?_
      refine SL.call (agree_s (a := b) (b := b) hb hb (fewD_bat2 hfb) (fewD_bat2 hfb) (by omega) (by omega)) Casts.refl (by kernel_rfl) rfl rfl rfl ?_
      refine After.pure (by repeat (first | exact Reads.nil | (refine Reads.blk ?_ ?_; focus ((repeat first|assumption|exact m0|apply m1); done)) | (refine Reads.rd ?_ ?_; focus ((repeat first|assumption|exact m0|apply m1); done)) | (refine Reads.pc ?_ ?_; focus ((repeat first|assumption|exact m0|apply m1); done)) | (refine Reads.rdpc ?_ ?_; focus ((repeat first|assumption|exact m0|apply m1); done)))) (fun _ => rfl) ?_
      intro _
      refine SL.val (Val.to (C := boo true) (Val.notP rfl) (congrArg (fun b => Abs.v (Value.bool b)) (decide_eq_true fun hbb => by rw [merge_two (Classical.not_not.1 hc57) (Classical.not_not.1 hc51) hbb] at hc46; cases hc46))) rfl rfl ?_
      refine SL.val (Val.pickF rfl rfl) rfl rfl ?_
      refine SL.val (Val.assign rfl) rfl rfl ?_
      refine SL.nil (SE.seq ?_)
      refine SC.ret ?_
      refine SE.then_ (by intro h; cases h) ?_
      refine SE.fin (rs := [.tmp 4]) rfl (RV.tmp rfl RV.nil) (()) (by repeat first|exact s0 _|exact s1 _|apply s2|apply s3) (by simp [It.rids]) ?_
      exact rfl
    intro hc46
    have hok : (mergeF [a, b]).2 = true := by simpa using hc46
    refine SC.skip ?_
    refine SE.seq ?_
    refine SC.seq ?_
    refine SC.seq (SC.region ?_)
    refine SL.val (Val.move rfl) rfl rfl ?_
    first
      | refine SL.val (Val.lenSl rfl Tryz.underlying24 (List.length_map _)) rfl rfl ?_
      | refine SL.val (Val.lenOwn rfl (by repeat first|assumption|exact m0|apply m1) Tryz.underlying24 (List.length_map _)) rfl rfl ?_
      | refine SL.val (Val.lenNil rfl Tryz.underlying24) rfl rfl ?_
    refine SL.val (Val.move rfl) rfl rfl ?_
    refine SL.nil (SE.seq ?_)
    refine SC.block ?_
    refine SC.loop (ι := Nat) (fun z => (globs e1 e2)) (fun z => [(5, histA (mergeF [a, b]).1), (63, ddsA a), (64, int (a.length : Nat)), (65, int (z : Nat))]) (fun z => z ≤ a.length) (fun z => a.length - z) (0) (Nat.zero_le _) (by exact ⟨rfl, rfl, rfl, rfl, trivial⟩) (by repeat first|exact s0 _|exact s1 _|apply s2|apply s3) ?_
    intro z hz
    refine SC.seq (SC.region ?_)
    refine SL.val (Val.ltI rfl rfl) rfl rfl ?_
    refine SL.nil (SE.seq ?_)
    refine SC.seq ?_
    refine SC.condP rfl ?_ ?_
    rotate_left
    · intro hc66
      refine SC.exit ?_
      refine SE.then_ (by intro h; cases h) ?_
      refine SE.then_ (by intro h; cases h) ?_
      refine SE.exit ?_
      refine SE.seq ?_
      refine SC.seq (SC.region ?_)
      refine SL.val (Val.assign rfl) rfl rfl ?_
      refine SL.nil (SE.seq ?_)
      refine SC.ret ?_
      refine SE.fin (rs := [.tmp 4]) rfl (RV.tmp rfl RV.nil) (()) (by repeat first|exact s0 _|exact s1 _|apply s2|apply s3) (by simp [It.rids]) ?_
      exact rfl
    intro hc66
    have hzl : z < a.length := by omega
    have hse := (ha _ (List.getElem_mem hzl)).seq
    unfold i64ok at hse
    refine SC.skip ?_
    refine SE.seq ?_
    refine SC.seq ?_
    refine SC.block ?_
    refine SC.seq (SC.region ?_)
    refine SL.val (Val.indexSl tabOk Tryz.underlying24 rfl rfl rfl rfl (at_map (by omega)) rfl rfl) rfl rfl ?_
    refine SL.val (Val.loadAR tabOk rfl rfl rfl (by rfl)) rfl rfl ?_
    refine SL.eff (Eff.alloc tabOk rfl) rfl rfl ?_
    rintro _ _ ⟨b8, rfl, rfl⟩
    refine SL.eff (Eff.store (L' := (a[z]'hzl).abs) tabOk rfl rfl rfl (by repeat first|assumption|exact Upd.here|apply Upd.there) rfl (Nat.le_of_ble_eq_true (by rfl)) rfl (by exact putL_whole rfl)) rfl rfl ?_
    rintro _ _ ⟨rfl, rfl⟩
    refine SL.nil (SE.seq ?_)
    refine SC.seq ?_
    refine SC.draw [] (.q 0 (.q 1 (.q 2 (.q 3 (.q 4 (.q 5 (.q 6 (.q 7 (.q 8 (.q 9 (.q 10 (.q 11 (.q 12 (.q 13 (.q 14 (.q 15 (.q 16 (.q 17 (.q 18 (.q 19 (.q 20 (.q 21 (.q 22 (.q 23 (.e 24 (.q 25 (.q 26 .nil))))))))))))))))))))))))))) (by kernel_rfl) (by kernel_rfl) ?_
    refine SX.val rfl (Val.fieldAddr tabOk rfl rfl rfl rfl rfl) (by simp) rfl rfl ?_
    refine SX.hx (by first|(simp[mids,It.mids,ownPc];done)|(intro k hk;simp[mids,It.mids,ownPc] at hk ⊢;grind)) fun hx9 => ?_
    refine SX.val rfl (Val.to (C := boo (a[z]'hzl).adopted) (Val.load1 tabOk rfl rfl (by first|(apply Or.inl;(repeat first|assumption|exact m0|apply m1);done)|(apply Or.inr;(repeat first|assumption|exact m0|apply m1);done)) List.not_mem_nil (by rfl)) rfl) hx9 rfl rfl ?_
    refine SX.val rfl (Val.notB rfl) (by simp) rfl rfl ?_
    refine SX.val rfl (Val.move rfl) (by simp) rfl rfl ?_
    refine SX.both (t := 72) rfl ?_ ?_
    rotate_left
    · intro hc72
      iterate 3 refine SX.skip rfl rfl rfl ?_
      refine SX.val rfl (Val.pickF rfl rfl) (by simp) rfl rfl ?_
      refine SX.val rfl (Val.move rfl) (by simp) rfl rfl ?_
      iterate 5 refine SX.skip rfl rfl rfl ?_
      refine SX.val rfl (Val.pickF rfl rfl) (by simp) rfl rfl ?_
      refine SX.val rfl (Val.move rfl) (by simp) rfl rfl ?_
      iterate 8 refine SX.skip rfl rfl rfl ?_
      refine SX.skip' rfl rfl rfl ?_
      refine SX.skip rfl rfl rfl ?_
      refine SX.val rfl (Val.pickF rfl rfl) (by simp) rfl rfl ?_
      refine SX.nil (SE.seq ?_)
      refine SC.condF rfl ?_
      refine SC.skip ?_
      refine SE.inBlock ?_
      refine SE.seq ?_
      refine SC.region ?_
      first
        | refine SL.val (Val.addI rfl rfl (by simp only [InR, lo, hi]; omega)) rfl rfl ?_
        | refine SL.val (Val.addW rfl rfl) rfl rfl ?_
      refine SL.val (Val.move rfl) rfl rfl ?_
      refine SL.nil ?_
      refine SE.round (z + 1) (by first | omega | (dsimp only; omega)) (by first | omega | (dsimp only; omega)) (by exact ⟨rfl, rfl, rfl, rfl, trivial⟩) (by repeat first|exact s0 _|exact s1 _|apply s2|apply s3)
    intro hc72
    refine SX.val rfl (Val.fieldAddr tabOk rfl rfl rfl rfl rfl) (by simp) rfl rfl ?_
    refine SX.val rfl (Val.to (C := int (a[z]'hzl).seq) (Val.load1 tabOk rfl rfl (by first|(apply Or.inl;(repeat first|assumption|exact m0|apply m1);done)|(apply Or.inr;(repeat first|assumption|exact m0|apply m1);done)) List.not_mem_nil (by rfl)) rfl) hx9 rfl rfl ?_
    refine SX.val rfl (Val.geI rfl rfl) (by simp) rfl rfl ?_
    refine SX.val rfl (Val.pickT rfl rfl) (by simp) rfl rfl ?_
    refine SX.val rfl (Val.move rfl) (by simp) rfl rfl ?_
    refine SX.bothP (t := 77) rfl ?_ ?_
    rotate_left
    · intro hc77
      iterate 5 refine SX.skip rfl rfl rfl ?_
      refine SX.val rfl (Val.pickF rfl rfl) (by simp) rfl rfl ?_
      refine SX.val rfl (Val.move rfl) (by simp) rfl rfl ?_
      iterate 8 refine SX.skip rfl rfl rfl ?_
      refine SX.skip' rfl rfl rfl ?_
      refine SX.skip rfl rfl rfl ?_
      refine SX.val rfl (Val.pickF rfl rfl) (by simp) rfl rfl ?_
      refine SX.nil (SE.seq ?_)
      refine SC.condF rfl ?_
      refine SC.skip ?_
      refine SE.inBlock ?_
      refine SE.seq ?_
      refine SC.region ?_
      first
        | refine SL.val (Val.addI rfl rfl (by simp only [InR, lo, hi]; omega)) rfl rfl ?_
        | refine SL.val (Val.addW rfl rfl) rfl rfl ?_
      refine SL.val (Val.move rfl) rfl rfl ?_
      refine SL.nil ?_
      refine SE.round (z + 1) (by first | omega | (dsimp only; omega)) (by first | omega | (dsimp only; omega)) (by exact ⟨rfl, rfl, rfl, rfl, trivial⟩) (by repeat first|exact s0 _|exact s1 _|apply s2|apply s3)
    intro hc77
    refine SX.val rfl (Val.fieldAddr tabOk rfl rfl rfl rfl rfl) (by simp) rfl rfl ?_
    refine SX.val rfl (Val.to (C := int (a[z]'hzl).seq) (Val.load1 tabOk rfl rfl (by first|(apply Or.inl;(repeat first|assumption|exact m0|apply m1);done)|(apply Or.inr;(repeat first|assumption|exact m0|apply m1);done)) List.not_mem_nil (by rfl)) rfl) hx9 rfl rfl ?_
    refine SX.val rfl (Val.move rfl) (by simp) rfl rfl ?_
    refine SX.val rfl (Val.to (C := int ((mergeF [a, b]).1.length : Nat)) (Val.lenSl (m := (mergeF [a, b]).1.length) rfl Tryz.underlying26 (List.length_map _)) rfl) hx9 rfl rfl ?_
    refine SX.val rfl (Val.leI rfl rfl) (by simp) rfl rfl ?_
    refine SX.val rfl (Val.pickT rfl rfl) (by simp) rfl rfl ?_
    refine SX.val rfl (Val.move rfl) (by simp) rfl rfl ?_
    refine SX.bothP (t := 84) rfl ?_ ?_
    rotate_left
    · intro hc84
      iterate 8 refine SX.skip rfl rfl rfl ?_
      refine SX.skip' rfl rfl rfl ?_
      refine SX.skip rfl rfl rfl ?_
      refine SX.val rfl (Val.pickF rfl rfl) (by simp) rfl rfl ?_
      refine SX.nil (SE.seq ?_)
      refine SC.condF rfl ?_
      refine SC.skip ?_
      refine SE.inBlock ?_
      refine SE.seq ?_
      refine SC.region ?_
      first
        | refine SL.val (Val.addI rfl rfl (by simp only [InR, lo, hi]; omega)) rfl rfl ?_
        | refine SL.val (Val.addW rfl rfl) rfl rfl ?_
      refine SL.val (Val.move rfl) rfl rfl ?_
      refine SL.nil ?_
      refine SE.round (z + 1) (by first | omega | (dsimp only; omega)) (by first | omega | (dsimp only; omega)) (by exact ⟨rfl, rfl, rfl, rfl, trivial⟩) (by repeat first|exact s0 _|exact s1 _|apply s2|apply s3)
    intro hc84
    refine SX.val rfl (Val.move rfl) (by simp) rfl rfl ?_
    refine SX.val rfl (Val.fieldAddr tabOk rfl rfl rfl rfl rfl) (by simp) rfl rfl ?_
    refine SX.val rfl (Val.to (C := int (a[z]'hzl).seq) (Val.load1 tabOk rfl rfl (by first|(apply Or.inl;(repeat first|assumption|exact m0|apply m1);done)|(apply Or.inr;(repeat first|assumption|exact m0|apply m1);done)) List.not_mem_nil (by rfl)) rfl) hx9 rfl rfl ?_
    first
      | refine SX.val rfl (Val.subI rfl rfl (by simp only [InR, lo, hi]; omega)) (by simp) rfl rfl ?_
      | refine SX.val rfl (Val.subW rfl rfl) (by simp) rfl rfl ?_
    refine SX.val rfl (Val.indexSl (q := ((a[z]'hzl).seq - 1).toNat) (cs := [entsR (a[z]'hzl).batch]) tabOk Tryz.underlying26 rfl rfl rfl (by omega) (by rw [List.getElem?_map, merge_at hok (List.mem_flatten.2 ⟨a, List.mem_cons_self, List.getElem_mem hzl⟩) (by simpa using hc72) hc77 hc84]; rfl) rfl rfl) hx9 rfl rfl ?_
    refine SX.val rfl (Val.to (C := entsR (a[z]'hzl).batch) (Val.load1R tabOk rfl rfl rfl) rfl) hx9 rfl rfl ?_
    refine SX.val rfl (Val.fieldAddr tabOk rfl rfl rfl rfl rfl) (by simp) rfl rfl ?_
    refine SX.val rfl (Val.to (C := entsR (a[z]'hzl).batch) (Val.load1 tabOk rfl rfl (by first|(apply Or.inl;(repeat first|assumption|exact m0|apply m1);done)|(apply Or.inr;(repeat first|assumption|exact m0|apply m1);done)) List.not_mem_nil (by rfl)) rfl) hx9 rfl rfl ?_
    refine SX.call rfl (rbsame_s (es := (a[z]'hzl).batch) (fs := (a[z]'hzl).batch) (by have h9 := fewD_bat hfa _ (List.getElem_mem hzl); omega) (fun e he => ((ha _ (List.getElem_mem hzl)).batch e he).lits) (fun e he => ((ha _ (List.getElem_mem hzl)).batch e he).lits)) (by simp [mids, It.mids]) Casts.refl (by kernel_rfl) rfl rfl rfl ?_
    refine After.pure (by repeat (first | exact Reads.nil | (refine Reads.blk ?_ ?_; focus ((repeat first|assumption|exact m0|apply m1); done)) | (refine Reads.rd ?_ ?_; focus ((repeat first|assumption|exact m0|apply m1); done)) | (refine Reads.pc ?_ ?_; focus ((repeat first|assumption|exact m0|apply m1); done)) | (refine Reads.rdpc ?_ ?_; focus ((repeat first|assumption|exact m0|apply m1); done)))) (fun _ => rfl) ?_
    intro _
    rw [decide_eq_true rfl]
    refine SX.val rfl (Val.notT rfl) (by simp) rfl rfl ?_
    refine SX.val rfl (Val.pickT rfl rfl) (by simp) rfl rfl ?_
    refine SX.nil (SE.seq ?_)
    refine SC.condF rfl ?_
    refine SC.skip ?_
    refine SE.inBlock ?_
    refine SE.seq ?_
    refine SC.region ?_
    first
      | refine SL.val (Val.addI rfl rfl (by simp only [InR, lo, hi]; omega)) rfl rfl ?_
      | refine SL.val (Val.addW rfl rfl) rfl rfl ?_
    refine SL.val (Val.move rfl) rfl rfl ?_
    refine SL.nil ?_
    refine SE.round (z + 1) (by first | omega | (dsimp only; omega)) (by first | omega | (dsimp only; omega)) (by exact ⟨rfl, rfl, rfl, rfl, trivial⟩) (by repeat first|exact s0 _|exact s1 _|apply s2|apply s3)
end
end Go.Proofs.YtejcohlpjikjpaaGreatDoor.A
