/-
  Packed out of the texts: W9, W10, W2, W11, Law.
-/
import Derived.Test.YtoifikgnbblbgaaI08
import Derived.Test.YtoifikgnbblbgaaRows
import Derived.OpenShut
import Derived.SizedLaws
/-
  Both logs, all their slots as one piece.
-/
set_option maxRecDepth 100000
set_option linter.unusedSimpArgs false
set_option linter.unusedVariables false
namespace Go.Proofs.Ytoifikgnbblbgaa.A
open Go.RowKit Go.Maps Go.Sort Go.Shelf

theorem aget_split {β : Type} : ∀ {L : List (Int × β)} {a : Int} {v : β}, aget L a = some v → ∃ L1 L2, L = L1 ++ (a, v) :: L2
  | [], a, v, h => by cases h
  | p :: L, a, v, h => by
    rw [aget_cons] at h
    split at h
    · next e =>
      obtain ⟨k, u⟩ := p
      cases h
      exact ⟨[], L, by rw [← e]; rfl⟩
    · obtain ⟨L1, L2, rfl⟩ := aget_split h
      exact ⟨p :: L1, L2, rfl⟩
theorem aget_at {β : Type} {L : List (Int × β)} {a : Int} {v : β} (h : aget L a = some v) : ∃ (c : Nat) (hc : c < L.length), L[c].1 = a ∧ L[c].2 = v := by
  obtain ⟨L1, L2, rfl⟩ := aget_split h
  exact ⟨L1.length, by simp, by simp, by simp⟩
theorem aget_no {β : Type} {L : List (Int × β)} {a : Int} (h : aget L a = none) : ∀ j (h : j < L.length), L[j].1 ≠ a := fun j hj e => by
  rw [aget_none] at h
  exact h (List.mem_map.2 ⟨_, List.getElem_mem hj, e⟩)
/-- The program's slots, a number having been asked for, and which slot is answered. -/
def AtOk (low : Int) (L : List (Int × SD)) (seq : Int) (r : List (Int × SD) × Option SD) : Prop := (¬ inW low seq → r.1 = L ∧ r.2 = none) ∧ (inW low seq → ∃ L1 s L2, r.1 = L1 ++ (seq, s) :: L2 ∧ r.2 = some s ∧ (r.1 = L ∨ (aget L seq = none ∧ r.1 = L ++ [(seq, s)] ∧ s.m = [] ∧ s.c = [])))
theorem atL_ok (low : Int) (L : List (Int × SD)) (seq : Int) (z : Z5) : AtOk low L seq (atL low L seq z, if inW low seq then aget (atL low L seq z) seq else none) := by
  constructor
  · intro h
    unfold atL
    rw [if_neg h, if_neg fun k => h k.1]
    exact ⟨rfl, rfl⟩
  · intro h
    obtain ⟨s, hs⟩ := atL_some (L := L) (z := z) h
    obtain ⟨L1, L2, e⟩ := aget_split hs
    refine ⟨L1, s, L2, e, by rw [if_pos h]; exact hs, ?_⟩
    show atL low L seq z = L ∨ _
    unfold atL at hs ⊢
    by_cases hn : aget L seq = none
    · rw [if_pos ⟨h, hn⟩] at hs ⊢
      rw [aget_snoc hn] at hs
      cases hs
      exact .inr ⟨hn, rfl, rfl, rfl⟩
    · rw [if_neg fun k => hn k.2]
      exact .inl rfl
/-- The document's. -/
def RAtOk (low : Int) (R : List (Int × RS)) (seq : Int) (r : List (Int × RS) × Option RS) : Prop := (¬ inW low seq → r.1 = R ∧ r.2 = none) ∧ (inW low seq → ∃ R1 s R2, r.1 = R1 ++ (seq, s) :: R2 ∧ r.2 = some s ∧ (r.1 = R ∨ (aget R seq = none ∧ r.1 = insR R seq s ∧ s.ws = [])))
theorem rins_ok {low seq : Int} {R : List (Int × RS)} {s : RS} (hi : inW low seq) (hv : aget R seq = none) (hs : s.ws = []) : RAtOk low R seq (insR R seq s, some s) := by
  refine ⟨fun h => absurd hi h, fun _ => ⟨R.filter (fun x => decide (x.1 < seq)), s, R.filter (fun x => decide (seq < x.1)), ?_, rfl, .inr ⟨hv, rfl, hs⟩⟩⟩
  show insR R seq s = _
  unfold insR
  rw [List.append_assoc]
  rfl
abbrev optP (o : Option Nat) : Abs := .v (.pointer (o.map fun p => ⟨p, 0, none⟩))
def rslP (n : Int) (s : RS) : Pc := blkP s.q 61 (rsC n s.ws)
def rslsP (n : Int) (R : List (Int × RS)) : Pc := bigP (R.map fun x => rslP n x.2)
theorem ins_perm {R : List (Int × RS)} {seq : Int} {s : RS} (h : aget R seq = none) : (insR R seq s).Perm ((seq, s) :: R) := by
  have e : (R.filter fun x => decide (seq < x.1)) = R.filter fun x => !decide (x.1 < seq) := List.filter_congr fun x hx => by
    have h1 : x.1 ≠ seq := fun e => (aget_none ..).1 h (List.mem_map.2 ⟨x, hx, e⟩)
    by_cases h2 : x.1 < seq
    · have : ¬ seq < x.1 := by omega
      simp [h2, this]
    · have : seq < x.1 := by omega
      simp [h2, this]
  unfold insR
  rw [e, List.append_assoc]
  exact List.perm_middle.trans ((List.filter_append_perm _ _).cons _)
theorem rs_casts {n : Int} : Casts (rsZ n) (rsC n []) := by
  unfold rsZ rsC
  refine Casts.keep (Casts.keep ?_)
  have h : ∀ l : List Abs, Casts (l ++ [nilS, nilS, nilS]) (l ++ [nilS, wsA [], nilS]) := fun l => by
    induction l with
    | nil => exact Casts.keep (Casts.nils Casts.refl)
    | cons a l ih => exact Casts.keep ih
  exact h _
theorem Re.newRS {n low : Int} {q : Nat} {R : List (Int × RS)} {seq : Int} {z : Nat} {cs : List Abs} (h : aget R seq = none) : Re ([.blk z 61 (rsZ n), .blk q 39 cs] ++ [.pc (rslsP n R)]) [.blk q 39 cs, .pc (rslsP n (insR R seq ⟨z, []⟩))] := by
  refine (Re.perm (ys := [.blk q 39 cs, .blk z 61 (rsZ n), .pc (rslsP n R)]) (List.Perm.swap _ _ _) (by simp [It.rids])).trans (Re.cons rfl ?_)
  refine ((Re.cast rs_casts).app (rslsP n R)).trans ((Re.blkIn.app (rslsP n R)).trans ?_)
  refine (Re.back (l1 := []) (l2 := R.map fun x => rslP n x.2) (c := blkP z 61 (rsC n []))).trans (Re.part ⟨[], ?_⟩)
  rw [List.append_nil]
  exact ((ins_perm (s := ⟨z, []⟩) h).symm.map fun x => rslP n x.2)
section
variable {t b q : Nat} {L : List (Int × SD)} {R : List (Int × RS)} {n low seq who : Int} {k : Dg}
theorem watS_s (hl : lowOk low) (hs : intOk seq) (hn : 1 ≤ n ∧ n ≤ 7) : Spec Try.prog 9 [ptr t, int seq] [.blk t 51 [int n, int low, mapV b], .pc (mapPc b intK ptrV intOk (ptrs L)), .pc (slsP n L)] (fun z : {r // AtOk low L seq r} => [.blk t 51 [int n, int low, mapV b], .pc (mapPc b intK ptrV intOk (ptrs z.1.1)), .pc (slsP n z.1.1)]) (fun z => .tup [optP (z.1.2.map (·.p)), int (if inW low seq then 0 else 14)]) := by
  refine Spec.as (fun z => ⟨_, atL_ok low L seq z⟩) (fun z => rfl) (fun z => ?_) (wat_s (b := b) hl hs hn)
  unfold atP optP
  by_cases h : inW low seq
  · obtain ⟨s, hs⟩ := atL_some (L := L) (z := z) h
    dsimp only
    rw [if_pos h, if_pos h, if_pos h, hs]
    rfl
  · dsimp only
    rw [if_neg h, if_neg h, if_neg h]
    rfl
theorem ratS_s (hl : lowOk low) (hr : (R.map (·.1)).Pairwise (· < ·)) (hn : R.length ≤ 1000) : Spec Try.prog 13 [ptr q, int seq] [.blk q 39 (lgC n low R), .pc (rslsP n R)] (fun z : {r // RAtOk low R seq r} => [.blk q 39 (lgC n low z.1.1), .pc (rslsP n z.1.1)]) (fun z => optP (z.1.2.map (·.q))) := by
  by_cases hi : inW low seq
  · cases hv : aget R seq with
    | none =>
      exact Spec.as (fun z => ⟨(insR R seq ⟨z, []⟩, some ⟨z, []⟩), rins_ok hi hv rfl⟩) (fun z => rfl) (fun z => rfl) (Spec.reg (xs := [.blk q 39 (lgC n low R)]) (φ := [.pc (rslsP n R)]) (rat_new_s hl hi hr hn (aget_no hv)) (by simp [It.rids]) (Re.refl (by simp [It.rids])) fun z => Re.newRS (low := low) hv)
    | some s =>
      obtain ⟨c, hc, he, hs⟩ := aget_at hv
      obtain ⟨R1, R2, e⟩ := aget_split hv
      refine Spec.as (fun _ => ⟨(R, some s), ⟨fun h => absurd hi h, fun _ => ⟨R1, s, R2, e, rfl, .inl rfl⟩⟩⟩) (fun z => rfl) (fun z => ?_) (Spec.keep (σ := [.blk q 39 (lgC n low R), .pc (rslsP n R)]) (rat_old_s (q := q) (n := n) hl hi hr hn hc he) (.blk (by simp) .nil) (by simp [It.rids]))
      rw [hs]
      rfl
  · exact Spec.as (fun _ => ⟨(R, none), ⟨fun _ => ⟨rfl, rfl⟩, fun h => absurd h hi⟩⟩) (fun z => rfl) (fun z => rfl) (Spec.keep (σ := [.blk q 39 (lgC n low R), .pc (rslsP n R)]) (rat_out_s (q := q) (n := n) (R := R) hl hi) (.blk (by simp) .nil) (by simp [It.rids]))
theorem rmoveT_s (hr : (R.map (·.1)).Pairwise (· < ·)) (hn : R.length ≤ 1000) : Spec Try.prog 16 [ptr q, int seq] [.blk q 39 (lgC n low R), .pc (rslsP n R)] (fun _ : Unit => [.blk q 39 (lgC n (mvW low seq) (mvL low seq R)), .pc (rslsP n (mvL low seq R))]) (fun _ => int (if mvOk low seq then 0 else 14)) := by
  unfold mvW mvL
  by_cases hi : mvOk low seq
  · rw [if_pos hi, if_pos hi, if_pos hi]
    exact Spec.reg (xs := [.blk q 39 (lgC n low R)]) (φ := [.pc (rslsP n R)]) (rmove0_s hi hr hn) (by simp [It.rids]) (Re.refl (by simp [It.rids])) fun z => Re.cons rfl (Re.part (by
      obtain ⟨z, hz⟩ := filter_perm (fun x : Int × RS => decide (seq < x.1)) R
      exact ⟨z.map fun x => rslP n x.2, by rw [← List.map_append]; exact hz.map _⟩))
  · rw [if_neg hi, if_neg hi, if_neg hi]
    exact Spec.keep (σ := [.blk q 39 (lgC n low R), .pc (rslsP n R)]) (rmove_no_s (q := q) (n := n) (R := R) hi) (.blk (by simp) .nil) (by simp [It.rids])
theorem rclear_s : Spec Try.prog 17 [ptr q] [.blk q 39 (lgC n low R), .pc (rslsP n R)] (fun _ : Unit => [.blk q 39 (lgC n low ([] : List (Int × RS))), .pc (rslsP n ([] : List (Int × RS)))]) (fun _ => .tup []) :=
  Spec.reg (xs := [.blk q 39 (lgC n low R)]) (φ := [.pc (rslsP n R)]) (rclear0_s (n := n) (low := low) (R := R)) (by simp [It.rids]) (Re.refl (by simp [It.rids])) fun z => Re.cons rfl (Re.part ⟨R.map fun x => rslP n x.2, List.Perm.refl _⟩)
theorem rprepW_s {R1 R2 : List (Int × RS)} {s : RS} (hl : s.ws.length ≤ 1000) : Spec Try.prog 15 [ptr s.q, int who, .agg (dgC k)] [.pc (rslsP n (R1 ++ (seq, s) :: R2))] (fun _ : Unit => [.pc (rslsP n (R1 ++ (seq, ⟨s.q, voteM n s.ws who k⟩) :: R2))]) (fun _ => int (voteE n s.ws who k)) := by
  refine Spec.reg (φ := [.pc (rslsP n (R1 ++ R2))]) (rprep_s (p := s.q) (n := n) (ws := s.ws) (who := who) (k := k) hl) (by simp [It.rids]) ?_ fun z => ?_
  · have h1 : Re [.pc (rslsP n (R1 ++ (seq, s) :: R2))] [.pc (rslP n s), .pc (rslsP n (R1 ++ R2))] := by
      unfold rslsP
      rw [List.map_append, List.map_append, List.map_cons]
      exact Re.out
    exact h1.trans (Re.blkOut.app _)
  · have h1 : Re [.pc (rslP n ⟨s.q, voteM n s.ws who k⟩), .pc (rslsP n (R1 ++ R2))] [.pc (rslsP n (R1 ++ (seq, ⟨s.q, voteM n s.ws who k⟩) :: R2))] := by
      unfold rslsP
      rw [List.map_append, List.map_append, List.map_cons]
      exact Re.back
    exact Re.trans (Re.blkIn.app _) h1
end
end Go.Proofs.Ytoifikgnbblbgaa.A
/-
  WindowPlays: what the two logs keep alike.
-/
set_option maxRecDepth 100000
set_option linter.unusedSimpArgs false
set_option linter.unusedVariables false
namespace Go.Proofs.Ytoifikgnbblbgaa.A
open Go.RowKit Go.Maps Go.Sort Go.Shelf

def kL (L : List (Int × SD)) : List (Int × List (Int × Dg)) := L.map fun x => (x.1, x.2.m)
def kR (R : List (Int × RS)) : List (Int × List (Int × Dg)) := R.map fun x => (x.1, x.2.ws)
theorem kL_keys (L : List (Int × SD)) : (kL L).map (·.1) = L.map (·.1) := by simp [kL]
theorem kR_keys (R : List (Int × RS)) : (kR R).map (·.1) = R.map (·.1) := by simp [kR]
theorem ptrs_keys (L : List (Int × SD)) : (ptrs L).map (·.1) = L.map (·.1) := by simp [ptrs]
theorem ptrs_len (L : List (Int × SD)) : (ptrs L).length = L.length := by simp [ptrs]
theorem rise_few : ∀ {l : List Int} {a b : Int}, l.Pairwise (· < ·) → (∀ x ∈ l, a < x ∧ x ≤ b) → (l.length : Int) ≤ max 0 (b - a)
  | [], a, b, _, _ => by simp; omega
  | x :: l, a, b, h, hb => by
    rw [List.pairwise_cons] at h
    have h1 := hb x List.mem_cons_self
    have h2 := rise_few (l := l) (a := x) (b := b) h.2 fun y hy => ⟨h.1 y hy, (hb y (List.mem_cons_of_mem _ hy)).2⟩
    rw [List.length_cons]
    omega
/-- The two logs tell the same. -/
structure Lg (z : Nat) (low : Int) (L : List (Int × SD)) (R : List (Int × RS)) : Prop where
  lowk : lowOk low
  inw : ∀ x ∈ L, inW low x.1
  rel : Rel (kR R) (kL L)
  inv : ∀ x ∈ L, TInv x.2.m x.2.c ∧ x.2.m.length ≤ z
section
variable {z : Nat} {low seq : Int} {L : List (Int × SD)} {R : List (Int × RS)}
theorem Lg.nil (hl : lowOk low) : Lg z low [] [] := ⟨hl, fun _ h => (by cases h), Rel.nil, fun _ h => (by cases h)⟩
theorem Lg.rise (h : Lg z low L R) : (R.map (·.1)).Pairwise (· < ·) := by rw [← kR_keys]; exact h.rel.rise
theorem Lg.keyP (h : Lg z low L R) : (R.map (·.1)).Perm (L.map (·.1)) := by rw [← kR_keys, ← kL_keys]; exact h.rel.perm.map _
theorem Lg.len (h : Lg z low L R) : R.length = L.length := by have := h.keyP.length_eq; simpa using this
theorem Lg.few (h : Lg z low L R) : L.length ≤ 8 := by
  have h1 := rise_few (a := low) (b := low + 8) h.rise fun x hx => by
    obtain ⟨y, hy, rfl⟩ := List.mem_map.1 (h.keyP.mem_iff.1 hx)
    exact ⟨(h.inw y hy).1, (h.inw y hy).2.1⟩
  rw [List.length_map, h.len] at h1
  omega
theorem Lg.seqs (h : Lg z low L R) : srt ((ptrs L).map (·.1)) = R.map (·.1) := by
  rw [ptrs_keys, ← kL_keys, h.rel.srt, kR_keys]
theorem Lg.intOk (h : Lg z low L R) : ∀ x ∈ L, intOk x.1 := fun x hx => by
  have h1 := h.inw x hx
  have h2 := h.lowk
  unfold inW at h1
  unfold lowOk at h2
  simp only [InR, lo, hi]
  omega
theorem Lg.more (h : Lg z low L R) : Lg (z + 1) low L R := ⟨h.lowk, h.inw, h.rel, fun x hx => ⟨(h.inv x hx).1, Nat.le_succ_of_le (h.inv x hx).2⟩⟩
theorem Lg.clear (h : Lg z low L R) : Lg (z + 1) low [] [] := Lg.nil h.lowk
theorem Lg.move (h : Lg z low L R) (seq : Int) : Lg (z + 1) (mvW low seq) (mvL low seq L) (mvL low seq R) := by
  unfold mvW mvL
  by_cases hi : mvOk low seq
  · rw [if_pos hi, if_pos hi, if_pos hi]
    unfold mvOk at hi
    have hlow := h.lowk
    unfold lowOk at hlow
    refine ⟨by unfold lowOk; omega, fun x hx => ?_, ⟨?_, ?_⟩, fun x hx => ?_⟩
    · rw [List.mem_filter, decide_eq_true_eq] at hx
      have := h.inw x hx.1
      unfold inW at this ⊢
      omega
    · have h1 := h.rel.perm.filter fun q => decide (seq < q.1)
      unfold kR kL at h1 ⊢
      rw [List.filter_map, List.filter_map] at h1
      exact h1
    · have h1 := h.rise.sublist ((List.filter_sublist (l := R) (p := fun x => decide (seq < x.1))).map (·.1))
      rw [kR_keys]
      exact h1
    · have := h.inv x (List.mem_filter.1 hx).1
      exact ⟨this.1, Nat.le_succ_of_le this.2⟩
  · rw [if_neg hi, if_neg hi, if_neg hi]
    exact h.more
theorem kR_ins {seq : Int} {s : RS} (h : Rel (kR R) (kL L)) : kR (insR R seq s) = chgR (kR R) seq s.ws := by
  rw [chgR_eq h.rise]
  unfold kR insR
  rw [List.map_append, List.map_append, List.filter_map, List.filter_map]
  rfl
theorem Lg.ask {r : List (Int × SD) × Option SD} {r' : List (Int × RS) × Option RS} (h : Lg z low L R) (ha : AtOk low L seq r) (hb : RAtOk low R seq r') (hi : inW low seq) :
    ∃ L1 s L2 R1 s' R2, r.1 = L1 ++ (seq, s) :: L2 ∧ r.2 = some s ∧ r'.1 = R1 ++ (seq, s') :: R2 ∧ r'.2 = some s' ∧ Lg z low (L1 ++ (seq, s) :: L2) (R1 ++ (seq, s') :: R2) := by
  obtain ⟨L1, s, L2, e1, e2, hc⟩ := ha.2 hi
  obtain ⟨R1, s', R2, f1, f2, hd⟩ := hb.2 hi
  refine ⟨L1, s, L2, R1, s', R2, e1, e2, f1, f2, ?_⟩
  rw [← e1, ← f1]
  have hk : aget R seq = none ↔ aget L seq = none := by
    rw [aget_none, aget_none]
    exact not_congr h.keyP.mem_iff
  rcases hc with hc | ⟨hn, hc, hm, hcc⟩
  · rcases hd with hd | ⟨hm, hd, _⟩
    · rw [hc, hd]; exact h
    · have h1 : (seq, s) ∈ L := by rw [← hc, e1]; simp
      have h2 := (aget_none ..).1 (hk.1 hm)
      exact absurd (List.mem_map.2 ⟨_, h1, rfl⟩) h2
  · rcases hd with hd | ⟨_, hd, hw⟩
    · have h1 : (seq, s') ∈ R := by rw [← hd, f1]; simp
      have h2 := (aget_none ..).1 (hk.2 hn)
      exact absurd (List.mem_map.2 ⟨_, h1, rfl⟩) h2
    · have hn2 : aget (kL L) seq = none := by
        unfold kL
        rw [aget_mapv, hn]
        rfl
      rw [hc, hd]
      refine ⟨h.lowk, fun x hx => ?_, ?_, fun x hx => ?_⟩
      · rcases List.mem_append.1 hx with hx | hx
        · exact h.inw x hx
        · rw [List.mem_singleton.1 hx]; exact hi
      · rw [kR_ins h.rel, hw, show kL (L ++ [(seq, s)]) = aput (kL L) seq [] by rw [aput_new hn2]; unfold kL; rw [List.map_append, ← hm]; rfl]
        exact h.rel.chg seq []
      · rcases List.mem_append.1 hx with hx | hx
        · exact h.inv x hx
        · rw [List.mem_singleton.1 hx, hm, hcc]
          exact ⟨TInv.nil, by simp⟩
theorem vote_inv {n who : Int} {m : List (Int × Dg)} {c : List (Dg × Nat)} {d : Dg} (h : TInv m c) (hz : m.length ≤ z) : TInv (voteM n m who d) (voteC n m c who d) ∧ (voteM n m who d).length ≤ z + 1 := by
  unfold voteM voteC
  cases voteIn n m who with
  | true => exact ⟨h.chg who d, Nat.le_trans (aput_length_le m who d) (by omega)⟩
  | false => exact ⟨h, Nat.le_succ_of_le hz⟩
theorem map_at {β : Type} {L1 L2 : List (Int × β)} {a : Int} {u v : β} (h : ((L1 ++ (a, u) :: L2).map (·.1)).Nodup) : aput (L1 ++ (a, u) :: L2) a v = L1 ++ (a, v) :: L2 := by
  have hs : (aget (L1 ++ (a, u) :: L2) a).isSome = true := by rw [aget_isSome]; simp
  simp only [List.map_append, List.map_cons, List.nodup_append, List.nodup_cons] at h
  have h1 : ∀ l : List (Int × β), a ∉ l.map (·.1) → (l.map fun p => if p.1 = a then (a, v) else p) = l := fun l hl => map_none hl
  unfold aput
  rw [if_pos hs, List.map_append, List.map_cons, h1 L1, h1 L2, if_pos rfl]
  · exact h.2.1.1
  · exact fun hm => h.2.2 a hm a (by simp) rfl
theorem Lg.vote {n who : Int} {d : Dg} {L1 L2 : List (Int × SD)} {R1 R2 : List (Int × RS)} {s : SD} {s' : RS} (h : Lg z low (L1 ++ (seq, s) :: L2) (R1 ++ (seq, s') :: R2)) :
    s'.ws = s.m ∧ TInv s.m s.c ∧ s.m.length ≤ z ∧ Lg (z + 1) low (L1 ++ (seq, s.vote n who d) :: L2) (R1 ++ (seq, ⟨s'.q, voteM n s'.ws who d⟩) :: R2) := by
  have hs := h.inv (seq, s) (by simp)
  have hnL := h.rel.nd2
  have hnR := h.rel.nd
  have eL : kL (L1 ++ (seq, s) :: L2) = kL L1 ++ (seq, s.m) :: kL L2 := by simp [kL]
  have eR : kR (R1 ++ (seq, s') :: R2) = kR R1 ++ (seq, s'.ws) :: kR R2 := by simp [kR]
  have hw : s'.ws = s.m := by
    have h1 := h.rel.aget seq
    rw [(aget_some hnR (w := seq) (v := s'.ws)).2 (by rw [eR]; simp), (aget_some hnL (w := seq) (v := s.m)).2 (by rw [eL]; simp)] at h1
    exact Option.some.inj h1
  have hv := vote_inv (n := n) (who := who) (d := d) hs.1 hs.2
  refine ⟨hw, hs.1, hs.2, h.lowk, fun x hx => ?_, ?_, fun x hx => ?_⟩
  · simp only [List.mem_append, List.mem_cons] at hx
    rcases hx with hx | rfl | hx
    · exact h.inw x (by simp [hx])
    · exact h.inw (seq, s) (by simp)
    · exact h.inw x (by simp [hx])
  · have h1 := h.rel.chg seq (voteM n s.m who d)
    have h2 : ((R1 ++ (seq, s') :: R2).map (·.1)).Pairwise (· < ·) := h.rise
    have h3 : chgR (kR (R1 ++ (seq, s') :: R2)) seq (voteM n s.m who d) = kR R1 ++ (seq, voteM n s.m who d) :: kR R2 := by
      rw [chgR_eq h.rel.rise, eR]
      simp only [List.map_append, List.map_cons, List.pairwise_append, List.pairwise_cons] at h2
      have k1 : ∀ x ∈ kR R1, x.1 < seq := fun x hx => h2.2.2 x.1 (by rw [← kR_keys]; exact List.mem_map.2 ⟨x, hx, rfl⟩) seq (by simp)
      have k2 : ∀ x ∈ kR R2, seq < x.1 := fun x hx => h2.2.1.1 x.1 (by rw [← kR_keys]; exact List.mem_map.2 ⟨x, hx, rfl⟩)
      have g1 : (kR R1).filter (fun p => decide (p.1 < seq)) = kR R1 := List.filter_eq_self.2 fun x hx => by simpa using k1 x hx
      have g2 : (kR R2).filter (fun p => decide (p.1 < seq)) = [] := List.filter_eq_nil_iff.2 fun x hx => by have := k2 x hx; simp; omega
      have g3 : (kR R1).filter (fun p => decide (seq < p.1)) = [] := List.filter_eq_nil_iff.2 fun x hx => by have := k1 x hx; simp; omega
      have g4 : (kR R2).filter (fun p => decide (seq < p.1)) = kR R2 := List.filter_eq_self.2 fun x hx => by simpa using k2 x hx
      simp [List.filter_append, List.filter_cons, g1, g2, g3, g4]
    rw [h3, eL, map_at (by rw [← eL]; exact hnL)] at h1
    have e1 : kL (L1 ++ (seq, s.vote n who d) :: L2) = kL L1 ++ (seq, voteM n s.m who d) :: kL L2 := by simp [kL, SD.vote]
    have e2 : kR (R1 ++ (seq, ⟨s'.q, voteM n s'.ws who d⟩) :: R2) = kR R1 ++ (seq, voteM n s.m who d) :: kR R2 := by rw [hw]; simp [kR]
    rw [e1, e2]
    exact h1
  · simp only [List.mem_append, List.mem_cons] at hx
    rcases hx with hx | rfl | hx
    · have := h.inv x (by simp [hx]); exact ⟨this.1, Nat.le_succ_of_le this.2⟩
    · exact hv
    · have := h.inv x (by simp [hx]); exact ⟨this.1, Nat.le_succ_of_le this.2⟩
end
end Go.Proofs.Ytoifikgnbblbgaa.A
/-
  WindowTop: calls whose answers the document fixes.
-/
set_option maxRecDepth 100000
set_option linter.unusedSimpArgs false
set_option linter.unusedVariables false
namespace Go.Proofs.Ytoifikgnbblbgaa.A
open Go.RowKit Go.Maps Go.Sort Go.Shelf

theorem neb {p q : Bool} (h : p = q) : (p != q) = false := by subst h; cases p <;> rfl
theorem i8 : intOk 8 := by simp only [InR, lo, hi]; omega
theorem low0 : lowOk 0 := by unfold lowOk; omega
def fM (p : Nat) : List (Int × Nat) := aput [] 8 p
theorem fM_eq (p : Nat) : fM p = [(8, p)] := rfl
theorem fM_8 (p : Nat) : aget (fM p) 8 = some p := rfl
theorem fM_ok (p : Nat) : ∀ q ∈ fM p, intOk q.1 := fun q hq => by
  rw [fM_eq, List.mem_singleton] at hq
  subst hq
  exact i8
theorem fM_go (p : Nat) : ((fM p).filter fun q => decide ((8 : Int) < q.1)) = [] := rfl
theorem in8 : inW 0 8 := by unfold inW; omega
theorem in9 : ¬ inW 0 9 := by unfold inW; omega
theorem in0 : ¬ inW 0 0 := by unfold inW; omega
set_option maxHeartbeats 2000000 in
theorem fixed22_s  : Spec Try.prog 5 [] [] (fun _ : Unit => []) (fun _ => boo true) := by
  refine spec_of Try.func5 rfl Try.ntmps5 rfl fun G w => ?_
  refine SC.seq (SC.region ?_)
  refine SL.val (Val.assign rfl) rfl rfl ?_
  refine SL.nil (SE.seq ?_)
  refine SC.seq (SC.region ?_)
  refine SL.call (wnew_s (n := 4) (by omega)) Casts.refl (by kernel_rfl) rfl rfl rfl ?_
  refine After.make2 (by repeat first|exact .nil|refine .blk (by repeat first|assumption|exact m0|apply m1) ?_|refine .rd (by repeat first|assumption|exact m0|apply m1) ?_|refine .pc (by repeat first|assumption|exact m0|apply m1) ?_|refine .rdpc (by repeat first|assumption|exact m0|apply m1) ?_) (fun _ => rfl) ?_
  intro z0
  refine SL.val (Val.assign rfl) rfl rfl ?_
  refine SL.nil (SE.seq ?_)
  refine SC.seq (SC.region ?_)
  refine SL.val (Val.move rfl) rfl rfl ?_
  refine SL.call (wat_new_s (t := z0.1) (b := z0.2) (n := 4) (low := 0) (seq := 8) (m := []) low0 in8 i8 (by omega) rfl) Casts.refl (by kernel_rfl) rfl rfl rfl ?_
  refine After.two ⟨rfl, rfl⟩ (fun _ => rfl) ?_
  intro p
  refine SL.val (Val.move rfl) rfl rfl ?_
  refine SL.val (Val.extract rfl rfl) rfl rfl ?_
  refine SL.val (Val.extract rfl rfl) rfl rfl ?_
  refine SL.val (Val.assign rfl) rfl rfl ?_
  refine SL.val (Val.assign rfl) rfl rfl ?_
  refine SL.nil (SE.seq ?_)
  refine SC.seq (SC.region ?_)
  refine SL.val (Val.move rfl) rfl rfl ?_
  refine SL.call (wat_old_s (t := z0.1) (b := z0.2) (n := 4) (low := 0) (seq := 8) (m := fM p) (p := p) low0 in8 i8 (fM_8 p)) Casts.refl (by kernel_rfl) rfl rfl rfl ?_
  refine After.pure (by repeat (first | exact Reads.nil | (refine Reads.blk ?_ ?_; focus ((repeat first|assumption|exact m0|apply m1); done)) | (refine Reads.rd ?_ ?_; focus ((repeat first|assumption|exact m0|apply m1); done)) | (refine Reads.pc ?_ ?_; focus ((repeat first|assumption|exact m0|apply m1); done)) | (refine Reads.rdpc ?_ ?_; focus ((repeat first|assumption|exact m0|apply m1); done)))) (fun _ => rfl) ?_
  intro _
  refine SL.val (Val.move rfl) rfl rfl ?_
  refine SL.val (Val.extract rfl rfl) rfl rfl ?_
  refine SL.val (Val.extract rfl rfl) rfl rfl ?_
  refine SL.val (Val.assign rfl) rfl rfl ?_
  refine SL.val (Val.assign rfl) rfl rfl ?_
  refine SL.nil (SE.seq ?_)
  refine SC.seq (SC.region ?_)
  refine SL.val (Val.move rfl) rfl rfl ?_
  refine SL.call (wat_out_s (t := z0.1) (b := z0.2) (n := 4) (low := 0) (seq := 9) (m := fM p) low0 in9) Casts.refl (by kernel_rfl) rfl rfl rfl ?_
  refine After.pure (by repeat (first | exact Reads.nil | (refine Reads.blk ?_ ?_; focus ((repeat first|assumption|exact m0|apply m1); done)) | (refine Reads.rd ?_ ?_; focus ((repeat first|assumption|exact m0|apply m1); done)) | (refine Reads.pc ?_ ?_; focus ((repeat first|assumption|exact m0|apply m1); done)) | (refine Reads.rdpc ?_ ?_; focus ((repeat first|assumption|exact m0|apply m1); done)))) (fun _ => rfl) ?_
  intro _
  refine SL.val (Val.move rfl) rfl rfl ?_
  refine SL.val (Val.extract rfl rfl) rfl rfl ?_
  refine SL.val (Val.extract rfl rfl) rfl rfl ?_
  refine SL.val (Val.assign rfl) rfl rfl ?_
  refine SL.val (Val.assign rfl) rfl rfl ?_
  refine SL.nil (SE.seq ?_)
  refine SC.seq (SC.region ?_)
  refine SL.val (Val.move rfl) rfl rfl ?_
  refine SL.call (win_s (t := z0.1) (b := z0.2) (n := 4) (low := 0) (seq := 8) low0) Casts.refl (by kernel_rfl) rfl rfl rfl ?_
  refine After.pure (by repeat (first | exact Reads.nil | (refine Reads.blk ?_ ?_; focus ((repeat first|assumption|exact m0|apply m1); done)) | (refine Reads.rd ?_ ?_; focus ((repeat first|assumption|exact m0|apply m1); done)) | (refine Reads.pc ?_ ?_; focus ((repeat first|assumption|exact m0|apply m1); done)) | (refine Reads.rdpc ?_ ?_; focus ((repeat first|assumption|exact m0|apply m1); done)))) (fun _ => rfl) ?_
  intro _
  rw [show decide (inW 0 8) = true from decide_eq_true in8]
  refine SL.val (Val.move rfl) rfl rfl ?_
  refine SL.val (Val.move rfl) rfl rfl ?_
  refine SL.call (win_s (t := z0.1) (b := z0.2) (n := 4) (low := 0) (seq := 9) low0) Casts.refl (by kernel_rfl) rfl rfl rfl ?_
  refine After.pure (by repeat (first | exact Reads.nil | (refine Reads.blk ?_ ?_; focus ((repeat first|assumption|exact m0|apply m1); done)) | (refine Reads.rd ?_ ?_; focus ((repeat first|assumption|exact m0|apply m1); done)) | (refine Reads.pc ?_ ?_; focus ((repeat first|assumption|exact m0|apply m1); done)) | (refine Reads.rdpc ?_ ?_; focus ((repeat first|assumption|exact m0|apply m1); done)))) (fun _ => rfl) ?_
  intro _
  rw [show decide (inW 0 9) = false from decide_eq_false in9]
  refine SL.val (Val.notF rfl) rfl rfl ?_
  refine SL.val (Val.pickT rfl rfl) rfl rfl ?_
  refine SL.val (Val.move rfl) rfl rfl ?_
  refine SL.val (Val.move rfl) rfl rfl ?_
  refine SL.call (win_s (t := z0.1) (b := z0.2) (n := 4) (low := 0) (seq := 0) low0) Casts.refl (by kernel_rfl) rfl rfl rfl ?_
  refine After.pure (by repeat (first | exact Reads.nil | (refine Reads.blk ?_ ?_; focus ((repeat first|assumption|exact m0|apply m1); done)) | (refine Reads.rd ?_ ?_; focus ((repeat first|assumption|exact m0|apply m1); done)) | (refine Reads.pc ?_ ?_; focus ((repeat first|assumption|exact m0|apply m1); done)) | (refine Reads.rdpc ?_ ?_; focus ((repeat first|assumption|exact m0|apply m1); done)))) (fun _ => rfl) ?_
  intro _
  rw [show decide (inW 0 0) = false from decide_eq_false in0]
  refine SL.val (Val.notF rfl) rfl rfl ?_
  refine SL.val (Val.pickT rfl rfl) rfl rfl ?_
  refine SL.val (Val.move rfl) rfl rfl ?_
  refine SL.val (Val.move rfl) rfl rfl ?_
  refine SL.val (Val.to (C := boo true) (Val.eqI rfl rfl) (congrArg (fun b => Abs.v (Value.bool b)) (rfl))) rfl rfl ?_
  refine SL.val (Val.pickT rfl rfl) rfl rfl ?_
  refine SL.val (Val.move rfl) rfl rfl ?_
  refine SL.val (Val.move rfl) rfl rfl ?_
  refine SL.val (Val.to (C := boo true) (Val.eqI rfl rfl) (congrArg (fun b => Abs.v (Value.bool b)) (rfl))) rfl rfl ?_
  refine SL.val (Val.pickT rfl rfl) rfl rfl ?_
  refine SL.val (Val.move rfl) rfl rfl ?_
  refine SL.val (Val.move rfl) rfl rfl ?_
  refine SL.val (Val.to (C := boo true) (Val.eqI rfl rfl) (congrArg (fun b => Abs.v (Value.bool b)) (rfl))) rfl rfl ?_
  refine SL.val (Val.pickT rfl rfl) rfl rfl ?_
  refine SL.val (Val.move rfl) rfl rfl ?_
  refine SL.val (Val.move rfl) rfl rfl ?_
  refine SL.val (Val.move rfl) rfl rfl ?_
  refine SL.val (Val.eqPP rfl rfl (eqSlot _)) rfl rfl ?_
  refine SL.val (Val.pickT rfl rfl) rfl rfl ?_
  refine SL.val (Val.move rfl) rfl rfl ?_
  refine SL.val (Val.move rfl) rfl rfl ?_
  refine SL.val (Val.neP rfl rfl (by kernel_rfl)) rfl rfl ?_
  refine SL.val (Val.pickT rfl rfl) rfl rfl ?_
  refine SL.val (Val.move rfl) rfl rfl ?_
  refine SL.val (Val.move rfl) rfl rfl ?_
  refine SL.call (wmove_s (t := z0.1) (b := z0.2) (n := 4) (low := 0) (seq := 8) (m := fM p) (by omega) (fM_ok p)) Casts.refl (by kernel_rfl) rfl rfl rfl ?_
  refine After.two ⟨rfl, rfl⟩ (fun _ => rfl) ?_
  intro _
  refine SL.val (Val.to (C := boo true) (Val.eqI rfl rfl) (congrArg (fun b => Abs.v (Value.bool b)) (rfl))) rfl rfl ?_
  refine SL.val (Val.pickT rfl rfl) rfl rfl ?_
  refine SL.val (Val.move rfl) rfl rfl ?_
  refine SL.val (Val.move rfl) rfl rfl ?_
  refine SL.call (wseqs_s (t := z0.1) (b := z0.2) (n := 4) (low := 8) (m := (fM p).filter fun q => decide ((8 : Int) < q.1)) (by rw [fM_go]; decide)) Casts.refl (by kernel_rfl) rfl rfl rfl ?_
  refine After.make (by repeat (first | exact Reads.nil | (refine Reads.blk ?_ ?_; focus ((repeat first|assumption|exact m0|apply m1); done)) | (refine Reads.rd ?_ ?_; focus ((repeat first|assumption|exact m0|apply m1); done)) | (refine Reads.pc ?_ ?_; focus ((repeat first|assumption|exact m0|apply m1); done)) | (refine Reads.rdpc ?_ ?_; focus ((repeat first|assumption|exact m0|apply m1); done)))) (fun _ => rfl) ?_
  intro v64
  refine SL.val (Val.lenOwnR (m := 0) rfl (.inl (by repeat first|assumption|exact m0|apply m1)) Try.underlying34 (by rw [fM_go, List.length_map, srt_length]; rfl)) rfl rfl ?_
  refine SL.val (Val.to (C := boo true) (Val.eqI rfl rfl) (congrArg (fun b => Abs.v (Value.bool b)) (rfl))) rfl rfl ?_
  refine SL.val (Val.pickT rfl rfl) rfl rfl ?_
  refine SL.val (Val.move rfl) rfl rfl ?_
  refine SL.val (Val.move rfl) rfl rfl ?_
  refine SL.call (wlow_s (t := z0.1) (b := z0.2) (n := 4) (low := 8)) Casts.refl (by kernel_rfl) rfl rfl rfl ?_
  refine After.pure (by repeat (first | exact Reads.nil | (refine Reads.blk ?_ ?_; focus ((repeat first|assumption|exact m0|apply m1); done)) | (refine Reads.rd ?_ ?_; focus ((repeat first|assumption|exact m0|apply m1); done)) | (refine Reads.pc ?_ ?_; focus ((repeat first|assumption|exact m0|apply m1); done)) | (refine Reads.rdpc ?_ ?_; focus ((repeat first|assumption|exact m0|apply m1); done)))) (fun _ => rfl) ?_
  intro _
  refine SL.val (Val.to (C := boo true) (Val.eqI rfl rfl) (congrArg (fun b => Abs.v (Value.bool b)) (rfl))) rfl rfl ?_
  refine SL.val (Val.pickT rfl rfl) rfl rfl ?_
  refine SL.val (Val.assign rfl) rfl rfl ?_
  refine SL.nil (SE.seq ?_)
  refine SC.ret ?_
  refine SE.fin (rs := [.tmp 0]) rfl (RV.tmp rfl RV.nil) (()) (by repeat first|exact s0 _|exact s1 _|apply s2|apply s3) (by simp [It.rids]) ?_
  exact rfl
section
variable {back : UInt8} {seq : Int}
set_option maxHeartbeats 2000000 in
theorem wtopI_s (hs : intOk seq) (hin : inW (1048576 - (back.toNat : Int) % 12) seq) : Spec Try.prog 3 [.v (bc back), int seq] [] (fun _ : Unit => []) (fun _ => boo true) := by
  have hb := back.toNat_lt
  have hL : 0 ≤ (back.toNat : Int) % 12 ∧ (back.toNat : Int) % 12 < 12 := by omega
  have hlow : lowOk (1048576 - (back.toNat : Int) % 12) := by unfold lowOk; omega
  refine spec_of Try.func3 rfl Try.ntmps3 rfl fun G w => ?_
  refine SC.seq (SC.region ?_)
  refine SL.val (Val.assign rfl) rfl rfl ?_
  refine SL.nil (SE.seq ?_)
  refine SC.seq ?_
  refine SC.seq (SC.region ?_)
  refine SL.call (fixed22_s) Casts.refl (by kernel_rfl) rfl rfl rfl ?_
  refine After.pure (by repeat first|exact .nil|refine .blk (by repeat first|assumption|exact m0|apply m1) ?_|refine .rd (by repeat first|assumption|exact m0|apply m1) ?_|refine .pc (by repeat first|assumption|exact m0|apply m1) ?_|refine .rdpc (by repeat first|assumption|exact m0|apply m1) ?_) (fun _ => rfl) ?_
  intro _
  refine SL.val (Val.notT rfl) rfl rfl ?_
  refine SL.nil (SE.seq ?_)
  refine SC.condF rfl ?_
  refine SC.skip ?_
  refine SE.seq ?_
  refine SC.seq (SC.region ?_)
  refine SL.call (wnew_s (n := 4) (by omega)) Casts.refl (by kernel_rfl) rfl rfl rfl ?_
  refine After.make2 (by repeat first|exact .nil|refine .blk (by repeat first|assumption|exact m0|apply m1) ?_|refine .rd (by repeat first|assumption|exact m0|apply m1) ?_|refine .pc (by repeat first|assumption|exact m0|apply m1) ?_|refine .rdpc (by repeat first|assumption|exact m0|apply m1) ?_) (fun _ => rfl) ?_
  intro z0
  refine SL.val (Val.assign rfl) rfl rfl ?_
  refine SL.nil (SE.seq ?_)
  refine SC.seq (SC.region ?_)
  refine SL.val (Val.move rfl) rfl rfl ?_
  refine SL.val (Val.to (C := .v (.int .u8 ((back.toNat : Int) % 12))) (Val.remI rfl rfl (by omega)) rfl) rfl rfl ?_
  refine SL.val (Val.to (C := int ((back.toNat : Int) % 12)) (Val.convI rfl Try.underlying2 (by kernel_rfl) (by simp only [InR, lo, hi]; omega)) rfl) rfl rfl ?_
  refine SL.val (Val.to (C := int (1048576 - (back.toNat : Int) % 12)) (Val.subI rfl rfl (by simp only [InR, lo, hi]; omega)) rfl) rfl rfl ?_
  refine SL.val (Val.assign rfl) rfl rfl ?_
  refine SL.nil (SE.seq ?_)
  refine SC.seq ?_
  refine SC.seq (SC.region ?_)
  refine SL.val (Val.move rfl) rfl rfl ?_
  refine SL.val (Val.move rfl) rfl rfl ?_
  refine SL.call (wmove_s (t := z0.1) (b := z0.2) (n := 4) (low := 0) (seq := (1048576 - (back.toNat : Int) % 12)) (m := []) (by unfold lowOk at hlow; omega) (fun p hp => by cases hp)) Casts.refl (by kernel_rfl) rfl rfl rfl ?_
  refine After.two ⟨rfl, rfl⟩ (fun _ => rfl) ?_
  intro _
  refine SL.val (Val.to (C := boo false) (Val.neI rfl rfl) (congrArg (fun b => Abs.v (Value.bool b)) (by decide))) rfl rfl ?_
  refine SL.val (Val.move rfl) rfl rfl ?_
  refine SL.val (Val.move rfl) rfl rfl ?_
  refine SL.call (wmove_no_s (t := z0.1) (b := z0.2) (n := 4) (low := (1048576 - (back.toNat : Int) % 12)) (seq := 1048577) (m := []) (by omega)) Casts.refl (by kernel_rfl) rfl rfl rfl ?_
  refine After.pure (by repeat (first | exact Reads.nil | (refine Reads.blk ?_ ?_; focus ((repeat first|assumption|exact m0|apply m1); done)) | (refine Reads.rd ?_ ?_; focus ((repeat first|assumption|exact m0|apply m1); done)) | (refine Reads.pc ?_ ?_; focus ((repeat first|assumption|exact m0|apply m1); done)) | (refine Reads.rdpc ?_ ?_; focus ((repeat first|assumption|exact m0|apply m1); done)))) (fun _ => rfl) ?_
  intro _
  refine SL.val (Val.to (C := boo false) (Val.neI rfl rfl) (congrArg (fun b => Abs.v (Value.bool b)) (by decide))) rfl rfl ?_
  refine SL.val (Val.pickF rfl rfl) rfl rfl ?_
  refine SL.nil (SE.seq ?_)
  refine SC.condF rfl ?_
  refine SC.skip ?_
  refine SE.seq ?_
  refine SC.seq ?_
  refine SC.seq (SC.region ?_)
  refine SL.val (Val.move rfl) rfl rfl ?_
  refine SL.val (Val.assign rfl) rfl rfl ?_
  refine SL.nil (SE.seq ?_)
  refine SC.block ?_
  have hz0 : (1048576 - (back.toNat : Int) % 12) = (1048576 - (back.toNat : Int) % 12) + ((0 : Nat) : Int) := by omega
  refine SC.loop (ι := Nat) (fun z => [.blk z0.1 51 [int 4, int (1048576 - (back.toNat : Int) % 12), mapV z0.2], .pc (mapPc z0.2 intK ptrV intOk [])]) (fun z => [(1, int seq), (5, ptr z0.1), (6, int (1048576 - (back.toNat : Int) % 12)), (7, int ((1048576 - (back.toNat : Int) % 12) + (z : Nat)))]) (fun z => z ≤ 21) (fun z => 21 - z) (0) ((by omega)) (by exact ⟨rfl, rfl, rfl, congrArg (fun x => some (int x)) hz0, trivial⟩) (by repeat first|exact s0 _|exact s1 _|apply s2|apply s3) ?_
  intro z hz
  refine SC.seq ?_
  refine SC.seq (SC.region ?_)
  refine SL.val (Val.move rfl) rfl rfl ?_
  refine SL.val (Val.move rfl) rfl rfl ?_
  first
    | refine SL.val (Val.addI rfl rfl (by simp only [InR, lo, hi]; omega)) rfl rfl ?_
    | refine SL.val (Val.addW rfl rfl) rfl rfl ?_
  refine SL.val (Val.leI rfl rfl) rfl rfl ?_
  refine SL.nil (SE.seq ?_)
  refine SC.condP rfl ?_ ?_
  rotate_left
  · intro hc30
    refine SC.exit ?_
    refine SE.then_ (by intro h; cases h) ?_
    refine SE.then_ (by intro h; cases h) ?_
    refine SE.exit ?_
    refine SE.seq ?_
    refine SC.seq (SC.region ?_)
    refine SL.val (Val.move rfl) rfl rfl ?_
    refine SL.val (Val.move rfl) rfl rfl ?_
    refine SL.call (wat_new_s (t := z0.1) (b := z0.2) (n := 4) (low := (1048576 - (back.toNat : Int) % 12)) (seq := seq) (m := []) hlow hin hs (by omega) rfl) Casts.refl (by kernel_rfl) rfl rfl rfl ?_
    refine After.two ⟨rfl, rfl⟩ (fun _ => rfl) ?_
    intro p
    refine SL.val (Val.move rfl) rfl rfl ?_
    refine SL.val (Val.extract rfl rfl) rfl rfl ?_
    refine SL.val (Val.extract rfl rfl) rfl rfl ?_
    refine SL.val (Val.assign rfl) rfl rfl ?_
    refine SL.val (Val.assign rfl) rfl rfl ?_
    refine SL.nil (SE.seq ?_)
    refine SC.seq (SC.region ?_)
    refine SL.val (Val.move rfl) rfl rfl ?_
    refine SL.val (Val.to (C := boo true) (Val.eqI rfl rfl) (congrArg (fun b => Abs.v (Value.bool b)) (by decide))) rfl rfl ?_
    refine SL.val (Val.move rfl) rfl rfl ?_
    refine SL.val (Val.move rfl) rfl rfl ?_
    refine SL.call (win_s (t := z0.1) (b := z0.2) (n := 4) (low := (1048576 - (back.toNat : Int) % 12)) (seq := seq) hlow) Casts.refl (by kernel_rfl) rfl rfl rfl ?_
    refine After.pure (by repeat (first | exact Reads.nil | (refine Reads.blk ?_ ?_; focus ((repeat first|assumption|exact m0|apply m1); done)) | (refine Reads.rd ?_ ?_; focus ((repeat first|assumption|exact m0|apply m1); done)) | (refine Reads.pc ?_ ?_; focus ((repeat first|assumption|exact m0|apply m1); done)) | (refine Reads.rdpc ?_ ?_; focus ((repeat first|assumption|exact m0|apply m1); done)))) (fun _ => rfl) ?_
    intro _
    rw [decide_eq_true hin]
    refine SL.val (Val.to (C := boo true) (Val.eqB rfl rfl (by kernel_rfl)) (congrArg (fun b => Abs.v (Value.bool b)) (rfl))) rfl rfl ?_
    refine SL.val (Val.assign rfl) rfl rfl ?_
    refine SL.nil (SE.seq ?_)
    refine SC.ret ?_
    refine SE.fin (rs := [.tmp 4]) rfl (RV.tmp rfl RV.nil) (()) (by repeat first|exact s0 _|exact s1 _|apply s2|apply s3) (by simp [It.rids]) ?_
    exact rfl
  intro hc30
  refine SC.skip ?_
  refine SE.seq ?_
  refine SC.seq ?_
  refine SC.block ?_
  refine SC.seq (SC.region ?_)
  refine SL.val (Val.move rfl) rfl rfl ?_
  refine SL.val (Val.move rfl) rfl rfl ?_
  refine SL.call (win_s (t := z0.1) (b := z0.2) (n := 4) (low := (1048576 - (back.toNat : Int) % 12)) (seq := (1048576 - (back.toNat : Int) % 12) + (z : Nat)) hlow) Casts.refl (by kernel_rfl) rfl rfl rfl ?_
  refine After.pure (by repeat (first | exact Reads.nil | (refine Reads.blk ?_ ?_; focus ((repeat first|assumption|exact m0|apply m1); done)) | (refine Reads.rd ?_ ?_; focus ((repeat first|assumption|exact m0|apply m1); done)) | (refine Reads.pc ?_ ?_; focus ((repeat first|assumption|exact m0|apply m1); done)) | (refine Reads.rdpc ?_ ?_; focus ((repeat first|assumption|exact m0|apply m1); done)))) (fun _ => rfl) ?_
  intro _
  refine SL.val (Val.move rfl) rfl rfl ?_
  refine SL.val (Val.move rfl) rfl rfl ?_
  refine SL.val (Val.gtI rfl rfl) rfl rfl ?_
  refine SL.val (Val.move rfl) rfl rfl ?_
  refine SL.bothP (t := 39) rfl ?_ ?_
  rotate_left
  · intro hc39
    iterate 4 refine SL.skip rfl rfl ?_
    refine SL.val (Val.pickF rfl rfl) rfl rfl ?_
    refine SL.val (Val.move rfl) rfl rfl ?_
    iterate 2 refine SL.skip rfl rfl ?_
    refine SL.val (Val.pickF rfl rfl) rfl rfl ?_
    refine SL.val (Val.to (C := boo false) (Val.neB rfl rfl (by kernel_rfl)) (congrArg (fun b => Abs.v (Value.bool b)) (neb (by
        first
          | (rw [decide_eq_decide]; unfold inW; omega)
          | (refine decide_eq_false ?_; unfold inW; omega))))) rfl rfl ?_
    refine SL.nil (SE.seq ?_)
    refine SC.condF rfl ?_
    refine SC.skip ?_
    refine SE.inBlock ?_
    refine SE.seq ?_
    refine SC.region ?_
    refine SL.val (Val.move rfl) rfl rfl ?_
    refine SL.val (Val.to (C := int ((1048576 - (back.toNat : Int) % 12) + ((z + 1 : Nat) : Int))) (Val.addI rfl rfl (by simp only [InR, lo, hi]; omega)) (congrArg int (by omega))) rfl rfl ?_
    refine SL.val (Val.assign rfl) rfl rfl ?_
    refine SL.nil ?_
    refine SE.round (z + 1) (by first | omega | (dsimp only; omega)) (by first | omega | (dsimp only; omega)) (by exact ⟨rfl, rfl, rfl, rfl, trivial⟩) (by repeat first|exact s0 _|exact s1 _|apply s2|apply s3)
  intro hc39
  refine SL.val (Val.move rfl) rfl rfl ?_
  refine SL.val (Val.move rfl) rfl rfl ?_
  first
    | refine SL.val (Val.addI rfl rfl (by simp only [InR, lo, hi]; omega)) rfl rfl ?_
    | refine SL.val (Val.addW rfl rfl) rfl rfl ?_
  refine SL.val (Val.leI rfl rfl) rfl rfl ?_
  refine SL.val (Val.pickT rfl rfl) rfl rfl ?_
  refine SL.val (Val.move rfl) rfl rfl ?_
  refine SL.bothP (t := 45) rfl ?_ ?_
  · intro hc45
    refine SL.val (Val.move rfl) rfl rfl ?_
    refine SL.val (Val.leI rfl rfl) rfl rfl ?_
    refine SL.val (Val.pickT rfl rfl) rfl rfl ?_
    refine SL.val (Val.to (C := boo false) (Val.neB rfl rfl (by kernel_rfl)) (congrArg (fun b => Abs.v (Value.bool b)) (neb (by
        first
          | (rw [decide_eq_decide]; unfold inW; omega)
          | (refine decide_eq_false ?_; unfold inW; omega))))) rfl rfl ?_
    refine SL.nil (SE.seq ?_)
    refine SC.condF rfl ?_
    refine SC.skip ?_
    refine SE.inBlock ?_
    refine SE.seq ?_
    refine SC.region ?_
    refine SL.val (Val.move rfl) rfl rfl ?_
    refine SL.val (Val.to (C := int ((1048576 - (back.toNat : Int) % 12) + ((z + 1 : Nat) : Int))) (Val.addI rfl rfl (by simp only [InR, lo, hi]; omega)) (congrArg int (by omega))) rfl rfl ?_
    refine SL.val (Val.assign rfl) rfl rfl ?_
    refine SL.nil ?_
    refine SE.round (z + 1) (by first | omega | (dsimp only; omega)) (by first | omega | (dsimp only; omega)) (by exact ⟨rfl, rfl, rfl, rfl, trivial⟩) (by repeat first|exact s0 _|exact s1 _|apply s2|apply s3)
  intro hc45
  iterate 2 refine SL.skip rfl rfl ?_
  refine SL.val (Val.pickF rfl rfl) rfl rfl ?_
  refine SL.val (Val.to (C := boo false) (Val.neB rfl rfl (by kernel_rfl)) (congrArg (fun b => Abs.v (Value.bool b)) (neb (by
      first
        | (rw [decide_eq_decide]; unfold inW; omega)
        | (refine decide_eq_false ?_; unfold inW; omega))))) rfl rfl ?_
  refine SL.nil (SE.seq ?_)
  refine SC.condF rfl ?_
  refine SC.skip ?_
  refine SE.inBlock ?_
  refine SE.seq ?_
  refine SC.region ?_
  refine SL.val (Val.move rfl) rfl rfl ?_
  refine SL.val (Val.to (C := int ((1048576 - (back.toNat : Int) % 12) + ((z + 1 : Nat) : Int))) (Val.addI rfl rfl (by simp only [InR, lo, hi]; omega)) (congrArg int (by omega))) rfl rfl ?_
  refine SL.val (Val.assign rfl) rfl rfl ?_
  refine SL.nil ?_
  refine SE.round (z + 1) (by first | omega | (dsimp only; omega)) (by first | omega | (dsimp only; omega)) (by exact ⟨rfl, rfl, rfl, rfl, trivial⟩) (by repeat first|exact s0 _|exact s1 _|apply s2|apply s3)
set_option maxHeartbeats 2000000 in
theorem wtopO_s (hs : intOk seq) (hin : ¬ inW (1048576 - (back.toNat : Int) % 12) seq) : Spec Try.prog 3 [.v (bc back), int seq] [] (fun _ : Unit => []) (fun _ => boo true) := by
  have hb := back.toNat_lt
  have hL : 0 ≤ (back.toNat : Int) % 12 ∧ (back.toNat : Int) % 12 < 12 := by omega
  have hlow : lowOk (1048576 - (back.toNat : Int) % 12) := by unfold lowOk; omega
  refine spec_of Try.func3 rfl Try.ntmps3 rfl fun G w => ?_
  refine SC.seq (SC.region ?_)
  refine SL.val (Val.assign rfl) rfl rfl ?_
  refine SL.nil (SE.seq ?_)
  refine SC.seq ?_
  refine SC.seq (SC.region ?_)
  refine SL.call (fixed22_s) Casts.refl (by kernel_rfl) rfl rfl rfl ?_
  refine After.pure (by repeat first|exact .nil|refine .blk (by repeat first|assumption|exact m0|apply m1) ?_|refine .rd (by repeat first|assumption|exact m0|apply m1) ?_|refine .pc (by repeat first|assumption|exact m0|apply m1) ?_|refine .rdpc (by repeat first|assumption|exact m0|apply m1) ?_) (fun _ => rfl) ?_
  intro _
  refine SL.val (Val.notT rfl) rfl rfl ?_
  refine SL.nil (SE.seq ?_)
  refine SC.condF rfl ?_
  refine SC.skip ?_
  refine SE.seq ?_
  refine SC.seq (SC.region ?_)
  refine SL.call (wnew_s (n := 4) (by omega)) Casts.refl (by kernel_rfl) rfl rfl rfl ?_
  refine After.make2 (by repeat first|exact .nil|refine .blk (by repeat first|assumption|exact m0|apply m1) ?_|refine .rd (by repeat first|assumption|exact m0|apply m1) ?_|refine .pc (by repeat first|assumption|exact m0|apply m1) ?_|refine .rdpc (by repeat first|assumption|exact m0|apply m1) ?_) (fun _ => rfl) ?_
  intro z0
  refine SL.val (Val.assign rfl) rfl rfl ?_
  refine SL.nil (SE.seq ?_)
  refine SC.seq (SC.region ?_)
  refine SL.val (Val.move rfl) rfl rfl ?_
  refine SL.val (Val.to (C := .v (.int .u8 ((back.toNat : Int) % 12))) (Val.remI rfl rfl (by omega)) rfl) rfl rfl ?_
  refine SL.val (Val.to (C := int ((back.toNat : Int) % 12)) (Val.convI rfl Try.underlying2 (by kernel_rfl) (by simp only [InR, lo, hi]; omega)) rfl) rfl rfl ?_
  refine SL.val (Val.to (C := int (1048576 - (back.toNat : Int) % 12)) (Val.subI rfl rfl (by simp only [InR, lo, hi]; omega)) rfl) rfl rfl ?_
  refine SL.val (Val.assign rfl) rfl rfl ?_
  refine SL.nil (SE.seq ?_)
  refine SC.seq ?_
  refine SC.seq (SC.region ?_)
  refine SL.val (Val.move rfl) rfl rfl ?_
  refine SL.val (Val.move rfl) rfl rfl ?_
  refine SL.call (wmove_s (t := z0.1) (b := z0.2) (n := 4) (low := 0) (seq := (1048576 - (back.toNat : Int) % 12)) (m := []) (by unfold lowOk at hlow; omega) (fun p hp => by cases hp)) Casts.refl (by kernel_rfl) rfl rfl rfl ?_
  refine After.two ⟨rfl, rfl⟩ (fun _ => rfl) ?_
  intro _
  refine SL.val (Val.to (C := boo false) (Val.neI rfl rfl) (congrArg (fun b => Abs.v (Value.bool b)) (by decide))) rfl rfl ?_
  refine SL.val (Val.move rfl) rfl rfl ?_
  refine SL.val (Val.move rfl) rfl rfl ?_
  refine SL.call (wmove_no_s (t := z0.1) (b := z0.2) (n := 4) (low := (1048576 - (back.toNat : Int) % 12)) (seq := 1048577) (m := []) (by omega)) Casts.refl (by kernel_rfl) rfl rfl rfl ?_
  refine After.pure (by repeat (first | exact Reads.nil | (refine Reads.blk ?_ ?_; focus ((repeat first|assumption|exact m0|apply m1); done)) | (refine Reads.rd ?_ ?_; focus ((repeat first|assumption|exact m0|apply m1); done)) | (refine Reads.pc ?_ ?_; focus ((repeat first|assumption|exact m0|apply m1); done)) | (refine Reads.rdpc ?_ ?_; focus ((repeat first|assumption|exact m0|apply m1); done)))) (fun _ => rfl) ?_
  intro _
  refine SL.val (Val.to (C := boo false) (Val.neI rfl rfl) (congrArg (fun b => Abs.v (Value.bool b)) (by decide))) rfl rfl ?_
  refine SL.val (Val.pickF rfl rfl) rfl rfl ?_
  refine SL.nil (SE.seq ?_)
  refine SC.condF rfl ?_
  refine SC.skip ?_
  refine SE.seq ?_
  refine SC.seq ?_
  refine SC.seq (SC.region ?_)
  refine SL.val (Val.move rfl) rfl rfl ?_
  refine SL.val (Val.assign rfl) rfl rfl ?_
  refine SL.nil (SE.seq ?_)
  refine SC.block ?_
  have hz0 : (1048576 - (back.toNat : Int) % 12) = (1048576 - (back.toNat : Int) % 12) + ((0 : Nat) : Int) := by omega
  refine SC.loop (ι := Nat) (fun z => [.blk z0.1 51 [int 4, int (1048576 - (back.toNat : Int) % 12), mapV z0.2], .pc (mapPc z0.2 intK ptrV intOk [])]) (fun z => [(1, int seq), (5, ptr z0.1), (6, int (1048576 - (back.toNat : Int) % 12)), (7, int ((1048576 - (back.toNat : Int) % 12) + (z : Nat)))]) (fun z => z ≤ 21) (fun z => 21 - z) (0) ((by omega)) (by exact ⟨rfl, rfl, rfl, congrArg (fun x => some (int x)) hz0, trivial⟩) (by repeat first|exact s0 _|exact s1 _|apply s2|apply s3) ?_
  intro z hz
  refine SC.seq ?_
  refine SC.seq (SC.region ?_)
  refine SL.val (Val.move rfl) rfl rfl ?_
  refine SL.val (Val.move rfl) rfl rfl ?_
  first
    | refine SL.val (Val.addI rfl rfl (by simp only [InR, lo, hi]; omega)) rfl rfl ?_
    | refine SL.val (Val.addW rfl rfl) rfl rfl ?_
  refine SL.val (Val.leI rfl rfl) rfl rfl ?_
  refine SL.nil (SE.seq ?_)
  refine SC.condP rfl ?_ ?_
  rotate_left
  · intro hc30
    refine SC.exit ?_
    refine SE.then_ (by intro h; cases h) ?_
    refine SE.then_ (by intro h; cases h) ?_
    refine SE.exit ?_
    refine SE.seq ?_
    refine SC.seq (SC.region ?_)
    refine SL.val (Val.move rfl) rfl rfl ?_
    refine SL.val (Val.move rfl) rfl rfl ?_
    refine SL.call (wat_out_s (t := z0.1) (b := z0.2) (n := 4) (low := (1048576 - (back.toNat : Int) % 12)) (seq := seq) (m := []) hlow hin) Casts.refl (by kernel_rfl) rfl rfl rfl ?_
    refine After.pure (by repeat (first | exact Reads.nil | (refine Reads.blk ?_ ?_; focus ((repeat first|assumption|exact m0|apply m1); done)) | (refine Reads.rd ?_ ?_; focus ((repeat first|assumption|exact m0|apply m1); done)) | (refine Reads.pc ?_ ?_; focus ((repeat first|assumption|exact m0|apply m1); done)) | (refine Reads.rdpc ?_ ?_; focus ((repeat first|assumption|exact m0|apply m1); done)))) (fun _ => rfl) ?_
    intro _
    refine SL.val (Val.move rfl) rfl rfl ?_
    refine SL.val (Val.extract rfl rfl) rfl rfl ?_
    refine SL.val (Val.extract rfl rfl) rfl rfl ?_
    refine SL.val (Val.assign rfl) rfl rfl ?_
    refine SL.val (Val.assign rfl) rfl rfl ?_
    refine SL.nil (SE.seq ?_)
    refine SC.seq (SC.region ?_)
    refine SL.val (Val.move rfl) rfl rfl ?_
    refine SL.val (Val.to (C := boo false) (Val.eqI rfl rfl) (congrArg (fun b => Abs.v (Value.bool b)) (by decide))) rfl rfl ?_
    refine SL.val (Val.move rfl) rfl rfl ?_
    refine SL.val (Val.move rfl) rfl rfl ?_
    refine SL.call (win_s (t := z0.1) (b := z0.2) (n := 4) (low := (1048576 - (back.toNat : Int) % 12)) (seq := seq) hlow) Casts.refl (by kernel_rfl) rfl rfl rfl ?_
    refine After.pure (by repeat (first | exact Reads.nil | (refine Reads.blk ?_ ?_; focus ((repeat first|assumption|exact m0|apply m1); done)) | (refine Reads.rd ?_ ?_; focus ((repeat first|assumption|exact m0|apply m1); done)) | (refine Reads.pc ?_ ?_; focus ((repeat first|assumption|exact m0|apply m1); done)) | (refine Reads.rdpc ?_ ?_; focus ((repeat first|assumption|exact m0|apply m1); done)))) (fun _ => rfl) ?_
    intro _
    rw [decide_eq_false hin]
    refine SL.val (Val.to (C := boo true) (Val.eqB rfl rfl (by kernel_rfl)) (congrArg (fun b => Abs.v (Value.bool b)) (rfl))) rfl rfl ?_
    refine SL.val (Val.assign rfl) rfl rfl ?_
    refine SL.nil (SE.seq ?_)
    refine SC.ret ?_
    refine SE.fin (rs := [.tmp 4]) rfl (RV.tmp rfl RV.nil) (()) (by repeat first|exact s0 _|exact s1 _|apply s2|apply s3) (by simp [It.rids]) ?_
    exact rfl
  intro hc30
  refine SC.skip ?_
  refine SE.seq ?_
  refine SC.seq ?_
  refine SC.block ?_
  refine SC.seq (SC.region ?_)
  refine SL.val (Val.move rfl) rfl rfl ?_
  refine SL.val (Val.move rfl) rfl rfl ?_
  refine SL.call (win_s (t := z0.1) (b := z0.2) (n := 4) (low := (1048576 - (back.toNat : Int) % 12)) (seq := (1048576 - (back.toNat : Int) % 12) + (z : Nat)) hlow) Casts.refl (by kernel_rfl) rfl rfl rfl ?_
  refine After.pure (by repeat (first | exact Reads.nil | (refine Reads.blk ?_ ?_; focus ((repeat first|assumption|exact m0|apply m1); done)) | (refine Reads.rd ?_ ?_; focus ((repeat first|assumption|exact m0|apply m1); done)) | (refine Reads.pc ?_ ?_; focus ((repeat first|assumption|exact m0|apply m1); done)) | (refine Reads.rdpc ?_ ?_; focus ((repeat first|assumption|exact m0|apply m1); done)))) (fun _ => rfl) ?_
  intro _
  refine SL.val (Val.move rfl) rfl rfl ?_
  refine SL.val (Val.move rfl) rfl rfl ?_
  refine SL.val (Val.gtI rfl rfl) rfl rfl ?_
  refine SL.val (Val.move rfl) rfl rfl ?_
  refine SL.bothP (t := 39) rfl ?_ ?_
  rotate_left
  · intro hc39
    iterate 4 refine SL.skip rfl rfl ?_
    refine SL.val (Val.pickF rfl rfl) rfl rfl ?_
    refine SL.val (Val.move rfl) rfl rfl ?_
    iterate 2 refine SL.skip rfl rfl ?_
    refine SL.val (Val.pickF rfl rfl) rfl rfl ?_
    refine SL.val (Val.to (C := boo false) (Val.neB rfl rfl (by kernel_rfl)) (congrArg (fun b => Abs.v (Value.bool b)) (neb (by
        first
          | (rw [decide_eq_decide]; unfold inW; omega)
          | (refine decide_eq_false ?_; unfold inW; omega))))) rfl rfl ?_
    refine SL.nil (SE.seq ?_)
    refine SC.condF rfl ?_
    refine SC.skip ?_
    refine SE.inBlock ?_
    refine SE.seq ?_
    refine SC.region ?_
    refine SL.val (Val.move rfl) rfl rfl ?_
    refine SL.val (Val.to (C := int ((1048576 - (back.toNat : Int) % 12) + ((z + 1 : Nat) : Int))) (Val.addI rfl rfl (by simp only [InR, lo, hi]; omega)) (congrArg int (by omega))) rfl rfl ?_
    refine SL.val (Val.assign rfl) rfl rfl ?_
    refine SL.nil ?_
    refine SE.round (z + 1) (by first | omega | (dsimp only; omega)) (by first | omega | (dsimp only; omega)) (by exact ⟨rfl, rfl, rfl, rfl, trivial⟩) (by repeat first|exact s0 _|exact s1 _|apply s2|apply s3)
  intro hc39
  refine SL.val (Val.move rfl) rfl rfl ?_
  refine SL.val (Val.move rfl) rfl rfl ?_
  first
    | refine SL.val (Val.addI rfl rfl (by simp only [InR, lo, hi]; omega)) rfl rfl ?_
    | refine SL.val (Val.addW rfl rfl) rfl rfl ?_
  refine SL.val (Val.leI rfl rfl) rfl rfl ?_
  refine SL.val (Val.pickT rfl rfl) rfl rfl ?_
  refine SL.val (Val.move rfl) rfl rfl ?_
  refine SL.bothP (t := 45) rfl ?_ ?_
  · intro hc45
    refine SL.val (Val.move rfl) rfl rfl ?_
    refine SL.val (Val.leI rfl rfl) rfl rfl ?_
    refine SL.val (Val.pickT rfl rfl) rfl rfl ?_
    refine SL.val (Val.to (C := boo false) (Val.neB rfl rfl (by kernel_rfl)) (congrArg (fun b => Abs.v (Value.bool b)) (neb (by
        first
          | (rw [decide_eq_decide]; unfold inW; omega)
          | (refine decide_eq_false ?_; unfold inW; omega))))) rfl rfl ?_
    refine SL.nil (SE.seq ?_)
    refine SC.condF rfl ?_
    refine SC.skip ?_
    refine SE.inBlock ?_
    refine SE.seq ?_
    refine SC.region ?_
    refine SL.val (Val.move rfl) rfl rfl ?_
    refine SL.val (Val.to (C := int ((1048576 - (back.toNat : Int) % 12) + ((z + 1 : Nat) : Int))) (Val.addI rfl rfl (by simp only [InR, lo, hi]; omega)) (congrArg int (by omega))) rfl rfl ?_
    refine SL.val (Val.assign rfl) rfl rfl ?_
    refine SL.nil ?_
    refine SE.round (z + 1) (by first | omega | (dsimp only; omega)) (by first | omega | (dsimp only; omega)) (by exact ⟨rfl, rfl, rfl, rfl, trivial⟩) (by repeat first|exact s0 _|exact s1 _|apply s2|apply s3)
  intro hc45
  iterate 2 refine SL.skip rfl rfl ?_
  refine SL.val (Val.pickF rfl rfl) rfl rfl ?_
  refine SL.val (Val.to (C := boo false) (Val.neB rfl rfl (by kernel_rfl)) (congrArg (fun b => Abs.v (Value.bool b)) (neb (by
      first
        | (rw [decide_eq_decide]; unfold inW; omega)
        | (refine decide_eq_false ?_; unfold inW; omega))))) rfl rfl ?_
  refine SL.nil (SE.seq ?_)
  refine SC.condF rfl ?_
  refine SC.skip ?_
  refine SE.inBlock ?_
  refine SE.seq ?_
  refine SC.region ?_
  refine SL.val (Val.move rfl) rfl rfl ?_
  refine SL.val (Val.to (C := int ((1048576 - (back.toNat : Int) % 12) + ((z + 1 : Nat) : Int))) (Val.addI rfl rfl (by simp only [InR, lo, hi]; omega)) (congrArg int (by omega))) rfl rfl ?_
  refine SL.val (Val.assign rfl) rfl rfl ?_
  refine SL.nil ?_
  refine SE.round (z + 1) (by first | omega | (dsimp only; omega)) (by first | omega | (dsimp only; omega)) (by exact ⟨rfl, rfl, rfl, rfl, trivial⟩) (by repeat first|exact s0 _|exact s1 _|apply s2|apply s3)
theorem wtop_s (hs : intOk seq) : Spec Try.prog 3 [.v (bc back), int seq] [] (fun _ : Unit => []) (fun _ => boo true) := by
  by_cases hi : inW (1048576 - (back.toNat : Int) % 12) seq
  · exact wtopI_s hs hi
  · exact wtopO_s hs hi
end
end Go.Proofs.Ytoifikgnbblbgaa.A
/-
  WindowPlays: the walk.
-/
set_option maxRecDepth 100000
set_option linter.unusedSimpArgs false
set_option linter.unusedVariables false
namespace Go.Proofs.Ytoifikgnbblbgaa.A
open Go.RowKit Go.Maps Go.Sort Go.Shelf

/-- What is asked of a log. -/
structure Act22 where
  kind : UInt8
  seq : Int
  who : Int
  d : Dg
def Act22.ok (a : Act22) : Prop := intOk a.seq ∧ intOk a.who
def a22 (a : Act22) : List Abs := .v (bc a.kind) :: int a.seq :: int a.who :: dgC a.d
theorem a22_len (a : Act22) : (a22 a).length = 35 := by simp [a22, dgC_len]
theorem a22_ones (a : Act22) : ones (a22 a) = true := by
  have h := dgC_ones a.d
  unfold a22
  rw [ones_iff] at h ⊢
  intro x hx
  simp only [List.mem_cons] at hx
  rcases hx with rfl | rfl | rfl | hx
  · rfl
  · rfl
  · rfl
  · exact h x hx
theorem a22_part (a : Act22) : part (a22 a) 3 32 = dgC a.d := by
  unfold part a22
  rw [List.drop_succ_cons, List.drop_succ_cons, List.drop_succ_cons, List.drop_zero, List.take_of_length_le (by rw [dgC_len]; omega)]
theorem a22_le (a : Act22) : 3 + 32 ≤ (a22 a).length := by rw [a22_len]; omega
abbrev acts22 (l : List Act22) : Abs := .sl 35 (l.map a22)
abbrev nilP : Abs := .v (.pointer none)
theorem a22_drop (a : Act22) : part (List.drop 3 (a22 a)) 0 32 = dgC a.d := by
  unfold part a22
  rw [List.drop_succ_cons, List.drop_succ_cons, List.drop_succ_cons, List.drop_zero, List.drop_zero, List.take_of_length_le (by rw [dgC_len]; omega)]
theorem RAtOk.some {low seq : Int} {R : List (Int × RS)} {r : List (Int × RS) × Option RS} (h : RAtOk low R seq r) : (!(Option.map (fun p => (⟨p, 0, none⟩ : Addr)) (Option.map (fun x => x.q) r.2)).isNone) = decide (inW low seq) := by
  by_cases hi : inW low seq
  · obtain ⟨_, s, _, _, e, _⟩ := h.2 hi
    rw [e, decide_eq_true hi]
    rfl
  · rw [(h.1 hi).2, decide_eq_false hi]
    rfl
theorem Casts.of_eq {xs ys : List Abs} (h : xs = ys) : Casts xs ys := h ▸ Casts.refl
theorem ptrs_vote {L1 L2 : List (Int × SD)} {seq n who : Int} {s : SD} {d : Dg} : ptrs (L1 ++ (seq, s.vote n who d) :: L2) = ptrs (L1 ++ (seq, s) :: L2) := by simp [ptrs, SD.vote]
theorem lgC_vote {n low : Int} {R1 R2 : List (Int × RS)} {seq : Int} {s : RS} {ws : List (Int × Dg)} : lgC n low (R1 ++ (seq, ⟨s.q, ws⟩) :: R2) = lgC n low (R1 ++ (seq, s) :: R2) := by simp [lgC]
theorem Re.start {n : Int} {q t : Nat} {cs : List Abs} {M : Pc} : Re [.blk q 39 [int n, int 0, nilS, nilS], .blk t 51 cs, .pc M] [.blk t 51 cs, .pc M, .pc (slsP n []), .blk q 39 (lgC n 0 []), .pc (rslsP n [])] where
  ids := ⟨[], by
    rw [List.perm_iff_count]
    intro a
    simp [mids, It.mids, slsP, rslsP, bigP, List.count_append, List.count_cons]
    omega⟩
  rd := by simp [It.rids]
  hh := fun K w h y hy => by
    simp only [List.mem_cons, List.not_mem_nil, or_false] at hy
    rcases hy with rfl | rfl | rfl | rfl | rfl
    · exact h _ (by simp)
    · exact h _ (by simp)
    · intro d hd; cases hd
    · exact (Re.cast (b := q) (t := 39) (cs := [int n, int 0, nilS, nilS]) (ds := lgC n 0 []) (Casts.keep (Casts.keep (Casts.nils (Casts.nils Casts.refl))))).hh K w (fun x hx => by rw [List.mem_singleton.1 hx]; exact h _ (by simp)) _ (by simp)
    · intro d hd; cases hd
theorem kind3 (c : UInt8) : (c.toNat : Int) % 3 = 0 ∨ (c.toNat : Int) % 3 = 1 ∨ (c.toNat : Int) % 3 = 2 := by omega
section
variable {n seq : Int}
theorem wnewN_s (hn : ¬ (1 ≤ n ∧ n ≤ 7)) : Spec Try.prog 6 [int n] [] (fun _ : Unit => []) (fun _ => nilP) := by
  refine spec_of Try.func6 rfl Try.ntmps6 rfl fun G w => ?_
  refine SC.seq (SC.region ?_)
  refine SL.val (Val.assign rfl) rfl rfl ?_
  refine SL.nil (SE.seq ?_)
  refine SC.seq ?_
  refine SC.seq (SC.region ?_)
  refine SL.val (Val.move rfl) rfl rfl ?_
  refine SL.val (Val.ltI rfl rfl) rfl rfl ?_
  refine SL.val (Val.move rfl) rfl rfl ?_
  refine SL.bothP (t := 5) rfl ?_ ?_
  · intro hc5
    iterate 2 refine SL.skip rfl rfl ?_
    refine SL.val (Val.pickT rfl rfl) rfl rfl ?_
    refine SL.nil (SE.seq ?_)
    refine SC.condT rfl ?_
    refine SC.seq (SC.region ?_)
    refine SL.val (Val.assign rfl) rfl rfl ?_
    refine SL.nil (SE.seq ?_)
    refine SC.ret ?_
    refine SE.then_ (by intro h; cases h) ?_
    refine SE.fin (rs := [.tmp 2]) rfl (RV.tmp rfl RV.nil) (()) (by repeat first|exact s0 _|exact s1 _|apply s2|apply s3) (by simp [It.rids]) ?_
    exact rfl
  intro hc5
  refine SL.val (Val.move rfl) rfl rfl ?_
  refine SL.val (Val.gtI rfl rfl) rfl rfl ?_
  refine SL.val (Val.pickF rfl rfl) rfl rfl ?_
  refine SL.nil (SE.seq ?_)
  refine SC.condP rfl ?_ (by intro hc8; exfalso; omega)
  intro hc8
  refine SC.seq (SC.region ?_)
  refine SL.val (Val.assign rfl) rfl rfl ?_
  refine SL.nil (SE.seq ?_)
  refine SC.ret ?_
  refine SE.then_ (by intro h; cases h) ?_
  refine SE.fin (rs := [.tmp 2]) rfl (RV.tmp rfl RV.nil) (()) (by repeat first|exact s0 _|exact s1 _|apply s2|apply s3) (by simp [It.rids]) ?_
  exact rfl
theorem watN_s  : Spec Try.prog 9 [nilP, int seq] [] (fun _ : Unit => []) (fun _ => .tup [nilP, int 1]) := by
  refine spec_of Try.func9 rfl Try.ntmps9 rfl fun G w => ?_
  refine SC.seq (SC.region ?_)
  refine SL.val (Val.assign rfl) rfl rfl ?_
  refine SL.val (Val.assign rfl) rfl rfl ?_
  refine SL.nil (SE.seq ?_)
  refine SC.seq ?_
  refine SC.block ?_
  refine SC.seq (SC.region ?_)
  refine SL.val (Val.move rfl) rfl rfl ?_
  refine SL.val (Val.eqP rfl rfl (by kernel_rfl)) rfl rfl ?_
  refine SL.val (Val.assign rfl) rfl rfl ?_
  refine SL.nil (SE.seq ?_)
  refine SC.condT rfl ?_
  refine SC.seq (SC.region ?_)
  refine SL.val (Val.assign rfl) rfl rfl ?_
  refine SL.val (Val.assign rfl) rfl rfl ?_
  refine SL.nil (SE.seq ?_)
  refine SC.ret ?_
  refine SE.ret ?_
  refine SE.then_ (by intro h; cases h) ?_
  refine SE.fin (rs := [.tmp 4, .tmp 5]) rfl (RV.tmp rfl (RV.tmp rfl RV.nil)) (()) (by repeat first|exact s0 _|exact s1 _|apply s2|apply s3) (by simp [It.rids]) ?_
  exact rfl
theorem wmoveN_s  : Spec Try.prog 7 [nilP, int seq] [] (fun _ : Unit => []) (fun _ => int 1) := by
  refine spec_of Try.func7 rfl Try.ntmps7 rfl fun G w => ?_
  refine SC.seq (SC.region ?_)
  refine SL.val (Val.assign rfl) rfl rfl ?_
  refine SL.nil (SE.seq ?_)
  refine SC.seq ?_
  refine SC.block ?_
  refine SC.seq (SC.region ?_)
  refine SL.val (Val.move rfl) rfl rfl ?_
  refine SL.val (Val.eqP rfl rfl (by kernel_rfl)) rfl rfl ?_
  refine SL.val (Val.assign rfl) rfl rfl ?_
  refine SL.nil (SE.seq ?_)
  refine SC.condT rfl ?_
  refine SC.seq (SC.region ?_)
  refine SL.val (Val.assign rfl) rfl rfl ?_
  refine SL.nil (SE.seq ?_)
  refine SC.ret ?_
  refine SE.ret ?_
  refine SE.then_ (by intro h; cases h) ?_
  refine SE.fin (rs := [.tmp 4]) rfl (RV.tmp rfl RV.nil) (()) (by repeat first|exact s0 _|exact s1 _|apply s2|apply s3) (by simp [It.rids]) ?_
  exact rfl
theorem winN_s  : Spec Try.prog 8 [nilP, int seq] [] (fun _ : Unit => []) (fun _ => boo false) := by
  refine spec_of Try.func8 rfl Try.ntmps8 rfl fun G w => ?_
  refine SC.seq (SC.region ?_)
  refine SL.val (Val.assign rfl) rfl rfl ?_
  refine SL.nil (SE.seq ?_)
  refine SC.seq (SC.region ?_)
  refine SL.val (Val.move rfl) rfl rfl ?_
  refine SL.val (Val.neP rfl rfl (by kernel_rfl)) rfl rfl ?_
  refine SL.val (Val.move rfl) rfl rfl ?_
  iterate 6 refine SL.skip rfl rfl ?_
  refine SL.val (Val.pickF rfl rfl) rfl rfl ?_
  refine SL.val (Val.move rfl) rfl rfl ?_
  iterate 8 refine SL.skip rfl rfl ?_
  refine SL.val (Val.pickF rfl rfl) rfl rfl ?_
  refine SL.val (Val.assign rfl) rfl rfl ?_
  refine SL.nil (SE.seq ?_)
  refine SC.ret ?_
  refine SE.fin (rs := [.tmp 4]) rfl (RV.tmp rfl RV.nil) (()) (by repeat first|exact s0 _|exact s1 _|apply s2|apply s3) (by simp [It.rids]) ?_
  exact rfl
theorem wclearN_s  : Spec Try.prog 10 [nilP] [] (fun _ : Unit => []) (fun _ => .tup []) := by
  refine spec_of Try.func10 rfl Try.ntmps10 rfl fun G w => ?_
  refine SC.seq (SC.region ?_)
  refine SL.val (Val.move rfl) rfl rfl ?_
  refine SL.val (Val.neP rfl rfl (by kernel_rfl)) rfl rfl ?_
  refine SL.nil (SE.seq ?_)
  refine SC.condF rfl ?_
  refine SC.skip ?_
  refine SE.finN (rs := []) rfl RV.nil (()) (by repeat first|exact s0 _|exact s1 _|apply s2|apply s3) (by simp [It.rids]) ?_
  exact rfl
theorem wlowN_s  : Spec Try.prog 11 [nilP] [] (fun _ : Unit => []) (fun _ => int 0) := by
  refine spec_of Try.func11 rfl Try.ntmps11 rfl fun G w => ?_
  refine SC.seq (SC.region ?_)
  refine SL.val (Val.assign rfl) rfl rfl ?_
  refine SL.nil (SE.seq ?_)
  refine SC.seq ?_
  refine SC.seq (SC.region ?_)
  refine SL.val (Val.move rfl) rfl rfl ?_
  refine SL.val (Val.eqP rfl rfl (by kernel_rfl)) rfl rfl ?_
  refine SL.nil (SE.seq ?_)
  refine SC.condT rfl ?_
  refine SC.seq (SC.region ?_)
  refine SL.val (Val.assign rfl) rfl rfl ?_
  refine SL.nil (SE.seq ?_)
  refine SC.ret ?_
  refine SE.then_ (by intro h; cases h) ?_
  refine SE.fin (rs := [.tmp 2]) rfl (RV.tmp rfl RV.nil) (()) (by repeat first|exact s0 _|exact s1 _|apply s2|apply s3) (by simp [It.rids]) ?_
  exact rfl
theorem wseqsN_s  : Spec Try.prog 12 [nilP] [] (fun _ : Unit => []) (fun _ => nilS) := by
  refine spec_of Try.func12 rfl Try.ntmps12 rfl fun G w => ?_
  refine SC.seq (SC.region ?_)
  refine SL.val (Val.assign rfl) rfl rfl ?_
  refine SL.nil (SE.seq ?_)
  refine SC.seq ?_
  refine SC.seq (SC.region ?_)
  refine SL.val (Val.move rfl) rfl rfl ?_
  refine SL.val (Val.eqP rfl rfl (by kernel_rfl)) rfl rfl ?_
  refine SL.nil (SE.seq ?_)
  refine SC.condT rfl ?_
  refine SC.seq (SC.region ?_)
  refine SL.val (Val.assign rfl) rfl rfl ?_
  refine SL.nil (SE.seq ?_)
  refine SC.ret ?_
  refine SE.then_ (by intro h; cases h) ?_
  refine SE.fin (rs := [.tmp 2]) rfl (RV.tmp rfl RV.nil) (()) (by repeat first|exact s0 _|exact s1 _|apply s2|apply s3) (by simp [It.rids]) ?_
  exact rfl
end
section
variable {n : Int} {l : List Act22}
set_option maxHeartbeats 1000000 in
theorem wplaysN_s (hn : ¬ (1 ≤ n ∧ n ≤ 7)) : Spec Try.prog 4 [int n, acts22 l] [] (fun _ : Unit => []) (fun _ => boo true) := by
  refine spec_of Try.func4 rfl Try.ntmps4 rfl fun G w => ?_
  refine SC.seq (SC.region ?_)
  refine SL.val (Val.assign rfl) rfl rfl ?_
  refine SL.nil (SE.seq ?_)
  refine SC.seq ?_
  refine SC.seq (SC.region ?_)
  refine SL.call (fixed22_s) Casts.refl (by kernel_rfl) rfl rfl rfl ?_
  refine After.pure (by repeat first|exact .nil|refine .blk (by repeat first|assumption|exact m0|apply m1) ?_|refine .rd (by repeat first|assumption|exact m0|apply m1) ?_|refine .pc (by repeat first|assumption|exact m0|apply m1) ?_|refine .rdpc (by repeat first|assumption|exact m0|apply m1) ?_) (fun _ => rfl) ?_
  intro _
  refine SL.val (Val.notT rfl) rfl rfl ?_
  refine SL.nil (SE.seq ?_)
  refine SC.condF rfl ?_
  refine SC.skip ?_
  refine SE.seq ?_
  refine SC.seq ?_
  refine SC.seq (SC.region ?_)
  refine SL.val (Val.move rfl) rfl rfl ?_
  first
    | refine SL.val (Val.lenSl rfl Try.underlying32 (List.length_map _)) rfl rfl ?_
    | refine SL.val (Val.lenOwn rfl (by repeat first|assumption|exact m0|apply m1) Try.underlying32 (List.length_map _)) rfl rfl ?_
    | refine SL.val (Val.lenNil rfl Try.underlying32) rfl rfl ?_
  refine SL.val (Val.gtI rfl rfl) rfl rfl ?_
  refine SL.nil (SE.seq ?_)
  refine SC.condP rfl ?_ ?_
  · intro hc18
    refine SC.seq (SC.region ?_)
    refine SL.val (Val.assign rfl) rfl rfl ?_
    refine SL.nil (SE.seq ?_)
    refine SC.ret ?_
    refine SE.then_ (by intro h; cases h) ?_
    refine SE.fin (rs := [.tmp 4]) rfl (RV.tmp rfl RV.nil) (()) (by repeat first|exact s0 _|exact s1 _|apply s2|apply s3) (by simp [It.rids]) ?_
    exact rfl
  intro hc18
  refine SC.skip ?_
  refine SE.seq ?_
  refine SC.seq (SC.region ?_)
  refine SL.val (Val.move rfl) rfl rfl ?_
  refine SL.call (wnewN_s hn) Casts.refl (by kernel_rfl) rfl rfl rfl ?_
  refine After.pure (by repeat first|exact .nil|refine .blk (by repeat first|assumption|exact m0|apply m1) ?_|refine .rd (by repeat first|assumption|exact m0|apply m1) ?_|refine .pc (by repeat first|assumption|exact m0|apply m1) ?_|refine .rdpc (by repeat first|assumption|exact m0|apply m1) ?_) (fun _ => rfl) ?_
  intro _
  refine SL.val (Val.assign rfl) rfl rfl ?_
  refine SL.nil (SE.seq ?_)
  refine SC.seq ?_
  refine SC.seq (SC.region ?_)
  refine SL.val (Val.move rfl) rfl rfl ?_
  refine SL.val (Val.ltI rfl rfl) rfl rfl ?_
  refine SL.val (Val.move rfl) rfl rfl ?_
  refine SL.bothP (t := 23) rfl ?_ ?_
  · intro hc23
    iterate 2 refine SL.skip rfl rfl ?_
    refine SL.val (Val.pickT rfl rfl) rfl rfl ?_
    refine SL.nil (SE.seq ?_)
    refine SC.condT rfl ?_
    refine SC.seq (SC.region ?_)
    refine SL.val (Val.move rfl) rfl rfl ?_
    refine SL.call (watN_s (seq := 1)) Casts.refl (by kernel_rfl) rfl rfl rfl ?_
    refine After.pure (by repeat first|exact .nil|refine .blk (by repeat first|assumption|exact m0|apply m1) ?_|refine .rd (by repeat first|assumption|exact m0|apply m1) ?_|refine .pc (by repeat first|assumption|exact m0|apply m1) ?_|refine .rdpc (by repeat first|assumption|exact m0|apply m1) ?_) (fun _ => rfl) ?_
    intro _
    refine SL.val (Val.move rfl) rfl rfl ?_
    refine SL.val (Val.extract rfl rfl) rfl rfl ?_
    refine SL.val (Val.extract rfl rfl) rfl rfl ?_
    refine SL.val (Val.assign rfl) rfl rfl ?_
    refine SL.val (Val.assign rfl) rfl rfl ?_
    refine SL.nil (SE.seq ?_)
    refine SC.seq (SC.region ?_)
    refine SL.val (Val.move rfl) rfl rfl ?_
    refine SL.call (wclearN_s) Casts.refl (by kernel_rfl) rfl rfl rfl ?_
    refine After.pure (by repeat first|exact .nil|refine .blk (by repeat first|assumption|exact m0|apply m1) ?_|refine .rd (by repeat first|assumption|exact m0|apply m1) ?_|refine .pc (by repeat first|assumption|exact m0|apply m1) ?_|refine .rdpc (by repeat first|assumption|exact m0|apply m1) ?_) (fun _ => rfl) ?_
    intro _
    refine SL.nil (SE.seq ?_)
    refine SC.seq (SC.region ?_)
    refine SL.val (Val.move rfl) rfl rfl ?_
    refine SL.val (Val.eqP rfl rfl (by kernel_rfl)) rfl rfl ?_
    refine SL.val (Val.move rfl) rfl rfl ?_
    refine SL.val (Val.move rfl) rfl rfl ?_
    refine SL.val (Val.to (C := boo true) (Val.eqI rfl rfl) (congrArg (fun b => Abs.v (Value.bool b)) (rfl))) rfl rfl ?_
    refine SL.val (Val.pickT rfl rfl) rfl rfl ?_
    refine SL.val (Val.move rfl) rfl rfl ?_
    refine SL.val (Val.move rfl) rfl rfl ?_
    refine SL.call (wmoveN_s (seq := 4)) Casts.refl (by kernel_rfl) rfl rfl rfl ?_
    refine After.pure (by repeat first|exact .nil|refine .blk (by repeat first|assumption|exact m0|apply m1) ?_|refine .rd (by repeat first|assumption|exact m0|apply m1) ?_|refine .pc (by repeat first|assumption|exact m0|apply m1) ?_|refine .rdpc (by repeat first|assumption|exact m0|apply m1) ?_) (fun _ => rfl) ?_
    intro _
    refine SL.val (Val.to (C := boo true) (Val.eqI rfl rfl) (congrArg (fun b => Abs.v (Value.bool b)) (rfl))) rfl rfl ?_
    refine SL.val (Val.pickT rfl rfl) rfl rfl ?_
    refine SL.val (Val.move rfl) rfl rfl ?_
    refine SL.val (Val.move rfl) rfl rfl ?_
    refine SL.call (winN_s (seq := 1)) Casts.refl (by kernel_rfl) rfl rfl rfl ?_
    refine After.pure (by repeat first|exact .nil|refine .blk (by repeat first|assumption|exact m0|apply m1) ?_|refine .rd (by repeat first|assumption|exact m0|apply m1) ?_|refine .pc (by repeat first|assumption|exact m0|apply m1) ?_|refine .rdpc (by repeat first|assumption|exact m0|apply m1) ?_) (fun _ => rfl) ?_
    intro _
    refine SL.val (Val.notF rfl) rfl rfl ?_
    refine SL.val (Val.pickT rfl rfl) rfl rfl ?_
    refine SL.val (Val.move rfl) rfl rfl ?_
    refine SL.val (Val.move rfl) rfl rfl ?_
    refine SL.call (wlowN_s) Casts.refl (by kernel_rfl) rfl rfl rfl ?_
    refine After.pure (by repeat first|exact .nil|refine .blk (by repeat first|assumption|exact m0|apply m1) ?_|refine .rd (by repeat first|assumption|exact m0|apply m1) ?_|refine .pc (by repeat first|assumption|exact m0|apply m1) ?_|refine .rdpc (by repeat first|assumption|exact m0|apply m1) ?_) (fun _ => rfl) ?_
    intro _
    refine SL.val (Val.to (C := boo true) (Val.eqI rfl rfl) (congrArg (fun b => Abs.v (Value.bool b)) (rfl))) rfl rfl ?_
    refine SL.val (Val.pickT rfl rfl) rfl rfl ?_
    refine SL.val (Val.move rfl) rfl rfl ?_
    refine SL.val (Val.move rfl) rfl rfl ?_
    refine SL.call (wseqsN_s) Casts.refl (by kernel_rfl) rfl rfl rfl ?_
    refine After.pure (by repeat first|exact .nil|refine .blk (by repeat first|assumption|exact m0|apply m1) ?_|refine .rd (by repeat first|assumption|exact m0|apply m1) ?_|refine .pc (by repeat first|assumption|exact m0|apply m1) ?_|refine .rdpc (by repeat first|assumption|exact m0|apply m1) ?_) (fun _ => rfl) ?_
    intro _
    refine SL.val (Val.lenNil rfl Try.underlying34) rfl rfl ?_
    refine SL.val (Val.to (C := boo true) (Val.eqI rfl rfl) (congrArg (fun b => Abs.v (Value.bool b)) (rfl))) rfl rfl ?_
    refine SL.val (Val.pickT rfl rfl) rfl rfl ?_
    refine SL.val (Val.assign rfl) rfl rfl ?_
    refine SL.nil (SE.seq ?_)
    refine SC.ret ?_
    refine SE.then_ (by intro h; cases h) ?_
    refine SE.fin (rs := [.tmp 4]) rfl (RV.tmp rfl RV.nil) (()) (by repeat first|exact s0 _|exact s1 _|apply s2|apply s3) (by simp [It.rids]) ?_
    exact rfl
  intro hc23
  refine SL.val (Val.move rfl) rfl rfl ?_
  refine SL.val (Val.gtI rfl rfl) rfl rfl ?_
  refine SL.val (Val.pickF rfl rfl) rfl rfl ?_
  refine SL.nil (SE.seq ?_)
  refine SC.condP rfl ?_ (by intro hc26; exfalso; omega)
  intro hc26
  refine SC.seq (SC.region ?_)
  refine SL.val (Val.move rfl) rfl rfl ?_
  refine SL.call (watN_s (seq := 1)) Casts.refl (by kernel_rfl) rfl rfl rfl ?_
  refine After.pure (by repeat first|exact .nil|refine .blk (by repeat first|assumption|exact m0|apply m1) ?_|refine .rd (by repeat first|assumption|exact m0|apply m1) ?_|refine .pc (by repeat first|assumption|exact m0|apply m1) ?_|refine .rdpc (by repeat first|assumption|exact m0|apply m1) ?_) (fun _ => rfl) ?_
  intro _
  refine SL.val (Val.move rfl) rfl rfl ?_
  refine SL.val (Val.extract rfl rfl) rfl rfl ?_
  refine SL.val (Val.extract rfl rfl) rfl rfl ?_
  refine SL.val (Val.assign rfl) rfl rfl ?_
  refine SL.val (Val.assign rfl) rfl rfl ?_
  refine SL.nil (SE.seq ?_)
  refine SC.seq (SC.region ?_)
  refine SL.val (Val.move rfl) rfl rfl ?_
  refine SL.call (wclearN_s) Casts.refl (by kernel_rfl) rfl rfl rfl ?_
  refine After.pure (by repeat first|exact .nil|refine .blk (by repeat first|assumption|exact m0|apply m1) ?_|refine .rd (by repeat first|assumption|exact m0|apply m1) ?_|refine .pc (by repeat first|assumption|exact m0|apply m1) ?_|refine .rdpc (by repeat first|assumption|exact m0|apply m1) ?_) (fun _ => rfl) ?_
  intro _
  refine SL.nil (SE.seq ?_)
  refine SC.seq (SC.region ?_)
  refine SL.val (Val.move rfl) rfl rfl ?_
  refine SL.val (Val.eqP rfl rfl (by kernel_rfl)) rfl rfl ?_
  refine SL.val (Val.move rfl) rfl rfl ?_
  refine SL.val (Val.move rfl) rfl rfl ?_
  refine SL.val (Val.to (C := boo true) (Val.eqI rfl rfl) (congrArg (fun b => Abs.v (Value.bool b)) (rfl))) rfl rfl ?_
  refine SL.val (Val.pickT rfl rfl) rfl rfl ?_
  refine SL.val (Val.move rfl) rfl rfl ?_
  refine SL.val (Val.move rfl) rfl rfl ?_
  refine SL.call (wmoveN_s (seq := 4)) Casts.refl (by kernel_rfl) rfl rfl rfl ?_
  refine After.pure (by repeat first|exact .nil|refine .blk (by repeat first|assumption|exact m0|apply m1) ?_|refine .rd (by repeat first|assumption|exact m0|apply m1) ?_|refine .pc (by repeat first|assumption|exact m0|apply m1) ?_|refine .rdpc (by repeat first|assumption|exact m0|apply m1) ?_) (fun _ => rfl) ?_
  intro _
  refine SL.val (Val.to (C := boo true) (Val.eqI rfl rfl) (congrArg (fun b => Abs.v (Value.bool b)) (rfl))) rfl rfl ?_
  refine SL.val (Val.pickT rfl rfl) rfl rfl ?_
  refine SL.val (Val.move rfl) rfl rfl ?_
  refine SL.val (Val.move rfl) rfl rfl ?_
  refine SL.call (winN_s (seq := 1)) Casts.refl (by kernel_rfl) rfl rfl rfl ?_
  refine After.pure (by repeat first|exact .nil|refine .blk (by repeat first|assumption|exact m0|apply m1) ?_|refine .rd (by repeat first|assumption|exact m0|apply m1) ?_|refine .pc (by repeat first|assumption|exact m0|apply m1) ?_|refine .rdpc (by repeat first|assumption|exact m0|apply m1) ?_) (fun _ => rfl) ?_
  intro _
  refine SL.val (Val.notF rfl) rfl rfl ?_
  refine SL.val (Val.pickT rfl rfl) rfl rfl ?_
  refine SL.val (Val.move rfl) rfl rfl ?_
  refine SL.val (Val.move rfl) rfl rfl ?_
  refine SL.call (wlowN_s) Casts.refl (by kernel_rfl) rfl rfl rfl ?_
  refine After.pure (by repeat first|exact .nil|refine .blk (by repeat first|assumption|exact m0|apply m1) ?_|refine .rd (by repeat first|assumption|exact m0|apply m1) ?_|refine .pc (by repeat first|assumption|exact m0|apply m1) ?_|refine .rdpc (by repeat first|assumption|exact m0|apply m1) ?_) (fun _ => rfl) ?_
  intro _
  refine SL.val (Val.to (C := boo true) (Val.eqI rfl rfl) (congrArg (fun b => Abs.v (Value.bool b)) (rfl))) rfl rfl ?_
  refine SL.val (Val.pickT rfl rfl) rfl rfl ?_
  refine SL.val (Val.move rfl) rfl rfl ?_
  refine SL.val (Val.move rfl) rfl rfl ?_
  refine SL.call (wseqsN_s) Casts.refl (by kernel_rfl) rfl rfl rfl ?_
  refine After.pure (by repeat first|exact .nil|refine .blk (by repeat first|assumption|exact m0|apply m1) ?_|refine .rd (by repeat first|assumption|exact m0|apply m1) ?_|refine .pc (by repeat first|assumption|exact m0|apply m1) ?_|refine .rdpc (by repeat first|assumption|exact m0|apply m1) ?_) (fun _ => rfl) ?_
  intro _
  refine SL.val (Val.lenNil rfl Try.underlying34) rfl rfl ?_
  refine SL.val (Val.to (C := boo true) (Val.eqI rfl rfl) (congrArg (fun b => Abs.v (Value.bool b)) (rfl))) rfl rfl ?_
  refine SL.val (Val.pickT rfl rfl) rfl rfl ?_
  refine SL.val (Val.assign rfl) rfl rfl ?_
  refine SL.nil (SE.seq ?_)
  refine SC.ret ?_
  refine SE.then_ (by intro h; cases h) ?_
  refine SE.fin (rs := [.tmp 4]) rfl (RV.tmp rfl RV.nil) (()) (by repeat first|exact s0 _|exact s1 _|apply s2|apply s3) (by simp [It.rids]) ?_
  exact rfl
set_option maxHeartbeats 8000000 in
theorem wplaysK_s (hn : 1 ≤ n ∧ n ≤ 7) (hacts : ∀ a ∈ l, a.ok) : Spec Try.prog 4 [int n, acts22 l] [] (fun _ : Unit => []) (fun _ => boo true) := by
  refine spec_of Try.func4 rfl Try.ntmps4 rfl fun G w => ?_
  refine SC.seq (SC.region ?_)
  refine SL.val (Val.assign rfl) rfl rfl ?_
  refine SL.nil (SE.seq ?_)
  refine SC.seq ?_
  refine SC.seq (SC.region ?_)
  refine SL.call (fixed22_s) Casts.refl (by kernel_rfl) rfl rfl rfl ?_
  refine After.pure (by repeat first|exact .nil|refine .blk (by repeat first|assumption|exact m0|apply m1) ?_|refine .rd (by repeat first|assumption|exact m0|apply m1) ?_|refine .pc (by repeat first|assumption|exact m0|apply m1) ?_|refine .rdpc (by repeat first|assumption|exact m0|apply m1) ?_) (fun _ => rfl) ?_
  intro _
  refine SL.val (Val.notT rfl) rfl rfl ?_
  refine SL.nil (SE.seq ?_)
  refine SC.condF rfl ?_
  refine SC.skip ?_
  refine SE.seq ?_
  refine SC.seq ?_
  refine SC.seq (SC.region ?_)
  refine SL.val (Val.move rfl) rfl rfl ?_
  first
    | refine SL.val (Val.lenSl rfl Try.underlying32 (List.length_map _)) rfl rfl ?_
    | refine SL.val (Val.lenOwn rfl (by repeat first|assumption|exact m0|apply m1) Try.underlying32 (List.length_map _)) rfl rfl ?_
    | refine SL.val (Val.lenNil rfl Try.underlying32) rfl rfl ?_
  refine SL.val (Val.gtI rfl rfl) rfl rfl ?_
  refine SL.nil (SE.seq ?_)
  refine SC.condP rfl ?_ ?_
  · intro hc18
    refine SC.seq (SC.region ?_)
    refine SL.val (Val.assign rfl) rfl rfl ?_
    refine SL.nil (SE.seq ?_)
    refine SC.ret ?_
    refine SE.then_ (by intro h; cases h) ?_
    refine SE.fin (rs := [.tmp 4]) rfl (RV.tmp rfl RV.nil) (()) (by repeat first|exact s0 _|exact s1 _|apply s2|apply s3) (by simp [It.rids]) ?_
    exact rfl
  intro hc18
  refine SC.skip ?_
  refine SE.seq ?_
  refine SC.seq (SC.region ?_)
  refine SL.val (Val.move rfl) rfl rfl ?_
  refine SL.call (wnew_s (n := n) hn) Casts.refl (by kernel_rfl) rfl rfl rfl ?_
  refine After.make2 (by repeat first|exact .nil|refine .blk (by repeat first|assumption|exact m0|apply m1) ?_|refine .rd (by repeat first|assumption|exact m0|apply m1) ?_|refine .pc (by repeat first|assumption|exact m0|apply m1) ?_|refine .rdpc (by repeat first|assumption|exact m0|apply m1) ?_) (fun _ => rfl) ?_
  intro z0
  refine SL.val (Val.assign rfl) rfl rfl ?_
  refine SL.nil (SE.seq ?_)
  refine SC.seq ?_
  refine SC.seq (SC.region ?_)
  refine SL.val (Val.move rfl) rfl rfl ?_
  refine SL.val (Val.ltI rfl rfl) rfl rfl ?_
  refine SL.val (Val.move rfl) rfl rfl ?_
  refine SL.bothP (t := 23) rfl (by intro hc23; exfalso; omega) ?_
  intro hc23
  refine SL.val (Val.move rfl) rfl rfl ?_
  refine SL.val (Val.gtI rfl rfl) rfl rfl ?_
  refine SL.val (Val.pickF rfl rfl) rfl rfl ?_
  refine SL.nil (SE.seq ?_)
  refine SC.condP rfl (by intro hc26; exfalso; omega) ?_
  intro hc26
  refine SC.skip ?_
  refine SE.seq ?_
  refine SC.seq (SC.region ?_)
  refine SL.val (Val.move rfl) rfl rfl ?_
  refine SL.val (Val.buildS (L := [int n, int 0, nilS, nilS]) tabOk rfl rfl rfl rfl) rfl rfl ?_
  refine SL.eff (Eff.boxA rfl) rfl rfl ?_
  rintro _ _ ⟨b63, rfl, rfl⟩
  refine SL.val (Val.assign rfl) rfl rfl ?_
  refine SL.nil (SE.seq ?_)
  refine SC.seq ?_
  refine SC.seq (SC.region ?_)
  refine SL.val (Val.move rfl) rfl rfl ?_
  first
    | refine SL.val (Val.lenSl rfl Try.underlying32 (List.length_map _)) rfl rfl ?_
    | refine SL.val (Val.lenOwn rfl (by repeat first|assumption|exact m0|apply m1) Try.underlying32 (List.length_map _)) rfl rfl ?_
    | refine SL.val (Val.lenNil rfl Try.underlying32) rfl rfl ?_
  refine SL.val (Val.move rfl) rfl rfl ?_
  refine SL.nil (SE.seq ?_)
  refine SC.block ?_
  refine SC.re [] (β := []) Re.start rfl ?_
  refine SC.loop (ι := Nat × Int × List (Int × SD) × List (Int × RS)) (fun y => [.blk z0.1 51 [int n, int y.2.1, mapV z0.2], .pc (mapPc z0.2 intK ptrV intOk (ptrs y.2.2.1)), .pc (slsP n y.2.2.1), .blk b63 39 (lgC n y.2.1 y.2.2.2), .pc (rslsP n y.2.2.2)]) (fun y => [(0, int n), (5, ptr z0.1), (8, ptr b63), (64, acts22 l), (65, int (l.length : Nat)), (66, int (y.1 : Nat))]) (fun y => y.1 ≤ l.length ∧ Lg y.1 y.2.1 y.2.2.1 y.2.2.2) (fun y => l.length - y.1) (0, 0, [], []) (⟨Nat.zero_le _, Lg.nil low0⟩) (by exact ⟨rfl, rfl, rfl, rfl, rfl, rfl, trivial⟩) (by repeat first|exact s0 _|exact s1 _|apply s2|apply s3) ?_
  intro y hy
  refine SC.seq (SC.region ?_)
  refine SL.val (Val.ltI rfl rfl) rfl rfl ?_
  refine SL.nil (SE.seq ?_)
  refine SC.seq ?_
  refine SC.condP rfl ?_ ?_
  rotate_left
  · intro hc67
    refine SC.exit ?_
    refine SE.then_ (by intro h; cases h) ?_
    refine SE.then_ (by intro h; cases h) ?_
    refine SE.exit ?_
    refine SE.seq ?_
    refine SC.seq (SC.region ?_)
    refine SL.val (Val.assign rfl) rfl rfl ?_
    refine SL.nil (SE.seq ?_)
    refine SC.ret ?_
    refine SE.fin (rs := [.tmp 4]) rfl (RV.tmp rfl RV.nil) (()) (by repeat first|exact s0 _|exact s1 _|apply s2|apply s3) (by simp [It.rids]) ?_
    exact rfl
  intro hc67
  have hlt : y.1 < l.length := by omega
  have hok := hacts _ (List.getElem_mem hlt)
  have hk := kind3 (l[y.1]'hlt).kind
  have hRl := hy.2.len
  have hLf := hy.2.few
  refine SC.skip ?_
  refine SE.seq ?_
  refine SC.seq ?_
  refine SC.block ?_
  refine SC.seq (SC.region ?_)
  refine SL.val (Val.indexSl tabOk Try.underlying32 rfl rfl rfl rfl (at_map (by omega)) rfl rfl) rfl rfl ?_
  refine SL.val (Val.loadAR tabOk rfl rfl rfl (a22_len _)) rfl rfl ?_
  refine SL.eff (Eff.alloc tabOk rfl) rfl rfl ?_
  rintro _ _ ⟨b10, rfl, rfl⟩
  refine SL.eff (Eff.store (L' := a22 (l[y.1]'hlt)) tabOk rfl rfl rfl (by repeat first|assumption|exact Upd.here|apply Upd.there) (by exact a22_len _) (Nat.le_of_ble_eq_true (by rfl)) (by exact a22_ones _) (putL_whole (by exact a22_len _))) rfl rfl ?_
  rintro _ _ ⟨rfl, rfl⟩
  refine SL.nil (SE.seq ?_)
  refine SC.cutS (ι := Int × List (Int × SD) × List (Int × RS)) (fun z => [.blk z0.1 51 [int n, int z.1, mapV z0.2], .pc (mapPc z0.2 intK ptrV intOk (ptrs z.2.1)), .pc (slsP n z.2.1), .blk b63 39 (lgC n z.1 z.2.2), .pc (rslsP n z.2.2)]) (fun z => [(0, int n), (5, ptr z0.1), (8, ptr b63), (10, .rp (a22 (l[y.1]'hlt))), (64, acts22 l), (65, int (l.length : Nat)), (66, int (y.1 : Nat))]) (fun z => Lg (y.1 + 1) z.1 z.2.1 z.2.2) ?_ ?_
  · skip
    refine SC.seq ?_
    refine SC.freezeB [] (i := 10) rfl rfl ?_
    refine SC.region ?_
    refine SL.val (Val.fieldAddrR tabOk rfl rfl rfl rfl rfl) rfl rfl ?_
    refine SL.val (Val.to (C := .v (bc (l[y.1]'hlt).kind)) (Val.load1R tabOk rfl rfl rfl) rfl) rfl rfl ?_
    refine SL.val (Val.to (C := .v (.int .u8 (((l[y.1]'hlt).kind.toNat : Int) % 3))) (Val.remI rfl rfl (by omega)) rfl) rfl rfl ?_
    refine SL.nil (SE.seq ?_)
    refine SC.block ?_
    refine SC.seq (SC.region ?_)
    refine SL.val (Val.eqI rfl rfl) rfl rfl ?_
    refine SL.val (Val.assign rfl) rfl rfl ?_
    refine SL.nil (SE.seq ?_)
    refine SC.condP rfl ?_ ?_
    rotate_left
    · intro hc73
      refine SC.seq (SC.region ?_)
      refine SL.val (Val.eqI rfl rfl) rfl rfl ?_
      refine SL.val (Val.assign rfl) rfl rfl ?_
      refine SL.nil (SE.seq ?_)
      refine SC.condP rfl ?_ ?_
      · intro hc118
        refine SC.seq ?_
        refine SC.draw (mids [.blk z0.1 51 [int n, int y.2.1, mapV z0.2], .pc (mapPc z0.2 intK ptrV intOk (ptrs y.2.2.1)), .pc (slsP n y.2.2.1), .blk b63 39 (lgC n y.2.1 y.2.2.2), .pc (rslsP n y.2.2.2)]) (.q 0 (.q 1 (.q 2 (.q 4 (.q 5 (.q 6 (.e 3 (.e 7 (.q 8 .nil))))))))) (by kernel_rfl) (by kernel_rfl) ?_
        refine SX.val rfl (Val.move rfl) (by first | exact mids_head | (simp [mids, It.mids, ownPc, mapPc]; done) | (intro k hk; simp [mids, It.mids, ownPc, mapPc, mapAtPc] at hk ⊢; grind)) rfl rfl ?_
        refine SX.val rfl (Val.fieldAddrR tabOk rfl rfl rfl rfl rfl) (by first | exact mids_head | (simp [mids, It.mids, ownPc, mapPc]; done) | (intro k hk; simp [mids, It.mids, ownPc, mapPc, mapAtPc] at hk ⊢; grind)) rfl rfl ?_
        refine SX.val rfl (Val.to (C := int (l[y.1]'hlt).seq) (Val.load1R tabOk rfl rfl rfl) rfl) (by first | exact mids_head | (simp [mids, It.mids, ownPc, mapPc]; done) | (intro k hk; simp [mids, It.mids, ownPc, mapPc, mapAtPc] at hk ⊢; grind)) rfl rfl ?_
        refine SX.val rfl (Val.move rfl) (by first | exact mids_head | (simp [mids, It.mids, ownPc, mapPc]; done) | (intro k hk; simp [mids, It.mids, ownPc, mapPc, mapAtPc] at hk ⊢; grind)) rfl rfl ?_
        refine SX.val rfl (Val.fieldAddrR tabOk rfl rfl rfl rfl rfl) (by first | exact mids_head | (simp [mids, It.mids, ownPc, mapPc]; done) | (intro k hk; simp [mids, It.mids, ownPc, mapPc, mapAtPc] at hk ⊢; grind)) rfl rfl ?_
        refine SX.val rfl (Val.to (C := int (l[y.1]'hlt).seq) (Val.load1R tabOk rfl rfl rfl) rfl) (by first | exact mids_head | (simp [mids, It.mids, ownPc, mapPc]; done) | (intro k hk; simp [mids, It.mids, ownPc, mapPc, mapAtPc] at hk ⊢; grind)) rfl rfl ?_
        refine SX.callX (mids [.blk b63 39 (lgC n y.2.1 y.2.2.2), .pc (rslsP n y.2.2.2)]) rfl (wmoveT_s (t := z0.1) (b := z0.2) (n := n) (low := y.2.1) (L := y.2.2.1) (seq := (l[y.1]'hlt).seq) hy.2.intOk) (by intro k hk; simp only [mids, List.flatMap_cons, List.flatMap_nil, List.append_nil, It.mids, List.mem_append, List.not_mem_nil, List.mem_cons, or_false] at hk ⊢ <;> first | exact hk | exact .inl hk | exact .inr hk | (rcases hk with hk | hk | hk <;> simp [hk]; done) | (rcases hk with hk | hk <;> simp [hk]; done)) (by intro k hk; simp only [mids, List.flatMap_cons, List.flatMap_nil, List.append_nil, It.mids, List.mem_append, List.not_mem_nil, List.mem_cons, or_false] at hk ⊢ <;> first | exact hk | exact .inl hk | exact .inr hk | (rcases hk with hk | hk | hk <;> simp [hk]; done) | (rcases hk with hk | hk <;> simp [hk]; done)) Casts.refl (by kernel_rfl) rfl rfl rfl ?_
        refine After.mid [] (β := [_, _]) rfl (by intro x hx; simp only [List.mem_cons, List.not_mem_nil, or_false] at hx; rcases hx with rfl | rfl | rfl <;> rfl) ?_
        intro _
        refine SX.callX ([]) rfl (rmoveT_s (q := b63) (n := n) (low := y.2.1) (R := y.2.2.2) (seq := (l[y.1]'hlt).seq) hy.2.rise (by omega)) (by intro k hk; simp only [mids, List.flatMap_cons, List.flatMap_nil, List.append_nil, It.mids, List.mem_append, List.not_mem_nil, List.mem_cons, or_false] at hk ⊢ <;> first | exact hk | exact .inl hk | exact .inr hk | (rcases hk with hk | hk | hk <;> simp [hk]; done) | (rcases hk with hk | hk <;> simp [hk]; done)) (by intro k hk; simp only [mids, List.flatMap_cons, List.flatMap_nil, List.append_nil, It.mids, List.mem_append, List.not_mem_nil, List.mem_cons, or_false] at hk ⊢ <;> first | exact hk | exact .inl hk | exact .inr hk | (rcases hk with hk | hk | hk <;> simp [hk]; done) | (rcases hk with hk | hk <;> simp [hk]; done)) Casts.refl (by kernel_rfl) rfl rfl rfl ?_
        refine After.mid [_, _, _] (β := []) rfl (by intro x hx; simp only [List.mem_cons, List.not_mem_nil, or_false] at hx; rcases hx with rfl | rfl <;> rfl) ?_
        intro _
        refine SX.val rfl (Val.to (C := boo false) (Val.neI rfl rfl) (congrArg (fun b => Abs.v (Value.bool b)) (decide_eq_false (by simp)))) (by first | exact mids_head | (simp [mids, It.mids, ownPc, mapPc]; done) | (intro k hk; simp [mids, It.mids, ownPc, mapPc, mapAtPc] at hk ⊢; grind)) rfl rfl ?_
        refine SX.nil (SE.seq ?_)
        refine SC.condF rfl ?_
        refine SC.skip ?_
        refine SE.inBlock ?_
        refine SE.meet (mvW y.2.1 (l[y.1]'hlt).seq, mvL y.2.1 (l[y.1]'hlt).seq y.2.2.1, mvL y.2.1 (l[y.1]'hlt).seq y.2.2.2) (hy.2.move (l[y.1]'hlt).seq) (by exact ⟨rfl, rfl, rfl, rfl, rfl, rfl, rfl, trivial⟩) (by repeat first|exact s0 _|exact s1 _|apply s2|apply s3)
      intro hc118
      refine SC.seq (SC.region ?_)
      refine SL.val (Val.eqI rfl rfl) rfl rfl ?_
      refine SL.val (Val.assign rfl) rfl rfl ?_
      refine SL.nil (SE.seq ?_)
      refine SC.condP rfl ?_ (by intro hc129; exfalso; omega)
      intro hc129
      refine SC.seq (SC.region ?_)
      refine SL.val (Val.move rfl) rfl rfl ?_
      refine SL.call (wclear_s (t := z0.1) (b := z0.2) (n := n) (low := y.2.1) (L := y.2.2.1)) Casts.refl (by kernel_rfl) rfl rfl rfl ?_
      refine After.mid [] (β := [_, _]) rfl (by intro x hx; simp only [List.mem_cons, List.not_mem_nil, or_false] at hx; rcases hx with rfl | rfl | rfl <;> rfl) ?_
      intro _
      refine SL.nil (SE.seq ?_)
      refine SC.region ?_
      refine SL.val (Val.move rfl) rfl rfl ?_
      refine SL.call (rclear_s (q := b63) (n := n) (low := y.2.1) (R := y.2.2.2)) Casts.refl (by kernel_rfl) rfl rfl rfl ?_
      refine After.mid [_, _, _] (β := []) rfl (by intro x hx; simp only [List.mem_cons, List.not_mem_nil, or_false] at hx; rcases hx with rfl | rfl <;> rfl) ?_
      intro _
      refine SL.nil ?_
      refine SE.inBlock ?_
      refine SE.meet (y.2.1, [], []) (hy.2.clear) (by exact ⟨rfl, rfl, rfl, rfl, rfl, rfl, rfl, trivial⟩) (by repeat first|exact s0 _|exact s1 _|apply s2|apply s3)
    intro hc73
    refine SC.seq (SC.region ?_)
    refine SL.val (Val.move rfl) rfl rfl ?_
    refine SL.val (Val.fieldAddrR tabOk rfl rfl rfl rfl rfl) rfl rfl ?_
    refine SL.val (Val.to (C := int (l[y.1]'hlt).seq) (Val.load1R tabOk rfl rfl rfl) rfl) rfl rfl ?_
    refine SL.call (watS_s (t := z0.1) (b := z0.2) (n := n) (low := y.2.1) (L := y.2.2.1) (seq := (l[y.1]'hlt).seq) hy.2.lowk hok.1 hn) Casts.refl (by kernel_rfl) rfl rfl rfl ?_
    refine After.mid [] (β := [_, _]) rfl (by intro x hx; simp only [List.mem_cons, List.not_mem_nil, or_false] at hx; rcases hx with rfl | rfl | rfl <;> rfl) ?_
    intro za
    refine SL.val (Val.move rfl) rfl rfl ?_
    refine SL.val (Val.extract rfl rfl) rfl rfl ?_
    refine SL.val (Val.extract rfl rfl) rfl rfl ?_
    refine SL.val (Val.assign rfl) rfl rfl ?_
    refine SL.val (Val.assign rfl) rfl rfl ?_
    refine SL.nil (SE.seq ?_)
    refine SC.seq (SC.region ?_)
    refine SL.val (Val.move rfl) rfl rfl ?_
    refine SL.val (Val.fieldAddrR tabOk rfl rfl rfl rfl rfl) rfl rfl ?_
    refine SL.val (Val.to (C := int (l[y.1]'hlt).seq) (Val.load1R tabOk rfl rfl rfl) rfl) rfl rfl ?_
    refine SL.call (ratS_s (q := b63) (n := n) (low := y.2.1) (R := y.2.2.2) (seq := (l[y.1]'hlt).seq) hy.2.lowk hy.2.rise (by omega)) Casts.refl (by kernel_rfl) rfl rfl rfl ?_
    refine After.mid [_, _, _] (β := []) rfl (by intro x hx; simp only [List.mem_cons, List.not_mem_nil, or_false] at hx; rcases hx with rfl | rfl <;> rfl) ?_
    intro zb
    obtain ⟨⟨L', so⟩, ha⟩ := za
    obtain ⟨⟨R', ro⟩, hb⟩ := zb
    refine SL.val (Val.assign rfl) rfl rfl ?_
    refine SL.nil (SE.seq ?_)
    refine SC.seq ?_
    refine SC.draw (mids [.pc (slsP n L'), .pc (rslsP n R')]) (.q 0 (.q 1 (.q 2 (.q 3 (.q 4 (.q 5 (.q 6 (.q 7 (.q 8 (.q 9 (.q 10 (.q 11 (.q 12 (.q 13 (.q 14 (.q 15 (.q 16 (.q 17 (.q 18 (.q 19 (.q 20 (.q 21 (.q 23 (.q 24 (.q 25 (.q 26 (.q 27 (.e 22 (.e 28 (.q 29 (.q 30 (.q 31 .nil)))))))))))))))))))))))))))))))) (by kernel_rfl) (by kernel_rfl) ?_
    refine SX.val rfl (Val.move rfl) (by first | exact mids_head | (simp [mids, It.mids, ownPc, mapPc]; done) | (intro k hk; simp [mids, It.mids, ownPc, mapPc, mapAtPc] at hk ⊢; grind)) rfl rfl ?_
    refine SX.val rfl (Val.to (C := boo (decide (inW y.2.1 (l[y.1]'hlt).seq))) (Val.eqI rfl rfl) (congrArg (fun b => Abs.v (Value.bool b)) (decide_eq_decide.2 (by by_cases h : inW y.2.1 (l[y.1]'hlt).seq <;> simp [h])))) (by first | exact mids_head | (simp [mids, It.mids, ownPc, mapPc]; done) | (intro k hk; simp [mids, It.mids, ownPc, mapPc, mapAtPc] at hk ⊢; grind)) rfl rfl ?_
    refine SX.val rfl (Val.move rfl) (by first | exact mids_head | (simp [mids, It.mids, ownPc, mapPc]; done) | (intro k hk; simp [mids, It.mids, ownPc, mapPc, mapAtPc] at hk ⊢; grind)) rfl rfl ?_
    refine SX.val rfl (Val.to (C := boo (decide (inW y.2.1 (l[y.1]'hlt).seq))) (Val.neP rfl rfl (by kernel_rfl)) (congrArg (fun b => Abs.v (Value.bool b)) hb.some)) (by first | exact mids_head | (simp [mids, It.mids, ownPc, mapPc]; done) | (intro k hk; simp [mids, It.mids, ownPc, mapPc, mapAtPc] at hk ⊢; grind)) rfl rfl ?_
    refine SX.val rfl (Val.to (C := boo false) (Val.neB rfl rfl (by kernel_rfl)) (congrArg (fun b => Abs.v (Value.bool b)) (neb rfl))) (by first | exact mids_head | (simp [mids, It.mids, ownPc, mapPc]; done) | (intro k hk; simp [mids, It.mids, ownPc, mapPc, mapAtPc] at hk ⊢; grind)) rfl rfl ?_
    refine SX.val rfl (Val.move rfl) (by first | exact mids_head | (simp [mids, It.mids, ownPc, mapPc]; done) | (intro k hk; simp [mids, It.mids, ownPc, mapPc, mapAtPc] at hk ⊢; grind)) rfl rfl ?_
    refine SX.val rfl (Val.move rfl) (by first | exact mids_head | (simp [mids, It.mids, ownPc, mapPc]; done) | (intro k hk; simp [mids, It.mids, ownPc, mapPc, mapAtPc] at hk ⊢; grind)) rfl rfl ?_
    refine SX.val rfl (Val.to (C := boo (decide (¬ inW y.2.1 (l[y.1]'hlt).seq))) (Val.neI rfl rfl) (congrArg (fun b => Abs.v (Value.bool b)) (decide_eq_decide.2 (by by_cases h : inW y.2.1 (l[y.1]'hlt).seq <;> simp [h])))) (by first | exact mids_head | (simp [mids, It.mids, ownPc, mapPc]; done) | (intro k hk; simp [mids, It.mids, ownPc, mapPc, mapAtPc] at hk ⊢; grind)) rfl rfl ?_
    refine SX.val rfl (Val.move rfl) (by first | exact mids_head | (simp [mids, It.mids, ownPc, mapPc]; done) | (intro k hk; simp [mids, It.mids, ownPc, mapPc, mapAtPc] at hk ⊢; grind)) rfl rfl ?_
    refine SX.bothP (t := 94) rfl ?_ ?_
    · intro hc94
      have hi : ¬ inW y.2.1 (l[y.1]'hlt).seq := hc94
      obtain ⟨e1, e2⟩ := ha.1 hi
      obtain ⟨e3, e4⟩ := hb.1 hi
      dsimp only at e1 e2 e3 e4
      subst e1 e2 e3 e4
      refine SX.val rfl (Val.move rfl) (by first | exact mids_head | (simp [mids, It.mids, ownPc, mapPc]; done) | (intro k hk; simp [mids, It.mids, ownPc, mapPc, mapAtPc] at hk ⊢; grind)) rfl rfl ?_
      refine SX.val rfl (Val.to (C := boo false) (Val.neI rfl rfl) (congrArg (fun b => Abs.v (Value.bool b)) (decide_eq_false (by rw [if_neg hi]; simp)))) (by first | exact mids_head | (simp [mids, It.mids, ownPc, mapPc]; done) | (intro k hk; simp [mids, It.mids, ownPc, mapPc, mapAtPc] at hk ⊢; grind)) rfl rfl ?_
      refine SX.val rfl (Val.pickT rfl rfl) (by first | exact mids_head | (simp [mids, It.mids, ownPc, mapPc]; done) | (intro k hk; simp [mids, It.mids, ownPc, mapPc, mapAtPc] at hk ⊢; grind)) rfl rfl ?_
      refine SX.val rfl (Val.pickF rfl rfl) (by first | exact mids_head | (simp [mids, It.mids, ownPc, mapPc]; done) | (intro k hk; simp [mids, It.mids, ownPc, mapPc, mapAtPc] at hk ⊢; grind)) rfl rfl ?_
      refine SX.val rfl (Val.move rfl) (by first | exact mids_head | (simp [mids, It.mids, ownPc, mapPc]; done) | (intro k hk; simp [mids, It.mids, ownPc, mapPc, mapAtPc] at hk ⊢; grind)) rfl rfl ?_
      refine SX.val rfl (Val.move rfl) (by first | exact mids_head | (simp [mids, It.mids, ownPc, mapPc]; done) | (intro k hk; simp [mids, It.mids, ownPc, mapPc, mapAtPc] at hk ⊢; grind)) rfl rfl ?_
      refine SX.val rfl (Val.to (C := boo false) (Val.neP rfl rfl (by kernel_rfl)) (congrArg (fun b => Abs.v (Value.bool b)) (rfl))) (by first | exact mids_head | (simp [mids, It.mids, ownPc, mapPc]; done) | (intro k hk; simp [mids, It.mids, ownPc, mapPc, mapAtPc] at hk ⊢; grind)) rfl rfl ?_
      refine SX.val rfl (Val.move rfl) (by first | exact mids_head | (simp [mids, It.mids, ownPc, mapPc]; done) | (intro k hk; simp [mids, It.mids, ownPc, mapPc, mapAtPc] at hk ⊢; grind)) rfl rfl ?_
      iterate 10 refine SX.skip rfl rfl rfl ?_
      refine SX.skip' rfl rfl rfl ?_
      refine SX.skip' rfl rfl rfl ?_
      refine SX.skip rfl rfl rfl ?_
      refine SX.val rfl (Val.pickF rfl rfl) (by first | exact mids_head | (simp [mids, It.mids, ownPc, mapPc]; done) | (intro k hk; simp [mids, It.mids, ownPc, mapPc, mapAtPc] at hk ⊢; grind)) rfl rfl ?_
      refine SX.val rfl (Val.pickF rfl rfl) (by first | exact mids_head | (simp [mids, It.mids, ownPc, mapPc]; done) | (intro k hk; simp [mids, It.mids, ownPc, mapPc, mapAtPc] at hk ⊢; grind)) rfl rfl ?_
      refine SX.nil (SE.seq ?_)
      refine SC.condF rfl ?_
      refine SC.skip ?_
      refine SE.inBlock ?_
      refine SE.meet (y.2.1, y.2.2.1, y.2.2.2) (hy.2.more) (by exact ⟨rfl, rfl, rfl, rfl, rfl, rfl, rfl, trivial⟩) (by repeat first|exact s0 _|exact s1 _|apply s2|apply s3)
    intro hc94
    have hi : inW y.2.1 (l[y.1]'hlt).seq := Decidable.byContradiction hc94
    obtain ⟨L1, s, L2, R1, s', R2, e1, e2, e3, e4, hL⟩ := hy.2.ask ha hb hi
    dsimp only at e1 e2 e3 e4
    subst e1 e2 e3 e4
    have hv := hL.vote (n := n) (who := (l[y.1]'hlt).who) (d := (l[y.1]'hlt).d)
    have hvl := hv.2.2.1
    iterate 2 refine SX.skip rfl rfl rfl ?_
    refine SX.val rfl (Val.pickF rfl rfl) (by first | exact mids_head | (simp [mids, It.mids, ownPc, mapPc]; done) | (intro k hk; simp [mids, It.mids, ownPc, mapPc, mapAtPc] at hk ⊢; grind)) rfl rfl ?_
    refine SX.val rfl (Val.pickF rfl rfl) (by first | exact mids_head | (simp [mids, It.mids, ownPc, mapPc]; done) | (intro k hk; simp [mids, It.mids, ownPc, mapPc, mapAtPc] at hk ⊢; grind)) rfl rfl ?_
    refine SX.val rfl (Val.move rfl) (by first | exact mids_head | (simp [mids, It.mids, ownPc, mapPc]; done) | (intro k hk; simp [mids, It.mids, ownPc, mapPc, mapAtPc] at hk ⊢; grind)) rfl rfl ?_
    refine SX.val rfl (Val.move rfl) (by first | exact mids_head | (simp [mids, It.mids, ownPc, mapPc]; done) | (intro k hk; simp [mids, It.mids, ownPc, mapPc, mapAtPc] at hk ⊢; grind)) rfl rfl ?_
    refine SX.val rfl (Val.to (C := boo true) (Val.neP rfl rfl (by kernel_rfl)) (congrArg (fun b => Abs.v (Value.bool b)) rfl)) (by first | exact mids_head | (simp [mids, It.mids, ownPc, mapPc]; done) | (intro k hk; simp [mids, It.mids, ownPc, mapPc, mapAtPc] at hk ⊢; grind)) rfl rfl ?_
    refine SX.val rfl (Val.move rfl) (by first | exact mids_head | (simp [mids, It.mids, ownPc, mapPc]; done) | (intro k hk; simp [mids, It.mids, ownPc, mapPc, mapAtPc] at hk ⊢; grind)) rfl rfl ?_
    refine SX.val rfl (Val.move rfl) (by first | exact mids_head | (simp [mids, It.mids, ownPc, mapPc]; done) | (intro k hk; simp [mids, It.mids, ownPc, mapPc, mapAtPc] at hk ⊢; grind)) rfl rfl ?_
    refine SX.val rfl (Val.fieldAddrR tabOk rfl rfl rfl rfl rfl) (by first | exact mids_head | (simp [mids, It.mids, ownPc, mapPc]; done) | (intro k hk; simp [mids, It.mids, ownPc, mapPc, mapAtPc] at hk ⊢; grind)) rfl rfl ?_
    refine SX.val rfl (Val.to (C := int (l[y.1]'hlt).who) (Val.load1R tabOk rfl rfl rfl) rfl) (by first | exact mids_head | (simp [mids, It.mids, ownPc, mapPc]; done) | (intro k hk; simp [mids, It.mids, ownPc, mapPc, mapAtPc] at hk ⊢; grind)) rfl rfl ?_
    refine SX.val rfl (Val.fieldAddrR tabOk rfl rfl rfl rfl rfl) (by first | exact mids_head | (simp [mids, It.mids, ownPc, mapPc]; done) | (intro k hk; simp [mids, It.mids, ownPc, mapPc, mapAtPc] at hk ⊢; grind)) rfl rfl ?_
    refine SX.val rfl (Val.to (C := .agg (dgC (l[y.1]'hlt).d)) (Val.loadPR tabOk rfl rfl rfl (by simp [a22_len])) (congrArg Abs.agg (a22_drop _))) (by first | exact mids_head | (simp [mids, It.mids, ownPc, mapPc]; done) | (intro k hk; simp [mids, It.mids, ownPc, mapPc, mapAtPc] at hk ⊢; grind)) rfl rfl ?_
    refine SX.val rfl (Val.move rfl) (by first | exact mids_head | (simp [mids, It.mids, ownPc, mapPc]; done) | (intro k hk; simp [mids, It.mids, ownPc, mapPc, mapAtPc] at hk ⊢; grind)) rfl rfl ?_
    refine SX.val rfl (Val.fieldAddrR tabOk rfl rfl rfl rfl rfl) (by first | exact mids_head | (simp [mids, It.mids, ownPc, mapPc]; done) | (intro k hk; simp [mids, It.mids, ownPc, mapPc, mapAtPc] at hk ⊢; grind)) rfl rfl ?_
    refine SX.val rfl (Val.to (C := int (l[y.1]'hlt).who) (Val.load1R tabOk rfl rfl rfl) rfl) (by first | exact mids_head | (simp [mids, It.mids, ownPc, mapPc]; done) | (intro k hk; simp [mids, It.mids, ownPc, mapPc, mapAtPc] at hk ⊢; grind)) rfl rfl ?_
    refine SX.val rfl (Val.fieldAddrR tabOk rfl rfl rfl rfl rfl) (by first | exact mids_head | (simp [mids, It.mids, ownPc, mapPc]; done) | (intro k hk; simp [mids, It.mids, ownPc, mapPc, mapAtPc] at hk ⊢; grind)) rfl rfl ?_
    refine SX.val rfl (Val.to (C := .agg (dgC (l[y.1]'hlt).d)) (Val.loadPR tabOk rfl rfl rfl (by simp [a22_len])) (congrArg Abs.agg (a22_drop _))) (by first | exact mids_head | (simp [mids, It.mids, ownPc, mapPc]; done) | (intro k hk; simp [mids, It.mids, ownPc, mapPc, mapAtPc] at hk ⊢; grind)) rfl rfl ?_
    refine SX.callX (mids [.pc (rslsP n (R1 ++ ((l[y.1]'hlt).seq, s') :: R2))]) rfl (prepW_s (seq := (l[y.1]'hlt).seq) (n := n) (L1 := L1) (L2 := L2) (s := s) (who := (l[y.1]'hlt).who) (k := (l[y.1]'hlt).d) hok.2 hv.2.1 (by omega)) (by intro k hk; simp only [mids, List.flatMap_cons, List.flatMap_nil, List.append_nil, It.mids, List.mem_append, List.not_mem_nil, List.mem_cons, or_false] at hk ⊢ <;> first | exact hk | exact .inl hk | exact .inr hk | (rcases hk with hk | hk | hk <;> simp [hk]; done) | (rcases hk with hk | hk <;> simp [hk]; done)) (by intro k hk; simp only [mids, List.flatMap_cons, List.flatMap_nil, List.append_nil, It.mids, List.mem_append, List.not_mem_nil, List.mem_cons, or_false] at hk ⊢ <;> first | exact hk | exact .inl hk | exact .inr hk | (rcases hk with hk | hk | hk <;> simp [hk]; done) | (rcases hk with hk | hk <;> simp [hk]; done)) Casts.refl (by kernel_rfl) rfl rfl rfl ?_
    refine After.one rfl (by repeat first|assumption|exact m0|apply m1) (fun _ => rfl) ?_
    intro _
    refine ⟨_, (by repeat first|assumption|exact Upd.here|apply Upd.there), ?_⟩
    refine SX.callX ([]) rfl (rprepW_s (seq := (l[y.1]'hlt).seq) (n := n) (R1 := R1) (R2 := R2) (s := s') (who := (l[y.1]'hlt).who) (k := (l[y.1]'hlt).d) (by rw [hv.1]; omega)) (by intro k hk; simp only [mids, List.flatMap_cons, List.flatMap_nil, List.append_nil, It.mids, List.mem_append, List.not_mem_nil, List.mem_cons, or_false] at hk ⊢ <;> first | exact hk | exact .inl hk | exact .inr hk | (rcases hk with hk | hk | hk <;> simp [hk]; done) | (rcases hk with hk | hk <;> simp [hk]; done)) (by intro k hk; simp only [mids, List.flatMap_cons, List.flatMap_nil, List.append_nil, It.mids, List.mem_append, List.not_mem_nil, List.mem_cons, or_false] at hk ⊢ <;> first | exact hk | exact .inl hk | exact .inr hk | (rcases hk with hk | hk | hk <;> simp [hk]; done) | (rcases hk with hk | hk <;> simp [hk]; done)) Casts.refl (by kernel_rfl) rfl rfl rfl ?_
    refine After.one rfl (by repeat first|assumption|exact m0|apply m1) (fun _ => rfl) ?_
    intro _
    refine ⟨_, (by repeat first|assumption|exact Upd.here|apply Upd.there), ?_⟩
    refine SX.val rfl (Val.to (C := boo false) (Val.neI rfl rfl) (congrArg (fun b => Abs.v (Value.bool b)) (decide_eq_false (by rw [hv.1]; simp)))) (by first | exact mids_head | (simp [mids, It.mids, ownPc, mapPc]; done) | (intro k hk; simp [mids, It.mids, ownPc, mapPc, mapAtPc] at hk ⊢; grind)) rfl rfl ?_
    refine SX.val rfl (Val.pickT rfl rfl) (by simp) rfl rfl ?_
    refine SX.val rfl (Val.pickF rfl rfl) (by simp) rfl rfl ?_
    refine SX.nil (SE.seq ?_)
    refine SC.condF rfl ?_
    refine SC.skip ?_
    refine SE.inBlock ?_
    refine SE.meet (y.2.1, L1 ++ ((l[y.1]'hlt).seq, s.vote n (l[y.1]'hlt).who (l[y.1]'hlt).d) :: L2, R1 ++ ((l[y.1]'hlt).seq, ⟨s'.q, voteM n s'.ws (l[y.1]'hlt).who (l[y.1]'hlt).d⟩) :: R2) (hv.2.2.2) (by exact ⟨rfl, rfl, rfl, rfl, rfl, rfl, rfl, trivial⟩) (by dsimp only; rw [ptrs_vote, lgC_vote]; exact List.Sublist.refl _)
  · intro z hz
    refine SC.seq ?_
    refine SC.draw [] (.q 0 (.q 2 (.q 3 (.q 4 (.q 5 (.e 1 (.q 6 (.q 7 (.q 8 (.q 9 (.q 10 (.q 12 (.q 13 (.q 14 (.e 11 (.e 15 (.q 16 (.q 17 (.q 18 (.q 19 (.q 21 (.q 22 (.q 23 (.q 24 (.e 20 (.e 25 (.q 26 (.q 27 (.q 28 (.q 29 (.e 30 (.q 31 (.q 32 (.q 33 .nil)))))))))))))))))))))))))))))))))) (by kernel_rfl) (by kernel_rfl) ?_
    refine SX.val rfl (Val.move rfl) (by simp) rfl rfl ?_
    refine SX.val rfl (Val.move rfl) (by simp) rfl rfl ?_
    refine SX.val rfl (Val.nilCheck rfl) (by simp) rfl rfl ?_
    refine SX.val rfl (Val.fieldAddr tabOk rfl rfl rfl rfl rfl) (by simp) rfl rfl ?_
    refine SX.val rfl (Val.load1 tabOk rfl rfl (by first|(apply Or.inl;(repeat first|assumption|exact m0|apply m1);done)|(apply Or.inr;(repeat first|assumption|exact m0|apply m1);done)) List.not_mem_nil (by rfl)) (by simp) rfl rfl ?_
    refine SX.call rfl (wlow_s (t := z0.1) (b := z0.2) (n := n) (low := z.1)) (by simp [mids, It.mids]) Casts.refl (by kernel_rfl) rfl rfl rfl ?_
    refine After.pure (by repeat (first | exact Reads.nil | (refine Reads.blk ?_ ?_; focus ((repeat first|assumption|exact m0|apply m1); done)) | (refine Reads.rd ?_ ?_; focus ((repeat first|assumption|exact m0|apply m1); done)) | (refine Reads.pc ?_ ?_; focus ((repeat first|assumption|exact m0|apply m1); done)) | (refine Reads.rdpc ?_ ?_; focus ((repeat first|assumption|exact m0|apply m1); done)))) (fun _ => rfl) ?_
    intro _
    refine SX.val rfl (Val.to (C := boo false) (Val.neI rfl rfl) (congrArg (fun b => Abs.v (Value.bool b)) (decide_eq_false (by simp)))) (by first | exact mids_head | (simp [mids, It.mids, ownPc, mapPc]; done) | (intro k hk; simp [mids, It.mids, ownPc, mapPc, mapAtPc] at hk ⊢; grind)) rfl rfl ?_
    refine SX.val rfl (Val.move rfl) (by simp) rfl rfl ?_
    refine SX.val rfl (Val.move rfl) (by simp) rfl rfl ?_
    refine SX.val rfl (Val.fieldAddrR tabOk rfl rfl rfl rfl rfl) (by simp) rfl rfl ?_
    refine SX.val rfl (Val.to (C := int (l[y.1]'hlt).seq) (Val.load1R tabOk rfl rfl rfl) rfl) (by first | exact mids_head | (simp [mids, It.mids, ownPc, mapPc]; done) | (intro k hk; simp [mids, It.mids, ownPc, mapPc, mapAtPc] at hk ⊢; grind)) rfl rfl ?_
    refine SX.val rfl (Val.move rfl) (by simp) rfl rfl ?_
    refine SX.val rfl (Val.fieldAddrR tabOk rfl rfl rfl rfl rfl) (by simp) rfl rfl ?_
    refine SX.val rfl (Val.to (C := int (l[y.1]'hlt).seq) (Val.load1R tabOk rfl rfl rfl) rfl) (by first | exact mids_head | (simp [mids, It.mids, ownPc, mapPc]; done) | (intro k hk; simp [mids, It.mids, ownPc, mapPc, mapAtPc] at hk ⊢; grind)) rfl rfl ?_
    refine SX.call rfl (win_s (t := z0.1) (b := z0.2) (n := n) (low := z.1) (seq := (l[y.1]'hlt).seq) hz.lowk) (by simp [mids, It.mids]) Casts.refl (by kernel_rfl) rfl rfl rfl ?_
    refine After.pure (by repeat (first | exact Reads.nil | (refine Reads.blk ?_ ?_; focus ((repeat first|assumption|exact m0|apply m1); done)) | (refine Reads.rd ?_ ?_; focus ((repeat first|assumption|exact m0|apply m1); done)) | (refine Reads.pc ?_ ?_; focus ((repeat first|assumption|exact m0|apply m1); done)) | (refine Reads.rdpc ?_ ?_; focus ((repeat first|assumption|exact m0|apply m1); done)))) (fun _ => rfl) ?_
    intro _
    refine SX.call rfl (rin_s (q := b63) (n := n) (low := z.1) (R := z.2.2) (seq := (l[y.1]'hlt).seq) hz.lowk) (by simp [mids, It.mids]) Casts.refl (by kernel_rfl) rfl rfl rfl ?_
    refine After.pure (by repeat (first | exact Reads.nil | (refine Reads.blk ?_ ?_; focus ((repeat first|assumption|exact m0|apply m1); done)) | (refine Reads.rd ?_ ?_; focus ((repeat first|assumption|exact m0|apply m1); done)) | (refine Reads.pc ?_ ?_; focus ((repeat first|assumption|exact m0|apply m1); done)) | (refine Reads.rdpc ?_ ?_; focus ((repeat first|assumption|exact m0|apply m1); done)))) (fun _ => rfl) ?_
    intro _
    refine SX.val rfl (Val.to (C := boo false) (Val.neB rfl rfl (by kernel_rfl)) (congrArg (fun b => Abs.v (Value.bool b)) (neb rfl))) (by first | exact mids_head | (simp [mids, It.mids, ownPc, mapPc]; done) | (intro k hk; simp [mids, It.mids, ownPc, mapPc, mapAtPc] at hk ⊢; grind)) rfl rfl ?_
    refine SX.val rfl (Val.pickF rfl rfl) (by simp) rfl rfl ?_
    refine SX.val rfl (Val.move rfl) (by simp) rfl rfl ?_
    refine SX.val rfl (Val.move rfl) (by simp) rfl rfl ?_
    refine SX.val rfl (Val.move rfl) (by simp) rfl rfl ?_
    refine SX.val rfl (Val.nilCheck rfl) (by simp) rfl rfl ?_
    refine SX.val rfl (Val.fieldAddr tabOk rfl rfl rfl rfl rfl) (by simp) rfl rfl ?_
    refine SX.val rfl (Val.load1 tabOk rfl rfl (by first|(apply Or.inl;(repeat first|assumption|exact m0|apply m1);done)|(apply Or.inr;(repeat first|assumption|exact m0|apply m1);done)) List.not_mem_nil (by rfl)) (by simp) rfl rfl ?_
    refine SX.call rfl (wseqs_s (t := z0.1) (b := z0.2) (n := n) (low := z.1) (m := ptrs z.2.1) (by rw [ptrs_len]; have := hz.few; omega)) (by simp [mids, It.mids]) Casts.refl (by kernel_rfl) rfl rfl rfl ?_
    refine After.make (by repeat (first | exact Reads.nil | (refine Reads.blk ?_ ?_; focus ((repeat first|assumption|exact m0|apply m1); done)) | (refine Reads.rd ?_ ?_; focus ((repeat first|assumption|exact m0|apply m1); done)) | (refine Reads.pc ?_ ?_; focus ((repeat first|assumption|exact m0|apply m1); done)) | (refine Reads.rdpc ?_ ?_; focus ((repeat first|assumption|exact m0|apply m1); done)))) (fun _ => rfl) ?_
    intro v155
    refine SX.freeze [] (t := 155) rfl rfl ?_
    rw [hz.seqs]
    refine SX.call rfl (sameSeqs_s (xs := (z.2.2.map (·.1))) (ys := (z.2.2.map (·.1))) (by rw [List.length_map, hz.len]; have := hz.few; omega)) (by simp [mids, It.mids]) (Casts.of_eq (by unfold ints sqA; rw [List.map_map]; rfl)) (by kernel_rfl) rfl rfl rfl ?_
    refine After.pure (by repeat first|exact .nil|refine .blk (by repeat first|assumption|exact m0|apply m1) ?_|refine .rd (by repeat first|assumption|exact m0|apply m1) ?_|refine .pc (by repeat first|assumption|exact m0|apply m1) ?_|refine .rdpc (by repeat first|assumption|exact m0|apply m1) ?_) (fun _ => rfl) ?_
    intro _
    rw [decide_eq_true (rfl : (z.2.2.map (·.1)) = (z.2.2.map (·.1)))]
    refine SX.val rfl (Val.notT rfl) (by simp) rfl rfl ?_
    refine SX.val rfl (Val.pickF rfl rfl) (by simp) rfl rfl ?_
    refine SX.val rfl (Val.move rfl) (by simp) rfl rfl ?_
    refine SX.val rfl (Val.move rfl) (by simp) rfl rfl ?_
    refine SX.call rfl (wseqs_s (t := z0.1) (b := z0.2) (n := n) (low := z.1) (m := ptrs z.2.1) (by rw [ptrs_len]; have := hz.few; omega)) (by simp [mids, It.mids]) Casts.refl (by kernel_rfl) rfl rfl rfl ?_
    refine After.make (by repeat (first | exact Reads.nil | (refine Reads.blk ?_ ?_; focus ((repeat first|assumption|exact m0|apply m1); done)) | (refine Reads.rd ?_ ?_; focus ((repeat first|assumption|exact m0|apply m1); done)) | (refine Reads.pc ?_ ?_; focus ((repeat first|assumption|exact m0|apply m1); done)) | (refine Reads.rdpc ?_ ?_; focus ((repeat first|assumption|exact m0|apply m1); done)))) (fun _ => rfl) ?_
    intro v165
    refine SX.freeze [] (t := 165) rfl rfl ?_
    rw [hz.seqs]
    refine SX.val rfl (Val.lenSl rfl Try.underlying34 (List.length_map _)) (by first | exact mids_head | (simp [mids, It.mids, ownPc, mapPc]; done) | (intro k hk; simp [mids, It.mids, ownPc, mapPc, mapAtPc] at hk ⊢; grind)) rfl rfl ?_
    refine SX.val rfl (Val.to (C := boo false) (Val.gtI rfl rfl) (congrArg (fun b => Abs.v (Value.bool b)) (decide_eq_false (by rw [List.length_map, hz.len]; have := hz.few; omega)))) (by first | exact mids_head | (simp [mids, It.mids, ownPc, mapPc]; done) | (intro k hk; simp [mids, It.mids, ownPc, mapPc, mapAtPc] at hk ⊢; grind)) rfl rfl ?_
    refine SX.val rfl (Val.pickF rfl rfl) (by simp) rfl rfl ?_
    refine SX.nil (SE.seq ?_)
    refine SC.condF rfl ?_
    refine SC.skip ?_
    refine SE.inBlock ?_
    refine SE.seq ?_
    refine SC.region ?_
    first
      | refine SL.val (Val.addI rfl rfl (by simp only [InR, lo, hi]; omega)) rfl rfl ?_
      | refine SL.val (Val.addW rfl rfl) rfl rfl ?_
    refine SL.val (Val.move rfl) rfl rfl ?_
    refine SL.nil ?_
    refine SE.round (y.1 + 1, z.1, z.2.1, z.2.2) (by first | omega | (dsimp only; omega)) (⟨hlt, hz⟩) (by exact ⟨rfl, rfl, rfl, rfl, rfl, rfl, trivial⟩) (by repeat first|exact s0 _|exact s1 _|apply s2|apply s3)
end
end Go.Proofs.Ytoifikgnbblbgaa.A
/-
  From a walk that returns true and changes no old memory to the given statement, for any law without package variables.
-/
namespace Go.Proofs.Ytoifikgnbblbgaa
open Go.ChangeShapes Go.WideShapes Go.ChangeAt Go.RowKit

theorem law_own : ownKnob Try.prog.godebug = none := by kernel_rfl
theorem law_laidOut : laidOutB Try.prog = true := by kernel_rfl

theorem trodAll_below {H : Type} {enc : TypeId × Value → H} {W W' : World} (hb : Below W.heap.size W W') :
    ∀ (ts : List TypeId) (vs : List Value) (ds : List (DataW H)) (p : List MemPlace), (∀ t ∈ ts, Try.prog.readableRec t = true ∧ t < Try.prog.types.size) →
      DataW.TrodAll enc Try.prog W 0 (fun _ => true) true ts vs ds p → ∃ q, DataW.TrodAll enc Try.prog W' 0 (fun b => decide (b < W.heap.size)) true ts vs ds q
  | [], [], [], p, _, h => ⟨p, h⟩
  | t :: ts, v :: vs, d :: ds, p, hr, h => by
    obtain ⟨p0, q0, h0, h1, rfl⟩ := h
    obtain ⟨q, hq⟩ := trodAll_below hb ts vs ds q0 (fun t ht => hr t (List.mem_cons_of_mem _ ht)) h1
    have lt0 : ∀ x ∈ p0, x.block < W.heap.size := by obtain ⟨m, hm⟩ := h0; exact DataW.trod_lt m _ _ _ hm
    exact ⟨p0 ++ q, p0, q, Below.trod law_laidOut (hr t List.mem_cons_self).1 (hr t List.mem_cons_self).2 h0 hb lt0, hq, rfl⟩
  | [], _ :: _, _, _, _, h => h.elim
  | [], [], _ :: _, _, _, h => h.elim
  | _ :: _, [], _, _, _, h => h.elim
  | _ :: _, _ :: _, [], _, _, h => h.elim

set_option maxRecDepth 100000 in
theorem law_lift {H : Type} {enc : TypeId × Value → H} {os : Os} (started : os.Started) {f : FuncId} {fn : Func} {s : ChangeSpec}
    (noInit : Try.prog.inits.idxOf? f = none) (hfn : Try.prog.funcs[f]? = some fn) (hvars : s.vars = []) (hres : fn.resultTypes = #[4])
    (hparB : (fn.params.toList.all fun t => Try.prog.readableRec t && decide (t < Try.prog.types.size)) = true)
    (hspec : ∀ ds : List (DataW H), ds.length = fn.params.size → s.fn H (ds ++ []) = { results := [.lit (.bool true)], args := ds })
    (wit : ∃ (w : World) (tape : Tape) (i : Input), w.os = os ∧ (w.forCall tape i).Shaped Try.prog ∧ i.vars = [] ∧ Input.okWide Try.prog (w.forCall tape i) .any w.heap.size f i ∧
      s.pre6 enc Try.prog fn [] false (w.forCall tape i).memory i.args ∧ Assume.holds {} Try.prog (lone (Frame.enter Try.prog f i.args .normal) [] (w.forCall tape i)))
    (walk : ∀ (W : World) (base : Nat) (args : Array Value) (ds : List (DataW H)) (p : List MemPlace),
      (∀ (j : Nat) t v, fn.params[j]? = some t → args[j]? = some v → Value.okWide Try.prog W .any base t v) →
      DataW.TrodAll enc Try.prog W 0 (fun _ => true) true fn.params.toList args.toList ds p →
      (DataW.weightsEach Try.prog fn.params.toList ds).all (· ≤ reachBytes) = true →
      Calls Try.prog f args W fun e W' => e = .returned (.bool true) ∧ Ext [] W W') :
    ReturnsInHanded {} Try.checked os f .any (s.pre6 enc Try.prog fn [] false) (s.post enc Try.prog fn false true false false) := by
  have hpar : ∀ t ∈ fn.params.toList, Try.prog.readableRec t = true ∧ t < Try.prog.types.size := by
    simpa only [List.all_eq_true, Bool.and_eq_true, decide_eq_true_eq] using hparB
  refine returnsInHanded_of_change_sized (C := Try.checked) law_own started noInit hfn wit ?_
  intro W base args ds gs before hval0 hW hcnd hsz _
  have hval : ∀ (j : Nat) t v, fn.params[j]? = some t → args[j]? = some v → Value.okWide Try.prog W .any base t v := hval0
  have hW' := hW
  obtain ⟨p, q, hA0, hV, rfl, hfz, hnd⟩ := hW
  have hA : DataW.TrodAll enc Try.prog W 0 (fun _ => true) true fn.params.toList args.toList ds p := hA0
  rw [hvars] at hV
  obtain ⟨rfl, rfl⟩ := trodVars_none hV
  have hsz' : (DataW.weightsEach Try.prog fn.params.toList ds).all (· ≤ reachBytes) = true := by
    have h2 := hsz
    simp only [ChangeSpec.plain, DataSpec.varTypes, hvars, List.filterMap_nil, List.append_nil] at h2
    exact h2
  refine (walk W base args ds p hval hA hsz').mono fun e W' ⟨he, bel⟩ => ?_
  subst he
  have hlen : ds.length = fn.params.size := by
    have : ∀ (ts : List TypeId) (vs : List Value) (ds : List (DataW H)) (p : List MemPlace), DataW.TrodAll enc Try.prog W 0 (fun _ => true) true ts vs ds p → ds.length = ts.length := by
      intro ts
      induction ts with
      | nil => intro vs ds p h; cases vs <;> cases ds <;> first | rfl | exact h.elim
      | cons t ts ih =>
        intro vs ds p h
        cases vs with
        | nil => exact h.elim
        | cons v vs =>
          cases ds with
          | nil => exact h.elim
          | cons d ds => obtain ⟨p0, q0, _, h1, _⟩ := h; simp [ih vs ds q0 h1]
    simpa using this _ _ _ _ hA
  obtain ⟨pa, hpa⟩ := trodAll_below (enc := enc) bel.below fn.params.toList args.toList ds p hpar hA
  refine ⟨_, rfl, ds, [], p ++ [], [], pa, [], hW', ?_, ?_, ?_, bel.below.frame _, fun h => by cases h⟩
  · rw [hspec ds hlen, hres]
    exact trodAll_mk1 (shut_bool Try.underlying4 _)
  · rw [hspec ds hlen]; exact hpa
  · rw [hspec ds hlen, hvars]; rfl

theorem spot_none {w : World} {b o : Nat} {s : Option Nat} {v : Value} (h : w.cell? ⟨b, o, s⟩ = some v) : s = none := by
  have := World.cell?_spot h
  simpa using this

set_option maxRecDepth 100000 in
/-- A slice of integers that came in. -/
theorem open_row_ints {H : Type} {enc : TypeId × Value → H} {W : World} {base : Nat} {t e : TypeId} {k : IntKind} {v : Value} {d : DataW H} {p : List MemPlace}
    (ht : Try.prog.underlying t = some (.slice e)) (he : Try.prog.underlying e = some (.int k)) (hE : Try.prog.cellsOf e = 1)
    (hv : Value.okWide Try.prog W .any base t v) (h : DataW.Trod enc Try.prog W 0 (fun _ => true) true t v d p) :
    ∃ (A : Option Addr) (n c : Nat) (zs : List Int), v = .slice A n c ∧ zs.length = n ∧ n ≤ c ∧ c ≤ maxLen ∧ Row W A (zs.map (Value.int k)) ∧ ∀ z ∈ zs, (Lit.int k z).wf = true := by
  obtain ⟨A, n, c, rfl⟩ := okWide_slice ht hv
  obtain ⟨fuel, hf⟩ := h
  rcases open_ints ht he hE hf with ⟨hcs, _⟩ | ⟨x, l, c', zs, hcs, _, hl, hm, hz, _, hcell, hwz⟩
  · simp [Value.cells] at hcs
    obtain ⟨rfl, rfl, rfl⟩ := hcs
    exact ⟨none, 0, 0, [], rfl, rfl, Nat.le_refl _, Nat.zero_le _, Row.nil_ _ _, by simp⟩
  · simp [Value.cells] at hcs
    obtain ⟨rfl, rfl, rfl⟩ := hcs
    have hz' : zs.length = c := by simpa using hz
    refine ⟨some x, n, c, zs.take n, rfl, by simp; omega, hl, hm, ?_, fun z hz0 => hwz z (List.mem_of_mem_take hz0)⟩
    intro hn
    have hn0 : 0 < zs.length := by
      rcases zs with _ | ⟨z, zs⟩
      · simp at hn
      · simp
    obtain ⟨b, off, spot⟩ := x
    have h0 := hcell 0 hn0
    have hs : spot = none := by
      have : (⟨b, off, spot⟩ : Addr).add 0 = ⟨b, off, spot⟩ := by simp [Addr.add]
      rw [this] at h0
      exact spot_none h0
    subst hs
    refine ⟨b, off, rfl, fun j u hu => ?_⟩
    rw [List.getElem?_map, List.getElem?_take] at hu
    split at hu
    · rename_i hj
      have hjl : j < zs.length := by
        rcases Nat.lt_or_ge j zs.length with h1 | h1
        · exact h1
        · rw [List.getElem?_eq_none h1] at hu; simp at hu
      have hcj := hcell j hjl
      have e1 : (⟨b, off, none⟩ : Addr).add j = ⟨b, off + j, none⟩ := by
        unfold Addr.add
        split
        · rename_i h0; subst h0; rfl
        · rfl
      rw [e1] at hcj
      rw [hcj, ← hu]
      simp [hjl]
    · simp at hu
end Go.Proofs.Ytoifikgnbblbgaa
