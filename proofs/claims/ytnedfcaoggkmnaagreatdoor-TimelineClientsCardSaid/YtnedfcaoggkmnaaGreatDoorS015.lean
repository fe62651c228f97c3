/-
  Packed out of the texts: A17, CT11, CT12.
-/
import Derived.Test.YtnedfcaoggkmnaaGreatDoorS014
import Derived.Maps.RangeRun
/-
  The second engine: 'for k := range m', with entries struck in the rounds: the map and its iterator as one piece.
-/
set_option maxRecDepth 100000
set_option linter.unusedSimpArgs false
set_option linter.unusedVariables false
namespace Go.Proofs.YtnedfcaoggkmnaaGreatDoor.A
open Go.RowKit

/-- The map m in block b, ranged by the iterator in block r: of its entries 'rest' is still to come; 'cur' came last. -/
structure Rng {α β : Type} (w : World) (b r : Nat) (K : α → Value) (V : β → Value) (Good : α → Prop) (m rest : List (α × β)) (cur : Option (α × β)) (es : Array MapEntry) (clock since : Nat) (seen : Array Nat) (c0 : Nat) : Prop where
  hb : w.heap[b]? = some (.map es clock)
  he : es.toList.map (fun e => (e.key, e.val)) = m.map (fun p => (K p.1, V p.2))
  nd : (m.map (·.1)).Nodup
  good : ∀ p ∈ m, Good p.1
  born : ∀ e ∈ es.toList, e.born < clock
  bnd : (es.toList.map (·.born)).Nodup
  hr : w.heap[r]? = some (.mapIter (some b) since seen c0)
  old : ∀ e ∈ es.toList, e.born < since
  le : since ≤ c0
  le2 : since ≤ clock
  left : ∀ p, p ∈ rest ↔ ∃ (j : Nat) (e : MapEntry), m[j]? = some p ∧ es.toList[j]? = some e ∧ seen.contains e.born = false
  last : ∀ p, cur = some p → c0 = clock ∧ ∃ (e : MapEntry) (s' : Array Nat), e ∈ es.toList ∧ e.key = K p.1 ∧ e.val = V p.2 ∧ seen = s'.push e.born
def rngPc {α β : Type} (b r : Nat) (K : α → Value) (V : β → Value) (Good : α → Prop) (m rest : List (α × β)) (cur : Option (α × β)) : Pc where
  ids := [b, r]
  p := fun _ w => r ≠ b ∧ ∃ es clock since seen c0, Rng w b r K V Good m rest cur es clock since seen c0
  carry := fun _ _ _ _ _ hs ⟨hn, es, clock, since, seen, c0, h⟩ => ⟨hn, es, clock, since, seen, c0, { h with hb := (hs b (by simp)).trans h.hb, hr := (hs r (by simp)).trans h.hr }⟩
  lt := fun _ w ⟨_, es, clock, since, seen, c0, h⟩ k hk => by
    simp at hk
    rcases hk with rfl | rfl
    · exact heap_lt h.hb
    · exact heap_lt h.hr
theorem ex_map {w : World} {b : Nat} {o : Obj} (hb : b < w.heap.size) : Ext [b] w (Go.ChangeMaps.setBlock w b o) :=
  ⟨rfl, rfl, rfl, by simp [Go.ChangeMaps.setBlock], fun k _ hn => by
    have : b ≠ k := fun h => hn (by simp [h])
    simp [Go.ChangeMaps.setBlock, Array.getElem?_setIfInBounds_ne this]⟩
theorem sb_same {w : World} {b : Nat} {o : Obj} (hb : b < w.heap.size) : (Go.ChangeMaps.setBlock w b o).heap[b]? = some o := by
  simp [Go.ChangeMaps.setBlock, Array.getElem?_setIfInBounds_self, hb]
theorem sb_other {w : World} {b k : Nat} {o : Obj} (h : b ≠ k) : (Go.ChangeMaps.setBlock w b o).heap[k]? = w.heap[k]? := by
  simp [Go.ChangeMaps.setBlock, Array.getElem?_setIfInBounds_ne h]
section
variable {α β : Type} {w : World} {b r : Nat} {K : α → Value} {V : β → Value} {Good : α → Prop} {m rest : List (α × β)} {cur : Option (α × β)} {es : Array MapEntry} {clock since : Nat} {seen : Array Nat} {c0 : Nat}
theorem enc_len {es : List MapEntry} (h : es.map (fun e => (e.key, e.val)) = m.map (fun p => (K p.1, V p.2))) : es.length = m.length := by
  have h3 := congrArg List.length h
  simpa using h3
theorem enc_at {es : List MapEntry} (h : es.map (fun e => (e.key, e.val)) = m.map (fun p => (K p.1, V p.2))) {j : Nat} {e : MapEntry} {p : α × β} (he : es[j]? = some e) (hp : m[j]? = some p) : e.key = K p.1 ∧ e.val = V p.2 := by
  have h1 : (es.map (fun e => (e.key, e.val)))[j]? = (m.map (fun p => (K p.1, V p.2)))[j]? := by rw [h]
  rw [List.getElem?_map, List.getElem?_map, he, hp] at h1
  simpa using h1
theorem nd_at {l : List (α × β)} (h : (l.map (·.1)).Nodup) {i j : Nat} {p q : α × β} (hi : l[i]? = some p) (hj : l[j]? = some q) : p.1 = q.1 ↔ i = j := by
  have hi2 : (l.map (·.1))[i]? = some p.1 := by rw [List.getElem?_map, hi]; rfl
  have hj2 : (l.map (·.1))[j]? = some q.1 := by rw [List.getElem?_map, hj]; rfl
  constructor
  · intro e
    have hlt : i < (l.map (·.1)).length := (List.getElem?_eq_some_iff.1 hi2).1
    exact (List.getElem?_inj hlt h).1 (by rw [hi2, hj2, e])
  · rintro rfl
    rw [hi] at hj
    cases hj
    rfl
theorem bn_at {l : List MapEntry} (h : (l.map (·.born)).Nodup) {i j : Nat} {p q : MapEntry} (hi : l[i]? = some p) (hj : l[j]? = some q) : p.born = q.born ↔ i = j := by
  have hi2 : (l.map (·.born))[i]? = some p.born := by rw [List.getElem?_map, hi]; rfl
  have hj2 : (l.map (·.born))[j]? = some q.born := by rw [List.getElem?_map, hj]; rfl
  constructor
  · intro e
    have hlt : i < (l.map (·.born)).length := (List.getElem?_eq_some_iff.1 hi2).1
    exact (List.getElem?_inj hlt h).1 (by rw [hi2, hj2, e])
  · rintro rfl
    rw [hi] at hj
    cases hj
    rfl
theorem Rng.sub (h : Rng w b r K V Good m rest cur es clock since seen c0) : ∀ p ∈ rest, p ∈ m := fun p hp => by
  obtain ⟨j, e, h1, _⟩ := (h.left p).1 hp
  exact List.mem_of_getElem? h1
theorem Rng.map (h : Rng w b r K V Good m rest cur es clock since seen c0) : MapOf w b K V Good m := ⟨es, clock, h.hb, h.he, h.nd, h.good, h.born, h.bnd⟩
/-- The step. -/
theorem Rng.next [DecidableEq α] {P : Program} (hne : r ≠ b) (h : Rng w b r K V Good m rest cur es clock since seen c0) (ty : TypeId) :
    (rest = [] ∧ (Instr.next (.pointer (some ⟨r, 0, none⟩)) false ty).run P w = .ok (.tuple #[.bool false]) w) ∨
    ∃ p ∈ rest, ∃ w', (Instr.next (.pointer (some ⟨r, 0, none⟩)) false ty).run P w = .ok (.tuple #[.bool true, K p.1, V p.2]) w' ∧ Ext [b, r] w w' ∧
      ∃ seen' c0', Rng w' b r K V Good m (rest.filter fun q => decide (q.1 ≠ p.1)) (some p) es clock since seen' c0' := by
  have hmem : ∀ e, e ∈ (leftOf es seen).toList ↔ e ∈ es.toList ∧ seen.contains e.born = false := fun e => by
    unfold leftOf
    rw [Array.toList_filter, List.mem_filter]
    cases seen.contains e.born <;> simp
  rcases run_next_at (P := P) w ty r b since c0 seen es clock h.hr h.hb h.old h.le with ⟨h0, hrun⟩ | ⟨e, he, w1, hw1, hrun⟩
  · refine .inl ⟨?_, hrun⟩
    rw [List.eq_nil_iff_forall_not_mem]
    intro p hp
    obtain ⟨j, e, _, h2, h3⟩ := (h.left p).1 hp
    have h4 := (hmem e).2 ⟨List.mem_of_getElem? h2, h3⟩
    have h5 : (leftOf es seen).toList = [] := List.length_eq_zero_iff.1 (by simpa using h0)
    rw [h5] at h4
    cases h4
  · obtain ⟨h1, h2⟩ := (hmem e).1 he
    obtain ⟨j, hj⟩ := List.getElem?_of_mem h1
    have hjl : j < es.toList.length := (List.getElem?_eq_some_iff.1 hj).1
    have hjm : j < m.length := by rw [← enc_len h.he]; exact hjl
    obtain ⟨p, hp⟩ : ∃ p, m[j]? = some p := ⟨_, List.getElem?_eq_getElem hjm⟩
    obtain ⟨hk, hv⟩ := enc_at h.he hj hp
    have hheap : w1.heap = w.heap := by rcases hw1 with rfl | rfl <;> rfl
    have hx1 : Ext [] w w1 := by
      rcases hw1 with rfl | rfl
      · exact Ext.refl _
      · exact (Ext.refl _).drew
    have hrl : r < w1.heap.size := by rw [hheap]; exact heap_lt h.hr
    refine .inr ⟨p, (h.left p).2 ⟨j, e, hp, hj, h2⟩, _, by rw [← hk, ← hv]; exact hrun, ?_, _, _, ⟨?_, h.he, h.nd, h.good, h.born, h.bnd, sb_same hrl, h.old, ?_, ?_, ?_, ?_⟩⟩
    · refine ⟨(ex_map hrl).os.trans hx1.os, (ex_map hrl).tape.trans hx1.tape, (ex_map hrl).output.trans hx1.output, Nat.le_trans hx1.size (ex_map hrl).size, fun k hk2 hn => ?_⟩
      rw [(ex_map hrl).block k (by rw [hheap]; exact hk2) (fun hk3 => hn (by simp at hk3; simp [hk3])), hheap]
    · rw [sb_other hne, hheap]
      exact h.hb
    · exact h.le2
    · exact h.le2
    · intro q
      rw [List.mem_filter, h.left q, decide_eq_true_eq]
      constructor
      · rintro ⟨⟨i, e', h3, h4, h5⟩, h6⟩
        refine ⟨i, e', h3, h4, ?_⟩
        rw [Array.contains_push, h5, Bool.false_or, beq_eq_false_iff_ne]
        intro e6
        exact h6 ((nd_at h.nd h3 hp).2 ((bn_at h.bnd h4 hj).1 e6))
      · rintro ⟨i, e', h3, h4, h5⟩
        rw [Array.contains_push, Bool.or_eq_false_iff, beq_eq_false_iff_ne] at h5
        refine ⟨⟨i, e', h3, h4, h5.1⟩, fun e6 => h5.2 ?_⟩
        exact (bn_at h.bnd h4 hj).2 ((nd_at h.nd h3 hp).1 e6)
    · intro p' hp'
      cases hp'
      exact ⟨rfl, e, seen, h1, hk, hv, rfl⟩
end
section
variable {P : Program} {n : Nat} {W : Wd} {σ τ : Blks} {l : Slots} {X : List Nat} {x y z : Operand} {d : Option Nat} {ty t k e : TypeId} {pos : String} {aft : Array Edge} {g : Option (Nat × Bool)} {b r : Nat} {A B C : Abs}
variable {α β : Type} [DecidableEq α] {K : α → Value} {V : β → Value} {Good : α → Prop} {m rest : List (α × β)} {cur : Option (α × β)} {a : α} {p : α × β} {Q : Exit → Act → World → Prop}
omit [DecidableEq α] in
/-- 'range m'. -/
theorem Eff.rangeMap {τ : Nat → Blks} (ht : P.underlying t = some (.map k e)) (hx : look l x = some (mapV b)) (hu : ∀ r, Upd (.pc (mapPc b K V Good m)) (.pc (rngPc b r K V Good m m none)) σ (τ r)) :
    Eff P n W σ l [b] ⟨d, .range t x, ty, pos, aft, g⟩ fun u τ' => ∃ r : Nat, u = .v (.pointer (some ⟨r, 0, none⟩)) ∧ τ' = τ r := fun ac w hs => by
  have h1 : MapOf w b K V Good m := hs.mem.hold _ (hu 0).mem
  obtain ⟨es, clock, hb, he, hnd, hg, hborn, hbnd⟩ := h1
  have hbl := heap_lt hb
  have hne : w.heap.size ≠ b := by omega
  have hx2 : Ext [b] w (w.alloc (.mapIter (some b) clock #[] clock)) := (Ext.new w _).mono (by simp)
  have hal : ∀ k, k < w.heap.size → (w.alloc (.mapIter (some b) clock #[] clock)).heap[k]? = w.heap[k]? := fun k hk => (Ext.new w _).block k hk (by simp)
  have h4 := hs.mem.upd (hu w.heap.size) (hx2.mono (by simp [It.mids, mapPc])) (by simp [It.mids, rngPc, Ne.symm hne]) (fun k hk => by
      simp [It.mids, rngPc] at hk
      rcases hk with rfl | rfl
      · exact .inl (by simp [It.mids, mapPc])
      · exact .inr (Nat.le_refl _)) rfl (fun _ => ⟨hne, es, clock, clock, #[], clock, (hal b hbl).trans hb, he, hnd, hg, hborn, hbnd, heap_alloc_new w _, hborn, Nat.le_refl _, Nat.le_refl _, fun p => ?_, fun p hp => by cases hp⟩)
  · refine ⟨.pointer (some ⟨w.heap.size, 0, none⟩), _, _, _, ⟨_, rfl, rfl⟩, hx2, rfl, h4.1, h4.2, .inl ?_⟩
    simp [execOp, hs.plain hx, run_range_map w t k e b es clock ht hb, Sem.run_bind, Result.andThen]
  · constructor
    · intro hp
      obtain ⟨j, hj⟩ := List.getElem?_of_mem hp
      have hjl : j < es.toList.length := by rw [enc_len he]; exact (List.getElem?_eq_some_iff.1 hj).1
      exact ⟨j, _, hj, List.getElem?_eq_getElem hjl, by simp⟩
    · rintro ⟨j, e, h1, _⟩
      exact List.mem_of_getElem? h1
/-- One step of it. -/
theorem Eff.nextMap {τ : List (α × β) → Option (α × β) → Blks} (hx : look l x = some (.v (.pointer (some ⟨r, 0, none⟩)))) (hu : ∀ rest' cur', Upd (.pc (rngPc b r K V Good m rest cur)) (.pc (rngPc b r K V Good m rest' cur')) σ (τ rest' cur')) :
    Eff P n W σ l [b, r] ⟨d, .next x false, ty, pos, aft, g⟩ fun u τ' => ∃ (o : Option (α × β)) (rest' : List (α × β)), (o = none → rest = []) ∧ (∀ p, o = some p → p ∈ rest ∧ rest' = rest.filter fun q => decide (q.1 ≠ p.1)) ∧
      u = .tup (.v (.bool o.isSome) :: (match o with | none => [] | some p => [.v (K p.1), .v (V p.2)])) ∧ τ' = τ rest' o := fun ac w hs => by
  obtain ⟨hne, es, clock, since, seen, c0, h⟩ : (rngPc b r K V Good m rest cur).p _ w := hs.mem.hold _ (hu [] none).mem
  have hnd : (It.pc (rngPc b r K V Good m rest cur)).mids.Nodup := by simp [It.mids, rngPc, Ne.symm hne]
  rcases h.next (P := P) hne ty with ⟨h0, hrun⟩ | ⟨p, hp, w', hrun, hx2, seen', c0', h'⟩
  · have h4 := hs.mem.upd (hu rest none) (Ext.refl w) hnd (fun k hk => .inl hk) rfl (fun hc => (rngPc b r K V Good m rest none).carry _ _ _ _ hc (fun _ _ => rfl) ⟨hne, es, clock, since, seen, c0, { h with last := fun p hp => by cases hp }⟩)
    refine ⟨.tuple #[.bool false], w, _, _, ⟨none, rest, fun _ => h0, fun p hp => (by cases hp), rfl, rfl⟩, Ext.refl w, ⟨[.bool false], rfl, _, _, rfl, rfl, rfl⟩, h4.1, h4.2, .inl ?_⟩
    simp [execOp, hs.plain hx, hrun, Sem.run_bind, Result.andThen]
  · have h4 := hs.mem.upd (hu _ (some p)) (hx2.mono (by simp [It.mids, rngPc])) hnd (fun k hk => .inl hk) rfl (fun hc => ⟨hne, es, clock, since, seen', c0', h'⟩)
    refine ⟨.tuple #[.bool true, K p.1, V p.2], w', _, _, ⟨some p, _, fun h => (by cases h), fun q hq => (by cases hq; exact ⟨hp, rfl⟩), rfl, rfl⟩, hx2, ⟨[.bool true, K p.1, V p.2], rfl, _, _, rfl, rfl, _, _, rfl, rfl, _, _, rfl, rfl, rfl⟩, h4.1, h4.2, .inl ?_⟩
    simp [execOp, hs.plain hx, hrun, Sem.run_bind, Result.andThen]
omit [DecidableEq α] in
/-- The entry that came last. -/
theorem Val.entryMap (hx : look l x = some (.v (.pointer (some ⟨r, 0, none⟩)))) (hb : It.pc (rngPc b r K V Good m rest (some p)) ∈ σ) (hX : b ∉ X ∧ r ∉ X) : Val P n W σ l X ⟨d, .entry x, ty, pos, aft, g⟩ (.tup [.v (K p.1), .v (V p.2)]) := fun ac w hs _ => by
  obtain ⟨hne, es, clock, since, seen, c0, h⟩ : (rngPc b r K V Good m rest (some p)).p _ w := hs.mem.hold _ hb
  obtain ⟨rfl, e, s', he, hk, hv, rfl⟩ := h.last p rfl
  refine ⟨.tuple #[K p.1, V p.2], ⟨[K p.1, V p.2], rfl, _, _, rfl, rfl, _, _, rfl, rfl, rfl⟩, fun w' hw' => ?_⟩
  have h1 := run_entry_at (P := P) w' r b since s' es c0 e ((hw'.block r (heap_lt h.hr) hX.2).trans h.hr) ((hw'.block b (heap_lt h.hb) hX.1).trans h.hb) he h.bnd
  rw [hk, hv] at h1
  simp [execOp, hs.plain hx, h1, Sem.run_bind, Result.andThen]
omit [DecidableEq α] in
/-- The range is over. -/
theorem SC.rngDone {c : Code} (hu : Upd (.pc (rngPc b r K V Good m rest cur)) (.pc (mapPc b K V Good m)) σ τ) (q : SC P c (St n W τ l) Q) : SC P c (St n W σ l) Q := fun ac w hs => by
  obtain ⟨hne, es, clock, since, seen, c0, h⟩ : (rngPc b r K V Good m rest cur).p _ w := hs.mem.hold _ hu.mem
  have h4 := hs.mem.upd hu (Ext.refl w) (by simp [It.mids, mapPc]) (fun k hk => .inl (by simp [It.mids, mapPc, rngPc] at hk ⊢; exact .inl hk)) rfl (fun _ => h.map)
  exact q ac w (hs.to h4.1 h4.2)
theorem rest_less (h : p ∈ rest) : (rest.filter fun q => decide (q.1 ≠ p.1)).length < rest.length := List.length_filter_lt_length_iff_exists.2 ⟨p, h, by simp⟩
end
end Go.Proofs.YtnedfcaoggkmnaaGreatDoor.A
/-
  TimelineEvents: the law.
-/
set_option maxRecDepth 100000
set_option linter.unusedSimpArgs false
set_option linter.unusedVariables false
namespace Go.Proofs.YtnedfcaoggkmnaaGreatDoor.A
open Go.RowKit

theorem optSome {α : Type} {o : Option α} (h : o.isSome = true) : ∃ v, o = some v := Option.isSome_iff_exists.1 h
theorem optNone {α : Type} {o : Option α} (h : o.isSome = false) : o = none := by simpa using h
section
variable {name : ByteArray} {n state : Int} {l : Lg} {h : List (List Ent)} {x : Ltr} {e1 e2 : Value}
end
end Go.Proofs.YtnedfcaoggkmnaaGreatDoor.A
/-
  TimelineClients: the law.
-/
set_option maxRecDepth 100000
set_option linter.unusedSimpArgs false
set_option linter.unusedVariables false
namespace Go.Proofs.YtnedfcaoggkmnaaGreatDoor.A
open Go.RowKit

section
variable {name : ByteArray} {n state : Int} {l : Lg} {h : List (List Ent)} {x : Ltr} {e1 e2 : Value}
set_option maxHeartbeats 4000000 in
theorem tclients_s (he : isIf e1) (hr : isIf e2) (hh : HisIns h) : Spec Tryz.prog 6 [histA h, int n] (globs e1 e2) (fun _ : Unit => []) (fun _ => boo true) := by
  have hnl := fun (g : ∀ b ∈ h, b.length ≤ 10) => evsH_len (n := n) h 0 Lg.zero g
  have hts := two_sums (n := n) (h := h)
  obtain ⟨rf1, rf2, rf3⟩ := refF_all (n := n) (h := h)
  obtain ⟨cf1, cf2, cf3, cf4⟩ := cliF_all (n := n) (h := h)
  refine spec_of Tryz.func6 rfl Tryz.ntmps6 rfl fun G w => ?_
  refine SC.seq (SC.region ?_)
  refine SL.val (Val.assign rfl) rfl rfl ?_
  refine SL.nil (SE.seq ?_)
  refine SC.seq ?_
  refine SC.seq (SC.region ?_)
  refine SL.call (fixed42_s he hr) Casts.refl (by kernel_rfl) rfl rfl rfl ?_
  refine After.pure (by repeat (first | exact Reads.nil | (refine Reads.blk ?_ ?_; focus ((repeat first|assumption|exact m0|apply m1); done)) | (refine Reads.rd ?_ ?_; focus ((repeat first|assumption|exact m0|apply m1); done)) | (refine Reads.pc ?_ ?_; focus ((repeat first|assumption|exact m0|apply m1); done)) | (refine Reads.rdpc ?_ ?_; focus ((repeat first|assumption|exact m0|apply m1); done)))) (fun _ => rfl) ?_
  intro _
  refine SL.val (Val.notT rfl) rfl rfl ?_
  refine SL.nil (SE.seq ?_)
  refine SC.condF rfl ?_
  refine SC.skip ?_
  refine SE.seq ?_
  refine SC.seq ?_
  refine SC.seq (SC.region ?_)
  refine SL.val (Val.move rfl) rfl rfl ?_
  refine SL.call (few42_s (h := h)) Casts.refl (by kernel_rfl) rfl rfl rfl ?_
  refine After.pure (by repeat (first | exact Reads.nil | (refine Reads.blk ?_ ?_; focus ((repeat first|assumption|exact m0|apply m1); done)) | (refine Reads.rd ?_ ?_; focus ((repeat first|assumption|exact m0|apply m1); done)) | (refine Reads.pc ?_ ?_; focus ((repeat first|assumption|exact m0|apply m1); done)) | (refine Reads.rdpc ?_ ?_; focus ((repeat first|assumption|exact m0|apply m1); done)))) (fun _ => rfl) ?_
  intro _
  refine SL.val (Val.notP rfl) rfl rfl ?_
  refine SL.nil (SE.seq ?_)
  refine SC.condP rfl ?_ ?_
  · intro hc21
    refine SC.seq (SC.region ?_)
    refine SL.val (Val.assign rfl) rfl rfl ?_
    refine SL.nil (SE.seq ?_)
    refine SC.ret ?_
    refine SE.then_ (by intro h; cases h) ?_
    refine SE.fin (rs := [.tmp 4]) rfl (RV.tmp rfl RV.nil) (()) (by repeat first|exact s0 _|exact s1 _|apply s2|apply s3) (by simp [It.rids]) ?_
    exact rfl
  intro hc21
  have hfw : FewH h := Classical.byContradiction hc21
  have hro : ∀ b ∈ h, b.length ≤ 10 := fun b hb => hfw.row hb
  have hn40 : h.length ≤ 40 := hfw.len
  have hss := hfw.szs
  have hel := hnl hro
  refine SC.skip ?_
  refine SE.seq ?_
  refine SC.seq (SC.region ?_)
  refine SL.val (Val.move rfl) rfl rfl ?_
  refine SL.val (Val.move rfl) rfl rfl ?_
  refine SL.call (rall_s (n := n) hh hro hn40 hss) Casts.refl (by kernel_rfl) rfl rfl rfl ?_
  refine After.pure (by repeat (first | exact Reads.nil | (refine Reads.blk ?_ ?_; focus ((repeat first|assumption|exact m0|apply m1); done)) | (refine Reads.rd ?_ ?_; focus ((repeat first|assumption|exact m0|apply m1); done)) | (refine Reads.pc ?_ ?_; focus ((repeat first|assumption|exact m0|apply m1); done)) | (refine Reads.rdpc ?_ ?_; focus ((repeat first|assumption|exact m0|apply m1); done)))) (fun _ => rfl) ?_
  intro _
  refine SL.val (Val.move rfl) rfl rfl ?_
  refine SL.val (Val.extract rfl rfl) rfl rfl ?_
  refine SL.val (Val.extract rfl rfl) rfl rfl ?_
  refine SL.val (Val.assign rfl) rfl rfl ?_
  refine SL.val (Val.assign rfl) rfl rfl ?_
  refine SL.nil (SE.seq ?_)
  refine SC.seq (SC.region ?_)
  refine SL.val (Val.move rfl) rfl rfl ?_
  refine SL.val (Val.move rfl) rfl rfl ?_
  refine SL.call (clients_s (n := n) (h := h) he hr hh hro hn40) Casts.refl (by kernel_rfl) rfl rfl rfl ?_
  refine After.make (by repeat (first | exact Reads.nil | (refine Reads.blk ?_ ?_; focus ((repeat first|assumption|exact m0|apply m1); done)) | (refine Reads.rd ?_ ?_; focus ((repeat first|assumption|exact m0|apply m1); done)) | (refine Reads.pc ?_ ?_; focus ((repeat first|assumption|exact m0|apply m1); done)) | (refine Reads.rdpc ?_ ?_; focus ((repeat first|assumption|exact m0|apply m1); done)))) (fun _ => rfl) ?_
  intro mC
  refine SL.val (Val.assign rfl) rfl rfl ?_
  refine SL.nil (SE.seq ?_)
  refine SC.seq (SC.region ?_)
  refine SL.val (Val.assign rfl) rfl rfl ?_
  refine SL.nil (SE.seq ?_)
  refine SC.seq ?_
  refine SC.seq (SC.region ?_)
  refine SL.val (Val.move rfl) rfl rfl ?_
  refine SL.val (Val.move rfl) rfl rfl ?_
  refine SL.call (refused_s (n := n) (h := h) he hr hh hro hn40) Casts.refl (by kernel_rfl) rfl rfl rfl ?_
  refine After.make (by repeat (first | exact Reads.nil | (refine Reads.blk ?_ ?_; focus ((repeat first|assumption|exact m0|apply m1); done)) | (refine Reads.rd ?_ ?_; focus ((repeat first|assumption|exact m0|apply m1); done)) | (refine Reads.pc ?_ ?_; focus ((repeat first|assumption|exact m0|apply m1); done)) | (refine Reads.rdpc ?_ ?_; focus ((repeat first|assumption|exact m0|apply m1); done)))) (fun _ => rfl) ?_
  intro mR
  refine SL.eff (Eff.rangeMap (K := intK) (V := cntV) (Good := intOk) (m := (refF n h)) Tryz.underlying30 rfl (fun _ => (by repeat first|assumption|exact Upd.here|apply Upd.there))) rfl rfl ?_
  rintro _ _ ⟨r34, rfl, rfl⟩
  refine SL.nil (SE.seq ?_)
  refine SC.block ?_
  refine SC.loop (ι := List (Int × Nat) × Option (Int × Nat)) (fun y => (.pc (rngPc mR r34 intK cntV intOk (refF n h) y.1 y.2) :: .pc (mapPc mC intK cntV intOk (cliF n h)) :: (globs e1 e2))) (fun y => [(5, .sl 6 (((evsH n 0 Lg.zero h).map (·.1)).map Ev.abs)), (7, mapV mC), (8, int ((sumV (refF n h) - sumV y.1 : Nat) : Int)), (34, ptr r34)]) (fun y => sumV y.1 ≤ sumV (refF n h) ∧ (y.1.map (·.1)).Nodup ∧ (∀ p ∈ y.1, p ∈ (refF n h))) (fun y => y.1.length) ((refF n h), none) (⟨Nat.le_refl _, rf1, fun p hp => hp⟩) (by exact ⟨rfl, rfl, congrArg (fun x : Nat => some (int (x : Int))) (Nat.sub_self _).symm, rfl, trivial⟩) (by repeat first|exact s0 _|exact s1 _|apply s2|apply s3) ?_
  intro y hy
  refine SC.seq (SC.region ?_)
  refine SL.eff (Eff.nextMap (K := intK) (V := cntV) (Good := intOk) (m := (refF n h)) (rest := y.1) (cur := y.2) rfl (fun _ _ => (by repeat first|assumption|exact Upd.here|apply Upd.there))) rfl rfl ?_
  rintro _ _ ⟨o, rest', ho, hpo, rfl, rfl⟩
  refine SL.val (Val.extract rfl rfl) rfl rfl ?_
  refine SL.nil (SE.seq ?_)
  refine SC.seq ?_
  refine SC.cond rfl ?_ ?_
  · intro hc36
    obtain ⟨p, rfl⟩ := optSome hc36
    obtain ⟨hpm, hre⟩ := hpo p rfl
    subst hre
    have hls := rest_less hpm
    have hsp := sum_pick hy.2.1 hpm
    refine SC.skip ?_
    refine SE.seq ?_
    refine SC.block ?_
    refine SC.seq (SC.region ?_)
    refine SL.val (Val.entryMap rfl (by repeat first|assumption|exact m0|apply m1) ⟨List.not_mem_nil, List.not_mem_nil⟩) rfl rfl ?_
    refine SL.val (Val.to (C := int (p.2 : Nat)) (Val.extract rfl rfl) rfl) rfl rfl ?_
    refine SL.val (Val.assign rfl) rfl rfl ?_
    refine SL.nil (SE.seq ?_)
    refine SC.region ?_
    refine SL.val (Val.move rfl) rfl rfl ?_
    refine SL.val (Val.move rfl) rfl rfl ?_
    refine SL.val (Val.to (C := int ((sumV (refF n h) - sumV (y.1.filter (fun q => decide (q.1 ≠ p.1))) : Nat) : Int)) (Val.addI rfl rfl (by simp only [InR, lo, hi]; omega)) (by refine congrArg int ?_; omega)) rfl rfl ?_
    refine SL.val (Val.assign rfl) rfl rfl ?_
    refine SL.nil ?_
    refine SE.inBlock ?_
    refine SE.round (y.1.filter (fun q => decide (q.1 ≠ p.1)), some p) (by exact hls) (⟨by dsimp only; omega, pick_nodup hy.2.1 _, fun q hq => hy.2.2 q ((List.mem_filter.1 hq).1)⟩) (by exact ⟨rfl, rfl, rfl, rfl, trivial⟩) (by repeat first|exact s0 _|exact s1 _|apply s2|apply s3)
  intro hc36
  have ho2 := optNone hc36
  subst ho2
  have hr0 := ho rfl
  refine SC.exit ?_
  refine SE.then_ (by intro h; cases h) ?_
  refine SE.then_ (by intro h; cases h) ?_
  refine SE.exit ?_
  refine SE.seq ?_
  refine SC.seq ?_
  refine SC.seq (SC.region ?_)
  refine SL.val (Val.move rfl) rfl rfl ?_
  refine SL.eff (Eff.rangeMap (K := intK) (V := cntV) (Good := intOk) (m := (cliF n h)) Tryz.underlying51 rfl (fun _ => (by repeat first|assumption|exact Upd.here|apply Upd.there))) rfl rfl ?_
  rintro _ _ ⟨r43, rfl, rfl⟩
  refine SL.nil (SE.seq ?_)
  refine SC.block ?_
  refine SC.loop (ι := List (Int × Nat) × Option (Int × Nat)) (fun y => (.pc (rngPc mC r43 intK cntV intOk (cliF n h) y.1 y.2) :: (globs e1 e2))) (fun y => [(5, .sl 6 (((evsH n 0 Lg.zero h).map (·.1)).map Ev.abs)), (7, mapV mC), (8, int ((sumV (refF n h) + (sumV (cliF n h) - sumV y.1) : Nat) : Int)), (43, ptr r43)]) (fun y => sumV y.1 ≤ sumV (cliF n h) ∧ (y.1.map (·.1)).Nodup ∧ (∀ p ∈ y.1, p ∈ (cliF n h))) (fun y => y.1.length) ((cliF n h), none) (⟨Nat.le_refl _, cf1, fun p hp => hp⟩) (by exact ⟨rfl, rfl, congrArg (fun x : Nat => some (int (x : Int))) (by rw [hr0]; show sumV (refF n h) - 0 = sumV (refF n h) + (sumV (cliF n h) - sumV (cliF n h)); omega), rfl, trivial⟩) (by repeat first|exact s0 _|exact s1 _|apply s2|apply s3) ?_
  intro y hy
  refine SC.seq (SC.region ?_)
  refine SL.eff (Eff.nextMap (K := intK) (V := cntV) (Good := intOk) (m := (cliF n h)) (rest := y.1) (cur := y.2) rfl (fun _ _ => (by repeat first|assumption|exact Upd.here|apply Upd.there))) rfl rfl ?_
  rintro _ _ ⟨o, rest', ho, hpo, rfl, rfl⟩
  refine SL.val (Val.extract rfl rfl) rfl rfl ?_
  refine SL.nil (SE.seq ?_)
  refine SC.seq ?_
  refine SC.cond rfl ?_ ?_
  · intro hc45
    obtain ⟨p, rfl⟩ := optSome hc45
    obtain ⟨hpm, hre⟩ := hpo p rfl
    subst hre
    have hls := rest_less hpm
    have hsp := sum_pick hy.2.1 hpm
    refine SC.skip ?_
    refine SE.seq ?_
    refine SC.block ?_
    refine SC.seq (SC.region ?_)
    refine SL.val (Val.entryMap rfl (by repeat first|assumption|exact m0|apply m1) ⟨List.not_mem_nil, List.not_mem_nil⟩) rfl rfl ?_
    refine SL.val (Val.to (C := int (p.2 : Nat)) (Val.extract rfl rfl) rfl) rfl rfl ?_
    refine SL.val (Val.assign rfl) rfl rfl ?_
    refine SL.nil (SE.seq ?_)
    refine SC.seq ?_
    refine SC.seq (SC.region ?_)
    refine SL.val (Val.move rfl) rfl rfl ?_
    refine SL.val (Val.ltI rfl rfl) rfl rfl ?_
    refine SL.nil (SE.seq ?_)
    refine SC.condP rfl (by intro hc49; exfalso; have hp0 := cf4 p (hy.2.2 p hpm); omega) ?_
    intro hc49
    refine SC.skip ?_
    refine SE.seq ?_
    refine SC.region ?_
    refine SL.val (Val.move rfl) rfl rfl ?_
    refine SL.val (Val.move rfl) rfl rfl ?_
    refine SL.val (Val.to (C := int ((sumV (refF n h) + (sumV (cliF n h) - sumV (y.1.filter (fun q => decide (q.1 ≠ p.1)))) : Nat) : Int)) (Val.addI rfl rfl (by simp only [InR, lo, hi]; omega)) (by refine congrArg int ?_; omega)) rfl rfl ?_
    refine SL.val (Val.assign rfl) rfl rfl ?_
    refine SL.nil ?_
    refine SE.inBlock ?_
    refine SE.round (y.1.filter (fun q => decide (q.1 ≠ p.1)), some p) (by exact hls) (⟨by dsimp only; omega, pick_nodup hy.2.1 _, fun q hq => hy.2.2 q ((List.mem_filter.1 hq).1)⟩) (by exact ⟨rfl, rfl, rfl, rfl, trivial⟩) (by repeat first|exact s0 _|exact s1 _|apply s2|apply s3)
  intro hc45
  have ho2 := optNone hc45
  subst ho2
  have hr0 := ho rfl
  refine SC.exit ?_
  refine SE.then_ (by intro h; cases h) ?_
  refine SE.then_ (by intro h; cases h) ?_
  refine SE.exit ?_
  refine SE.seq ?_
  refine SC.seq ?_
  refine SC.seq (SC.region ?_)
  refine SL.val (Val.move rfl) rfl rfl ?_
  refine SL.val (Val.to (C := int ((evsH n 0 Lg.zero h).length : Nat)) (Val.lenSl (m := (evsH n 0 Lg.zero h).length) rfl Tryz.underlying25 (by rw [List.length_map, List.length_map])) rfl) rfl rfl ?_
  refine SL.val (Val.move rfl) rfl rfl ?_
  refine SL.nil (SE.seq ?_)
  refine SC.block ?_
  refine SC.rngDone (by repeat first|assumption|exact Upd.here|apply Upd.there) ?_
  refine SC.loop (ι := Nat × List (Int × Nat)) (fun z => (.pc (mapPc mC intK cntV intOk z.2) :: (globs e1 e2))) (fun z => [(5, .sl 6 (((evsH n 0 Lg.zero h).map (·.1)).map Ev.abs)), (7, mapV mC), (8, int ((evsH n 0 Lg.zero h).length : Nat)), (53, .sl 6 (((evsH n 0 Lg.zero h).map (·.1)).map Ev.abs)), (54, int ((evsH n 0 Lg.zero h).length : Nat)), (55, int (z.1 : Nat))]) (fun z => z.1 ≤ (evsH n 0 Lg.zero h).length ∧ Left z.2 (nCl ((evsH n 0 Lg.zero h).drop z.1))) (fun z => (evsH n 0 Lg.zero h).length - z.1) (0, (cliF n h)) (⟨Nat.zero_le _, cf1, cf2⟩) (by exact ⟨rfl, rfl, congrArg (fun x : Nat => some (int (x : Int))) (by rw [hr0]; show sumV (refF n h) + (sumV (cliF n h) - 0) = _; omega), rfl, rfl, rfl, trivial⟩) (by repeat first|exact s0 _|exact s1 _|apply s2|apply s3) ?_
  intro z hz
  refine SC.seq (SC.region ?_)
  refine SL.val (Val.ltI rfl rfl) rfl rfl ?_
  refine SL.nil (SE.seq ?_)
  refine SC.seq ?_
  refine SC.condP rfl ?_ ?_
  · intro hc56
    have hlt : z.1 < (evsH n 0 Lg.zero h).length := by omega
    have hei := evsH_ins (n := n) (h := h) (i := 0) (by omega) Lg.zero_ins hh _ (List.getElem_mem hlt)
    refine SC.skip ?_
    refine SE.seq ?_
    refine SC.seq ?_
    refine SC.block ?_
    refine SC.seq (SC.region ?_)
    refine SL.val (Val.indexSl (q := z.1) (cs := Ev.abs ((evsH n 0 Lg.zero h)[z.1]'hlt).1) tabOk Tryz.underlying25 rfl rfl rfl rfl (by rw [List.getElem?_map, List.getElem?_map, List.getElem?_eq_getElem hlt]; rfl) rfl rfl) rfl rfl ?_
    refine SL.val (Val.loadAR tabOk rfl rfl rfl (by rfl)) rfl rfl ?_
    refine SL.eff (Eff.alloc tabOk rfl) rfl rfl ?_
    rintro _ _ ⟨b14, rfl, rfl⟩
    refine SL.eff (Eff.store (L' := Ev.abs ((evsH n 0 Lg.zero h)[z.1]'hlt).1) tabOk rfl rfl rfl (by repeat first|assumption|exact Upd.here|apply Upd.there) rfl (Nat.le_of_ble_eq_true (by rfl)) rfl (by exact putL_whole rfl)) rfl rfl ?_
    rintro _ _ ⟨rfl, rfl⟩
    refine SL.nil (SE.seq ?_)
    refine SC.seq (SC.region ?_)
    refine SL.val (Val.fieldAddr tabOk rfl rfl rfl rfl rfl) rfl rfl ?_
    refine SL.val (Val.to (C := int ((evsH n 0 Lg.zero h)[z.1]'hlt).1.result) (Val.load1 tabOk rfl rfl (by first|(apply Or.inl;(repeat first|assumption|exact m0|apply m1);done)|(apply Or.inr;(repeat first|assumption|exact m0|apply m1);done)) List.not_mem_nil (by rfl)) rfl) rfl rfl ?_
    refine SL.val (Val.eqI rfl rfl) rfl rfl ?_
    refine SL.nil (SE.seq ?_)
    refine SC.condP rfl ?_ ?_
    rotate_left
    · intro hc61
      refine SC.skip ?_
      refine SE.inBlock ?_
      refine SE.seq ?_
      refine SC.region ?_
      first
        | refine SL.val (Val.addI rfl rfl (by simp only [InR, lo, hi]; omega)) rfl rfl ?_
        | refine SL.val (Val.addW rfl rfl) rfl rfl ?_
      refine SL.val (Val.move rfl) rfl rfl ?_
      refine SL.nil ?_
      refine SE.round (z.1 + 1, z.2) (by first | omega | (dsimp only; omega)) (⟨by dsimp only; omega, hz.2.stayC hlt hc61⟩) (by exact ⟨rfl, rfl, rfl, rfl, rfl, rfl, trivial⟩) (by repeat first|exact s0 _|exact s1 _|apply s2|apply s3)
    intro hc61
    obtain ⟨hp1, hp2⟩ := hz.2.putC hlt hc61
    have hcb := hz.2.eq_ ((evsH n 0 Lg.zero h)[z.1]'hlt).1.client
    have hnb : nCl ((evsH n 0 Lg.zero h).drop z.1) ((evsH n 0 Lg.zero h)[z.1]'hlt).1.client ≤ (evsH n 0 Lg.zero h).length := Nat.le_trans (List.length_filter_le _ _) (by rw [List.length_drop]; omega)
    refine SC.region ?_
    refine SL.val (Val.move rfl) rfl rfl ?_
    refine SL.val (Val.fieldAddr tabOk rfl rfl rfl rfl rfl) rfl rfl ?_
    refine SL.val (Val.to (C := int ((evsH n 0 Lg.zero h)[z.1]'hlt).1.client) (Val.load1 tabOk rfl rfl (by first|(apply Or.inl;(repeat first|assumption|exact m0|apply m1);done)|(apply Or.inr;(repeat first|assumption|exact m0|apply m1);done)) List.not_mem_nil (by rfl)) rfl) rfl rfl ?_
    refine SL.val (Val.mapGet (a := ((evsH n 0 Lg.zero h)[z.1]'hlt).1.client) (zv := cntV 0) (C := int ((cg z.2 ((evsH n 0 Lg.zero h)[z.1]'hlt).1.client : Nat) : Int)) (int_fit Tryz.underlying3) Tryz.underlying51 zero_int rfl (by first|(apply Or.inl;(repeat first|assumption|exact m0|apply m1);done)|(apply Or.inr;(repeat first|assumption|exact m0|apply m1);done)) List.not_mem_nil rfl is_v (i64_in hei.client) cg_is) rfl rfl ?_
    refine SL.val (Val.to (C := int ((cg z.2 ((evsH n 0 Lg.zero h)[z.1]'hlt).1.client - 1 : Nat) : Int)) (Val.subI rfl rfl (by simp only [InR, lo, hi]; omega)) (by refine congrArg int ?_; omega)) rfl rfl ?_
    refine SL.eff (Eff.mapPut (a := ((evsH n 0 Lg.zero h)[z.1]'hlt).1.client) (v := cg z.2 ((evsH n 0 Lg.zero h)[z.1]'hlt).1.client - 1) (m' := dec1 z.2 ((evsH n 0 Lg.zero h)[z.1]'hlt).1.client) (int_fit Tryz.underlying3) Tryz.underlying51 rfl (by repeat first|assumption|exact Upd.here|apply Upd.there) rfl is_v (i64_in hei.client) rfl is_v rfl) rfl rfl ?_
    rintro _ _ ⟨rfl, rfl⟩
    refine SL.nil ?_
    refine SE.inBlock ?_
    refine SE.seq ?_
    refine SC.region ?_
    first
      | refine SL.val (Val.addI rfl rfl (by simp only [InR, lo, hi]; omega)) rfl rfl ?_
      | refine SL.val (Val.addW rfl rfl) rfl rfl ?_
    refine SL.val (Val.move rfl) rfl rfl ?_
    refine SL.nil ?_
    refine SE.round (z.1 + 1, dec1 z.2 ((evsH n 0 Lg.zero h)[z.1]'hlt).1.client) (by first | omega | (dsimp only; omega)) (⟨by dsimp only; omega, hp1⟩) (by exact ⟨rfl, rfl, rfl, rfl, rfl, rfl, trivial⟩) (by repeat first|exact s0 _|exact s1 _|apply s2|apply s3)
  intro hc56
  obtain ⟨M, hM⟩ : ∃ M, z.2 = M := ⟨_, rfl⟩
  have hzm := hz.2
  rw [hM] at hzm
  have hze : ∀ p ∈ M, p.2 = 0 := hzm.zeros (fun k => by rw [List.drop_eq_nil_of_le (by omega)]; rfl)
  rw [hM]
  refine SC.exit ?_
  refine SE.then_ (by intro h; cases h) ?_
  refine SE.then_ (by intro h; cases h) ?_
  refine SE.exit ?_
  refine SE.seq ?_
  refine SC.seq ?_
  refine SC.seq (SC.region ?_)
  refine SL.val (Val.move rfl) rfl rfl ?_
  refine SL.eff (Eff.rangeMap (K := intK) (V := cntV) (Good := intOk) (m := M) Tryz.underlying51 rfl (fun _ => (by repeat first|assumption|exact Upd.here|apply Upd.there))) rfl rfl ?_
  rintro _ _ ⟨r69, rfl, rfl⟩
  refine SL.nil (SE.seq ?_)
  refine SC.block ?_
  refine SC.loop (ι := List (Int × Nat) × Option (Int × Nat)) (fun y => (.pc (rngPc mC r69 intK cntV intOk M y.1 y.2) :: (globs e1 e2))) (fun y => [(5, .sl 6 (((evsH n 0 Lg.zero h).map (·.1)).map Ev.abs)), (8, int ((evsH n 0 Lg.zero h).length : Nat)), (69, ptr r69)]) (fun y => ∀ p ∈ y.1, p ∈ M) (fun y => y.1.length) (M, none) (fun p hp => hp) (by exact ⟨rfl, rfl, rfl, trivial⟩) (by repeat first|exact s0 _|exact s1 _|apply s2|apply s3) ?_
  intro y hy
  refine SC.seq (SC.region ?_)
  refine SL.eff (Eff.nextMap (K := intK) (V := cntV) (Good := intOk) (m := M) (rest := y.1) (cur := y.2) rfl (fun _ _ => (by repeat first|assumption|exact Upd.here|apply Upd.there))) rfl rfl ?_
  rintro _ _ ⟨o, rest', ho, hpo, rfl, rfl⟩
  refine SL.val (Val.extract rfl rfl) rfl rfl ?_
  refine SL.nil (SE.seq ?_)
  refine SC.seq ?_
  refine SC.cond rfl ?_ ?_
  rotate_left
  · intro hc71
    have ho2 := optNone hc71
    subst ho2
    have hr0 := ho rfl
    refine SC.exit ?_
    refine SE.then_ (by intro h; cases h) ?_
    refine SE.then_ (by intro h; cases h) ?_
    refine SE.exit ?_
    refine SE.seq ?_
    refine SC.seq (SC.region ?_)
    refine SL.val (Val.move rfl) rfl rfl ?_
    refine SL.val (Val.move rfl) rfl rfl ?_
    refine SL.val (Val.to (C := int ((evsH n 0 Lg.zero h).length : Nat)) (Val.lenSl (m := (evsH n 0 Lg.zero h).length) rfl Tryz.underlying25 (by rw [List.length_map, List.length_map])) rfl) rfl rfl ?_
    refine SL.val (Val.to (C := boo true) (Val.eqI rfl rfl) (congrArg (fun b => Abs.v (Value.bool b)) (decide_eq_true (rfl)))) rfl rfl ?_
    refine SL.val (Val.assign rfl) rfl rfl ?_
    refine SL.nil (SE.seq ?_)
    refine SC.ret ?_
    refine SE.fin (rs := [.tmp 4]) rfl (RV.tmp rfl RV.nil) (()) (by repeat first|exact s0 _|exact s1 _|apply s2|apply s3) (by simp [It.rids]) ?_
    exact rfl
  intro hc71
  obtain ⟨p, rfl⟩ := optSome hc71
  obtain ⟨hpm, hre⟩ := hpo p rfl
  subst hre
  have hls := rest_less hpm
  refine SC.skip ?_
  refine SE.seq ?_
  refine SC.block ?_
  refine SC.seq (SC.region ?_)
  refine SL.val (Val.entryMap rfl (by repeat first|assumption|exact m0|apply m1) ⟨List.not_mem_nil, List.not_mem_nil⟩) rfl rfl ?_
  refine SL.val (Val.to (C := int (p.2 : Nat)) (Val.extract rfl rfl) rfl) rfl rfl ?_
  refine SL.val (Val.assign rfl) rfl rfl ?_
  refine SL.nil (SE.seq ?_)
  refine SC.seq (SC.region ?_)
  refine SL.val (Val.move rfl) rfl rfl ?_
  refine SL.val (Val.neI rfl rfl) rfl rfl ?_
  refine SL.nil (SE.seq ?_)
  refine SC.condP rfl (by intro hc75; exfalso; have hp0 := hze p (hy p hpm); omega) ?_
  intro hc75
  refine SC.skip ?_
  refine SE.inBlock ?_
  refine SE.round (y.1.filter (fun q => decide (q.1 ≠ p.1)), some p) (by exact hls) (fun q hq => hy q ((List.mem_filter.1 hq).1)) (by exact ⟨rfl, rfl, rfl, trivial⟩) (by repeat first|exact s0 _|exact s1 _|apply s2|apply s3)
end
end Go.Proofs.YtnedfcaoggkmnaaGreatDoor.A
