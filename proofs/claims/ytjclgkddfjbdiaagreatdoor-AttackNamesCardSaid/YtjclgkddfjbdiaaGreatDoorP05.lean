/-
  Packed out of the texts: Maps, A9, A18, A15, A10, A11, A12, Sum, A13, Doc, A14, A16, A19, A20, A30.
-/
import Derived.Test.YtjclgkddfjbdiaaGreatDoorP04
import Derived.Maps.Keyed
import Derived.Maps.OwnSet
import Derived.Lib.AppendZerosOnto
import Derived.Lib.Overlaps
set_option maxRecDepth 100000
set_option linter.unusedSimpArgs false
set_option linter.unusedVariables false
namespace Go.Proofs.YtjclgkddfjbdiaaGreatDoor
open Go.RowKit
section
variable {α β : Type} [DecidableEq α]
def aget (m : List (α × β)) (a : α) : Option β := (m.find? fun p => decide (p.1 = a)).map (·.2)
def aput (m : List (α × β)) (a : α) (b : β) : List (α × β) := if (aget m a).isSome then m.map fun p => if p.1 = a then (a, b) else p else m ++ [(a, b)]
theorem bf_ (m : List (α × β)) (a : α) : (aget m a).isSome = true ↔ a ∈ m.map (·.1) := by
  unfold aget
  rw [Option.isSome_map, List.find?_isSome]
  simp
theorem jP_ (m : List (α × β)) (a : α) : aget m a = none ↔ a ∉ m.map (·.1) := by
  rw [← bf_]
  cases aget m a <;> simp
theorem f7_ (m : List (α × β)) (a : α) (b : β) : (aput m a b).map (·.1) = if a ∈ m.map (·.1) then m.map (·.1) else m.map (·.1) ++ [a] := by
  unfold aput
  by_cases h : a ∈ m.map (·.1)
  · rw [if_pos ((bf_ m a).2 h), if_pos h, List.map_map]
    apply List.map_congr_left
    intro p _
    simp only [Function.comp]
    split
    · rename_i h1; exact h1.symm
    · rfl
  · rw [if_neg (fun hc => h ((bf_ m a).1 hc)), if_neg h]
    simp
theorem ds_ {m : List (α × β)} (hm : (m.map (·.1)).Nodup) (a : α) (b : β) : ((aput m a b).map (·.1)).Nodup := by
  rw [f7_]
  split
  · exact hm
  · rename_i h
    rw [List.nodup_append]
    exact ⟨hm, by simp, by intro x hx y hy; simp at hy; subst hy; rintro rfl; exact h hx⟩
theorem es_ (m : List (α × β)) (a c : α) (b : β) : aget (aput m a b) c = if c = a then some b else aget m c := by
  unfold aput
  by_cases h : (aget m a).isSome = true
  · rw [if_pos h]
    have hmap : ∀ (m : List (α × β)), ((m.map fun p => if p.1 = a then (a, b) else p).find? fun p => decide (p.1 = c)).map (·.2) = if c = a then (if a ∈ m.map (·.1) then some b else none) else aget m c := by
      intro m
      induction m with
      | nil => simp [aget]
      | cons p m ih =>
        simp only [List.map_cons, List.find?_cons]
        by_cases hp : p.1 = a
        · rw [if_pos hp]
          by_cases hc : c = a
          · subst hc; simp [hp]
          · have hac : ¬ a = c := fun h => hc h.symm
            simp only [hac, decide_false, if_neg hc]
            rw [ih, if_neg hc]
            unfold aget
            simp [hp, hac]
        · rw [if_neg hp]
          by_cases hpc : p.1 = c
          · have hca : ¬ c = a := fun h => hp (hpc.trans h)
            simp [hpc, hca, aget]
          · simp only [hpc, decide_false]
            rw [ih]
            by_cases hca : c = a
            · subst hca
              rw [if_pos rfl, if_pos rfl]
              have : (c ∈ p.1 :: m.map (·.1)) ↔ c ∈ m.map (·.1) := by
                simp only [List.mem_cons]
                constructor
                · rintro (h1 | h1)
                  · exact absurd h1.symm hp
                  · exact h1
                · exact Or.inr
              by_cases hin : c ∈ m.map (·.1)
              · rw [if_pos hin, if_pos (this.2 hin)]
              · rw [if_neg hin, if_neg (fun hh => hin (this.1 hh))]
            · rw [if_neg hca, if_neg hca]
              unfold aget
              simp [hpc]
    have h0 := hmap m
    rw [if_pos ((bf_ m a).1 h)] at h0
    exact h0
  · rw [if_neg h]
    unfold aget
    rw [List.find?_append]
    by_cases hc : c = a
    · subst hc
      have hn : aget m c = none := by cases hg : aget m c <;> simp_all
      have hf : (m.find? fun p => decide (p.1 = c)) = none := by
        unfold aget at hn
        simpa using hn
      rw [hf]
      simp
    · have hac : ¬ a = c := fun h => hc h.symm
      simp [hac, hc]
theorem er_ (m : List (α × β)) (a : α) (b : β) : (aput m a b).length = if (aget m a).isSome then m.length else m.length + 1 := by
  unfold aput
  split <;> simp
end
structure KeyFit {α : Type} (P : Program) (k : TypeId) (K : α → Value) (Good : α → Prop) : Prop where
  keyed : Maps.Keyed P k
  lit : ∀ a, Good a → ∃ l, keyOf P k (K a) = some l
  inj : ∀ a b, Good a → Good b → K a = K b → a = b
def MapOf {α β : Type} (w : World) (b : Nat) (K : α → Value) (V : β → Value) (Good : α → Prop) (m : List (α × β)) : Prop :=
  ∃ es clock, w.heap[b]? = some (.map es clock) ∧ es.toList.map (fun e => (e.key, e.val)) = m.map (fun p => (K p.1, V p.2)) ∧ (m.map (·.1)).Nodup ∧ (∀ p ∈ m, Good p.1) ∧
    (∀ e ∈ es.toList, e.born < clock) ∧ (es.toList.map (·.born)).Nodup
section
variable {α β : Type} {P : Program} {w w' : World} {b : Nat} {k e t : TypeId} {K : α → Value} {V : β → Value} {Good : α → Prop} {m : List (α × β)}
theorem MapOf.lt (h : MapOf w b K V Good m) : b < w.heap.size := by
  obtain ⟨es, clock, hb, _⟩ := h
  rcases Nat.lt_or_ge b w.heap.size with hlt | hge
  · exact hlt
  · rw [Array.getElem?_eq_none hge] at hb; cases hb
theorem MapOf.ext {F : List Nat} (h : MapOf w b K V Good m) (hx : Ext F w w') (hb : b ∉ F) : MapOf w' b K V Good m := by
  have hl := h.lt
  obtain ⟨es, clock, h1, h2⟩ := h
  exact ⟨es, clock, (hx.block b hl hb).trans h1, h2⟩
theorem MapOf.new (w : World) : MapOf (w.alloc (.map #[] 0)) w.heap.size K V Good [] :=
  ⟨#[], 0, heap_alloc_new w _, rfl, by simp, by simp, by simp, by simp⟩
theorem MapOf.alloc (h : MapOf w b K V Good m) (o : Obj) : MapOf (w.alloc o) b K V Good m := h.ext ((Ext.refl (F := []) _).alloc _) (by simp)
theorem fQ_ {es : List MapEntry} (he : es.map (fun e => (e.key, e.val)) = m.map (fun p => (K p.1, V p.2))) {j : Nat} {x : MapEntry} (hx : es[j]? = some x) : ∃ p, m[j]? = some p ∧ x.key = K p.1 ∧ x.val = V p.2 := by
  have h1 : (es.map (fun e => (e.key, e.val)))[j]? = some (x.key, x.val) := by rw [List.getElem?_map, hx]; rfl
  rw [he, List.getElem?_map] at h1
  cases hm : m[j]? with
  | none => rw [hm] at h1; cases h1
  | some p =>
    rw [hm] at h1
    simp at h1
    exact ⟨p, rfl, h1.1.symm, h1.2.symm⟩
variable [DecidableEq α]
theorem hu_ (kf : KeyFit P k K Good) {es : List MapEntry} (he : es.map (fun e => (e.key, e.val)) = m.map (fun p => (K p.1, V p.2))) (hg : ∀ p ∈ m, Good p.1) (hnd : (m.map (·.1)).Nodup) {a : α} (ha : Good a) (w : World) :
    (aget m a = none ∧ (Instr.findKey k (K a) es).run P w = .ok none w) ∨
    ∃ j v, m[j]? = some (a, v) ∧ aget m a = some v ∧ (Instr.findKey k (K a) es).run P w = .ok (some (j, V v)) w := by
  obtain ⟨l, hl⟩ := kf.lit a ha
  have hall : ∀ x ∈ es, ∃ l, keyOf P k x.key = some l := by
    intro x hx
    obtain ⟨j, hj⟩ := List.getElem?_of_mem hx
    obtain ⟨p, hp, hk, _⟩ := fQ_ he hj
    rw [hk]
    exact kf.lit _ (hg p (List.mem_of_getElem? hp))
  rcases kf.keyed.find w hl es hall with ⟨hrun, hne⟩ | ⟨j, x, hrun, hj, hk⟩
  · refine .inl ⟨?_, hrun⟩
    rw [jP_]
    intro hin
    simp only [List.mem_map] at hin
    obtain ⟨p, hp, rfl⟩ := hin
    obtain ⟨j, hj⟩ := List.getElem?_of_mem hp
    have h1 : (m.map (fun p => (K p.1, V p.2)))[j]? = some (K p.1, V p.2) := by rw [List.getElem?_map, hj]; rfl
    rw [← he, List.getElem?_map] at h1
    cases hx : es[j]? with
    | none => rw [hx] at h1; cases h1
    | some x =>
      rw [hx] at h1
      simp at h1
      exact hne x (List.mem_of_getElem? hx) h1.1
  · obtain ⟨p, hp, hk2, hv⟩ := fQ_ he hj
    have hpa : p.1 = a := kf.inj _ _ (hg p (List.mem_of_getElem? hp)) ha (hk2.symm.trans hk)
    obtain ⟨pa, pv⟩ := p
    dsimp only at hpa hv
    subst hpa
    refine .inr ⟨j, pv, hp, ?_, by rw [← hv]; exact hrun⟩
    unfold aget
    have hfind : m.find? (fun p => decide (p.1 = pa)) = some (pa, pv) := by
      rw [List.find?_eq_some_iff_append]
      refine ⟨by simp, ?_⟩
      have hjl := (List.getElem?_eq_some_iff.1 hp)
      obtain ⟨hjl, hje⟩ := hjl
      refine ⟨m.take j, m.drop (j + 1), ?_, ?_⟩
      · rw [← hje, List.getElem_cons_drop, List.take_append_drop]
      · intro q hq
        simp only [Bool.not_eq_true', decide_eq_false_iff_not]
        intro hqa
        obtain ⟨i, hi⟩ := List.getElem?_of_mem hq
        rw [List.getElem?_take] at hi
        split at hi
        · rename_i hij
          have h1 : (m.map (·.1))[i]? = some pa := by rw [List.getElem?_map, hi]; simp [hqa]
          have h2 : (m.map (·.1))[j]? = some pa := by rw [List.getElem?_map, hp]; rfl
          have hil : i < (m.map (·.1)).length := (List.getElem?_eq_some_iff.1 h1).1
          have := (List.getElem?_inj hil hnd).1 (h1.trans h2.symm)
          omega
        · cases hi
    rw [hfind]
    rfl
theorem MapOf.look_run (h : MapOf w b K V Good m) (kf : KeyFit P k K Good) (ht : P.underlying t = some (.map k e)) {z : Value} (hz : (zeroValue e).run P w = .ok z w) {a : α} (ha : Good a) (c : Bool) :
    (Instr.lookup t (.map (some b)) (K a) c).run P w = .ok (if c then .tuple #[((aget m a).map V).getD z, .bool (aget m a).isSome] else ((aget m a).map V).getD z) w := by
  obtain ⟨es, clock, hb, he, hnd, hg, _⟩ := h
  obtain ⟨l, hl⟩ := kf.lit a ha
  have hgo : (getObj b).run P w = .ok (.map es clock) w := by simp [getObj, Sem.run, hb]
  simp only [Instr.lookup, Sem.run_bind, run_underlying ht, Result.andThen_ok, Sem.run_pure, hgo, kf.keyed.check w es.isEmpty hl]
  rcases hu_ kf he hg hnd ha w with ⟨h1, h2⟩ | ⟨j, v, _, h1, h2⟩
  · rw [h1, h2]
    cases c <;> simp [hz]
  · rw [h1, h2]
    cases c <;> simp
theorem Ext.setMap {b : Nat} {es es' : Array MapEntry} {clock clock' : Nat} (_hb : w.heap[b]? = some (.map es clock)) : Ext [b] w { w with heap := w.heap.setIfInBounds b (.map es' clock') } :=
  ⟨rfl, rfl, rfl, by simp, fun k _ hn => by
    have : b ≠ k := fun h => hn (by simp [h])
    simp [this]⟩
theorem ei_ {b : Nat} {es es' : Array MapEntry} {clock clock' : Nat} (hb : w.heap[b]? = some (.map es clock)) : ({ w with heap := w.heap.setIfInBounds b (.map es' clock') } : World).heap[b]? = some (.map es' clock') := by
  have hlt : b < w.heap.size := by
    rcases Nat.lt_or_ge b w.heap.size with hlt | hge
    · exact hlt
    · rw [Array.getElem?_eq_none hge] at hb; cases hb
  simp [hlt]
theorem dh_ {b : Nat} {es : Array MapEntry} {clock : Nat} (hb : w.heap[b]? = some (.map es clock)) : (getObj b).run P w = .ok (.map es clock) w := by simp [getObj, Sem.run, hb]
theorem eK_ {b : Nat} {es es' : Array MapEntry} {clock clock' : Nat} (hb : w.heap[b]? = some (.map es clock)) : (setObj b (.map es' clock')).run P w = .ok () { w with heap := w.heap.setIfInBounds b (.map es' clock') } := by simp [setObj, Sem.run, hb]
theorem aput_at {m : List (α × β)} (hnd : (m.map (·.1)).Nodup) {j : Nat} {a : α} {v v' : β} (hj : m[j]? = some (a, v)) : aput m a v' = m.set j (a, v') := by
  have hin : (aget m a).isSome = true := (bf_ m a).2 (List.mem_map.2 ⟨_, List.mem_of_getElem? hj, rfl⟩)
  unfold aput
  rw [if_pos hin]
  apply List.ext_getElem?
  intro i
  rw [List.getElem?_map, List.getElem?_set]
  have hjl : j < m.length := (List.getElem?_eq_some_iff.1 hj).1
  by_cases hij : j = i
  · subst hij
    rw [if_pos rfl, if_pos hjl, hj]
    simp
  · rw [if_neg hij]
    cases hi : m[i]? with
    | none => rfl
    | some p =>
      simp only [Option.map_some, Option.some.injEq]
      rw [if_neg]
      intro hpa
      have h1 : (m.map (·.1))[i]? = some a := by rw [List.getElem?_map, hi]; simp [hpa]
      have h2 : (m.map (·.1))[j]? = some a := by rw [List.getElem?_map, hj]; rfl
      have hil : i < (m.map (·.1)).length := (List.getElem?_eq_some_iff.1 h1).1
      exact hij ((List.getElem?_inj hil hnd).1 (h1.trans h2.symm)).symm
theorem MapOf.put_run (h : MapOf w b K V Good m) (kf : KeyFit P k K Good) (ht : P.underlying t = some (.map k e)) {a : α} (ha : Good a) (v : β) :
    ∃ w', (Instr.mapUpdate t (.map (some b)) (K a) (V v)).run P w = .ok () w' ∧ MapOf w' b K V Good (aput m a v) ∧ Ext [b] w w' := by
  obtain ⟨es, clock, hb, he, hnd, hg, hborn, hbnd⟩ := h
  obtain ⟨l, hl⟩ := kf.lit a ha
  rcases hu_ kf he hg hnd ha w with ⟨h1, h2⟩ | ⟨j, u, hj, h1, h2⟩
  · refine ⟨{ w with heap := w.heap.setIfInBounds b (.map (es.push { key := K a, val := V v, born := clock }) (clock + 1)) }, ?_, ⟨_, _, ei_ hb, ?_, ds_ hnd a v, ?_, ?_, ?_⟩, Ext.setMap hb⟩
    · simp only [Instr.mapUpdate, Sem.run_bind, run_underlying ht, Result.andThen_ok, dh_ hb, kf.keyed.check w false hl, h2, eK_ hb]
    · rw [Array.toList_push, List.map_append, he]
      unfold aput
      rw [if_neg (by rw [h1]; simp)]
      simp
    · intro p hp
      unfold aput at hp
      rw [if_neg (by rw [h1]; simp)] at hp
      simp only [List.mem_append, List.mem_singleton] at hp
      rcases hp with hp | rfl
      · exact hg p hp
      · exact ha
    · intro x hx
      rw [Array.toList_push, List.mem_append, List.mem_singleton] at hx
      rcases hx with hx | rfl
      · have := hborn x hx; omega
      · exact Nat.lt_succ_self _
    · rw [Array.toList_push, List.map_append, List.nodup_append]
      refine ⟨hbnd, by simp, ?_⟩
      intro x hx y hy
      simp at hy
      subst hy
      simp only [List.mem_map] at hx
      obtain ⟨z, hz, rfl⟩ := hx
      have := hborn z hz
      omega
  · have hjl : j < es.toList.length := by
      have h3 := congrArg List.length he
      simp only [List.length_map] at h3
      rw [h3]
      exact (List.getElem?_eq_some_iff.1 hj).1
    have hk : (es[j]?).map (·.key) = some (K a) := by
      rw [← Array.getElem?_toList]
      have h3 : (es.toList.map (fun e => (e.key, e.val)))[j]? = some (K a, V u) := by rw [he, List.getElem?_map, hj]; rfl
      rw [List.getElem?_map] at h3
      cases hx : es.toList[j]? with
      | none => rw [hx] at h3; cases h3
      | some x => rw [hx] at h3; simp at h3; simp [h3.1]
    have hmod : (es.modify j fun e => { e with key := K a, val := V v }).toList = es.toList.modify j fun e => { e with key := K a, val := V v } := by simp
    refine ⟨{ w with heap := w.heap.setIfInBounds b (.map (es.modify j fun e => { e with key := K a, val := V v }) clock) }, ?_, ⟨_, _, ei_ hb, ?_, ds_ hnd a v, ?_, ?_, ?_⟩, Ext.setMap hb⟩
    · simp only [Instr.mapUpdate, Sem.run_bind, run_underlying ht, Result.andThen_ok, dh_ hb, kf.keyed.check w false hl, h2, hk, Option.getD_some, kf.keyed.stays w hl, eK_ hb]
    · rw [hmod, aput_at hnd hj]
      apply List.ext_getElem?
      intro i
      have hei : (es.toList.map (fun e => (e.key, e.val)))[i]? = (m.map (fun p => (K p.1, V p.2)))[i]? := by rw [he]
      rw [List.getElem?_map, List.getElem?_map] at hei
      rw [List.getElem?_map, List.getElem?_map, List.getElem?_modify, List.getElem?_set]
      have hml : j < m.length := (List.getElem?_eq_some_iff.1 hj).1
      by_cases hij : j = i
      · subst hij
        rw [if_pos rfl, if_pos hml, List.getElem?_eq_getElem hjl]
        simp
      · rw [if_neg hij]
        simp only [if_neg hij]
        rw [← hei]
        cases es.toList[i]? <;> rfl
    · intro p hp
      have h4 : p.1 ∈ (aput m a v).map (·.1) := List.mem_map.2 ⟨p, hp, rfl⟩
      rw [f7_, if_pos (by rw [← bf_, h1]; rfl)] at h4
      simp only [List.mem_map] at h4
      obtain ⟨q, hq, hqe⟩ := h4
      rw [← hqe]
      exact hg q hq
    · intro x hx
      rw [hmod] at hx
      obtain ⟨i, hi⟩ := List.getElem?_of_mem hx
      rw [List.getElem?_modify] at hi
      cases hx2 : es.toList[i]? with
      | none => rw [hx2] at hi; simp at hi
      | some y =>
        rw [hx2] at hi
        have := hborn y (List.mem_of_getElem? hx2)
        simp at hi
        rw [← hi]
        split <;> exact this
    · have hb2 : (es.toList.modify j fun e => { e with key := K a, val := V v }).map (·.born) = es.toList.map (·.born) := by
        apply List.ext_getElem?
        intro i
        rw [List.getElem?_map, List.getElem?_modify, List.getElem?_map]
        cases es.toList[i]? with
        | none => simp
        | some y => simp only [Option.map_eq_map, Option.map_some]; split <;> rfl
      rw [hmod, hb2]
      exact hbnd
omit [DecidableEq α] in
theorem MapOf.len_run (h : MapOf w b K V Good m) (ht : P.underlying t = some (.map k e)) (ty : TypeId) : (Builtin.len_ #[t] ty #[.map (some b)]).run P w = .ok (.int .i64 m.length) w := by
  obtain ⟨es, clock, hb, he, _⟩ := h
  have h3 := congrArg List.length he
  simp only [List.length_map, Array.length_toList] at h3
  simp [Builtin.len_, Sem.run_bind, run_underlying ht, Result.andThen_ok, dh_ hb, goInt, h3]
end
section
variable {α β : Type} [DecidableEq α] {P : Program} {w : World} {b : Nat} {k e : TypeId} {K : α → Value} {V : β → Value} {Good : α → Prop} {m : List (α × β)}
variable {ops : Array Oper} {rest : List Oper} {o : Oper} {a : Act} {Q : Exit → Act → World → Prop}
theorem bg_ (h : MapOf w b K V Good m) (kf : KeyFit P k K Good) (t : TypeId) (ht : P.underlying t = some (.map k e)) (z : Value) (hz : (zeroValue e).run P w = .ok z w) (c : α) (hc : Good c)
    (hg : o.guard = none) (x y : Operand) (ho : o.op = .lookup t x y true) (hx : a.eval x = .map (some b)) (hy : a.eval y = K c)
    (hk : wpList P ops Q rest (a.put o.dst (.tuple #[((aget m c).map V).getD z, .bool (aget m c).isSome])) w) : wpList P ops Q (o :: rest) a w := by
  refine wpList_plain hg fun K' hK' => ?_
  unfold Oper.wp
  simp only [execOp, ho, hx, hy, Sem.run_bind, h.look_run kf ht hz hc true, if_true, Result.andThen_ok, Sem.run_pure]
  exact hK' _ _ hk
theorem cL_ (h : MapOf w b K V Good m) (kf : KeyFit P k K Good) (t : TypeId) (ht : P.underlying t = some (.map k e)) (c : α) (hc : Good c) (v : β)
    (hg : o.guard = none) (x y z : Operand) (ho : o.op = .mapUpdate t x y z) (hx : a.eval x = .map (some b)) (hy : a.eval y = K c) (hz : a.eval z = V v)
    (hk : ∀ w', MapOf w' b K V Good (aput m c v) → Ext [b] w w' → wpList P ops Q rest (a.put o.dst undef) w') : wpList P ops Q (o :: rest) a w := by
  refine wpList_plain hg fun K' hK' => ?_
  obtain ⟨w', hr, h1, h2⟩ := h.put_run kf ht hc v
  unfold Oper.wp
  simp only [execOp, ho, hx, hy, hz, Sem.run_bind, hr, Result.andThen_ok, Sem.run_pure]
  exact hK' _ _ (hk w' h1 h2)
omit [DecidableEq α] in
theorem cM_ (h : MapOf w b K V Good m) (t : TypeId) (ht : P.underlying t = some (.map k e))
    (hg : o.guard = none) (x : Operand) (ho : o.op = .call { callee := .builtin .len, args := #[x], argTypes := #[t] }) (hx : a.eval x = .map (some b))
    (hk : wpList P ops Q rest (a.put o.dst (.int .i64 m.length)) w) : wpList P ops Q (o :: rest) a w := by
  refine wpList_plain hg fun K' hK' => ?_
  unfold Oper.wp
  simp [execOp, ho, resolve, invoke, builtin, hx, h.len_run ht o.type, Result.andThen]
  exact hK' _ _ hk
end
theorem laid : laidOutB Tryz.prog = true := by kernel_rfl
theorem dV_ : ∃ m, Tryz.prog.types.size = m + 1 := by
  exact Nat.exists_eq_succ_of_ne_zero (by simp)
def k8 (k : Int) : Nat := (k % 256).toNat
end Go.Proofs.YtjclgkddfjbdiaaGreatDoor
namespace Go.Proofs.YtjclgkddfjbdiaaGreatDoor.A
open Go.RowKit
theorem hq_ {α β : Type} {w w' : World} {b : Nat} {K : α → Value} {V : β → Value} {Good : α → Prop} {m : List (α × β)} (h : MapOf w b K V Good m) (hb : w'.heap[b]? = w.heap[b]?) : MapOf w' b K V Good m := by
  obtain ⟨es, clock, h1, h2⟩ := h
  exact ⟨es, clock, hb.trans h1, h2⟩
def mapPc {α β : Type} (b : Nat) (K : α → Value) (V : β → Value) (Good : α → Prop) (m : List (α × β)) : Pc where
  ids := [b]
  p := fun _ w => MapOf w b K V Good m
  carry := fun _ _ _ _ _ hs h => hq_ h (hs b (by simp))
  lt := fun _ _ h k hk => by simp at hk; subst hk; exact h.lt
abbrev mapV (b : Nat) : Abs := .v (.map (some b))
section
variable {P : Program} {n : Nat} {W : Wd} {σ τ : Blks} {l : Slots} {X : List Nat} {x y z : Operand} {d : Option Nat} {ty t k e : TypeId} {pos : String} {aft : Array Edge} {g : Option (Nat × Bool)} {b : Nat} {A B C : Abs}
variable {α β : Type} [DecidableEq α] {K : α → Value} {V : β → Value} {Good : α → Prop} {m : List (α × β)} {a : α} {v : β} {zv : Value}
def Abs.is (A : Abs) (u : Value) : Prop := (∀ K w x, rep K w A x → x = u) ∧ ∀ K w, rep K w A u
theorem is_v {u : Value} : (Abs.v u).is u := ⟨fun _ _ _ h => h, fun _ _ => rfl⟩
theorem is_agg {us : List Value} : (Abs.agg (us.map .v)).is (.agg us.toArray) := ⟨fun _ _ _ ⟨vs, h1, h2⟩ => by rw [h1, ak_.1 h2], fun _ _ => ⟨us, rfl, ak_.2 rfl⟩⟩
omit [DecidableEq α] in
theorem mem_map {w0 w : World} {F G : List Nat} {σ : Blks} (h : Mem w0 F G σ w) (hb : It.pc (mapPc b K V Good m) ∈ σ ∨ It.rdpc (mapPc b K V Good m) ∈ σ) : MapOf w b K V Good m := by
  rcases hb with hb | hb
  · exact h.hold _ hb
  · exact h.hold _ hb
end
def blkP (b : Nat) (t : TypeId) (cs : List Abs) : Pc where
  ids := [b]
  p := fun K w => ∃ us, w.heap[b]? = some (row t us) ∧ reps K w cs us
  carry := fun K w K' w' hc hs ⟨us, h1, h2⟩ => ⟨us, (hs b (by simp)).trans h1, ae_ hc _ _ h2⟩
  lt := fun K w ⟨us, h1, _⟩ k hk => by
    simp at hk
    subst hk
    exact aN_ h1
def bigP (l : List Pc) : Pc where
  ids := l.flatMap Pc.ids
  p := fun K w => ∀ c ∈ l, c.p K w
  carry := fun K w K' w' hc hs h c hm => c.carry K w K' w' hc (fun k hk => hs k (List.mem_flatMap.2 ⟨c, hm, hk⟩)) (h c hm)
  lt := fun K w h k hk => by
    obtain ⟨c, hm, hk⟩ := List.mem_flatMap.1 hk
    exact c.lt K w (h c hm) k hk
section
variable {w0 w : World} {F G : List Nat} {α β xs ys : Blks}
theorem Mem.regroup {zs : List Nat} (hp : (mids xs).Perm (mids ys ++ zs)) (hr : ∀ y ∈ ys, y.rids = []) (hh : ∀ K, (∀ x ∈ xs, x.holds K w) → ∀ y ∈ ys, y.holds K w) (h : Mem w0 F G (α ++ (xs ++ β)) w) :
    Mem w0 F G (α ++ (ys ++ β)) w ∧ Carry (mids (α ++ (xs ++ β)) ++ G) w (mids (α ++ (ys ++ β)) ++ G) w := by
  have hsub : ∀ k ∈ mids ys, k ∈ mids xs := fun k hk => hp.mem_iff.2 (List.mem_append_left _ hk)
  refine h.step (Y := []) (Ext.refl w) (by simp) (fun k hk => ?_) (fun x hx => ?_) ?_ fun hc x hx => ?_
  · simp only [L_, List.mem_append] at hk ⊢
    rcases hk with hk | hk | hk
    · exact .inl (.inl hk)
    · exact .inl (.inr (.inl (hsub k hk)))
    · exact .inl (.inr (.inr hk))
  · simp only [List.mem_append] at hx
    rcases hx with hx | hx | hx
    · exact h.ro x (by simp [hx])
    · rw [hr x hx]; simp
    · exact h.ro x (by simp [hx])
  · have hn := h.nodup
    simp only [L_] at hn ⊢
    have h2 : (mids α ++ (mids xs ++ mids β)).Perm ((mids α ++ (mids ys ++ mids β)) ++ zs) := by
      rw [List.append_assoc, List.append_assoc]
      refine List.Perm.append_left _ ?_
      refine (hp.append_right _).trans ?_
      rw [List.append_assoc]
      exact List.Perm.append_left _ List.perm_append_comm
    exact (List.nodup_append.1 (h2.nodup_iff.1 hn)).1
  · simp only [List.mem_append] at hx
    rcases hx with hx | hx | hx
    · exact h.keep (Y := []) (Ext.refl w) hc (by simp [hx]) (by simp) (by simp)
    · exact hh _ (fun z hz => h.keep (Y := []) (Ext.refl w) hc (by simp [hz]) (by simp) (by simp)) x hx
    · exact h.keep (Y := []) (Ext.refl w) hc (by simp [hx]) (by simp) (by simp)
end
section
variable {P : Program} {n : Nat} {W : Wd} {σ τ : Blks} {l : Slots} {X : List Nat} {ops : Array Oper} {rest : List Oper} {Q : Exit → Act → World → Prop} {ix : Plan} {α β xs ys : Blks}
structure Re (xs ys : Blks) : Prop where
  ids : ∃ zs : List Nat, (mids xs).Perm (mids ys ++ zs)
  rd : ∀ y ∈ ys, y.rids = []
  hh : ∀ K w, (∀ x ∈ xs, x.holds K w) → ∀ y ∈ ys, y.holds K w
theorem St.re {a : Act} {w : World} (hr : Re xs ys) (hσ : σ = α ++ (xs ++ β)) (hτ : τ = α ++ (ys ++ β)) (h : St n W σ l a w) : St n W τ l a w := by
  subst hσ hτ
  obtain ⟨zs, hz⟩ := hr.ids
  have h1 := h.mem.regroup hz hr.rd (fun K => hr.hh K w)
  exact h.to h1.1 h1.2
theorem b8_ {c : Code} (α : Blks) {β : Blks} (hr : Re xs ys) (hσ : σ = α ++ (xs ++ β)) (k : SC P c (St n W (α ++ (ys ++ β)) l) Q) : SC P c (St n W σ l) Q := fun a w h => k a w (h.re hr hσ rfl)
theorem da_ {ex : Exit} (α : Blks) {β : Blks} (hr : Re xs ys) (hσ : σ = α ++ (xs ++ β)) (k : SE ex (St n W (α ++ (ys ++ β)) l) Q) : SE ex (St n W σ l) Q := fun a w h => k a w (h.re hr hσ rfl)
end
theorem Re.refl {xs : Blks} (h : ∀ x ∈ xs, x.rids = []) : Re xs xs := ⟨⟨[], by simp⟩, h, fun _ _ h => h⟩
theorem Re.trans {xs ys zs : Blks} (h : Re xs ys) (k : Re ys zs) : Re xs zs where
  ids := by
    obtain ⟨a, ha⟩ := h.ids
    obtain ⟨b, hb⟩ := k.ids
    exact ⟨b ++ a, ha.trans ((hb.append_right a).trans (by rw [List.append_assoc]))⟩
  rd := k.rd
  hh := fun K w hx => k.hh K w (h.hh K w hx)
theorem Re.out {l1 l2 : List Pc} {c : Pc} : Re [.pc (bigP (l1 ++ c :: l2))] [.pc c, .pc (bigP (l1 ++ l2))] where
  ids := ⟨[], by
    simp only [mids, List.flatMap_cons, List.flatMap_nil, It.mids, bigP, List.flatMap_append, List.append_nil]
    exact List.perm_append_comm_assoc _ _ _⟩
  rd := by simp [It.rids]
  hh := fun K w h y hy => by
    have h1 : ∀ d ∈ l1 ++ c :: l2, d.p K w := h _ (List.mem_singleton.2 rfl)
    simp only [List.mem_cons, List.not_mem_nil, or_false] at hy
    rcases hy with rfl | rfl
    · exact h1 c (by simp)
    · intro d hd
      exact h1 d (by
        rcases List.mem_append.1 hd with hd | hd
        · simp [hd]
        · simp [hd])
theorem Re.back {l1 l2 : List Pc} {c : Pc} : Re [.pc c, .pc (bigP (l1 ++ l2))] [.pc (bigP (l1 ++ c :: l2))] where
  ids := ⟨[], by
    simp only [mids, List.flatMap_cons, List.flatMap_nil, It.mids, bigP, List.flatMap_append, List.append_nil]
    exact List.perm_append_comm_assoc _ _ _⟩
  rd := by simp [It.rids]
  hh := fun K w h y hy => by
    have h1 : c.p K w := h (.pc c) (by simp)
    have h2 : ∀ d ∈ l1 ++ l2, d.p K w := h (.pc (bigP (l1 ++ l2))) (by simp)
    rw [List.mem_singleton.1 hy]
    intro d hd
    simp only [List.mem_append, List.mem_cons] at hd
    rcases hd with hd | rfl | hd
    · exact h2 d (by simp [hd])
    · exact h1
    · exact h2 d (by simp [hd])
theorem Re.empty : Re [] [.pc (bigP [])] := ⟨⟨[], by simp [mids, It.mids, bigP]⟩, by simp [It.rids], fun K w _ y hy => by
  rw [List.mem_singleton.1 hy]
  intro d hd
  cases hd⟩
theorem Re.blkIn {b : Nat} {t : TypeId} {cs : List Abs} : Re [.blk b t cs] [.pc (blkP b t cs)] := ⟨⟨[], by simp [mids, It.mids, blkP]⟩, by simp [It.rids], fun K w h y hy => by
  rw [List.mem_singleton.1 hy]
  exact h (.blk b t cs) (by simp)⟩
theorem Re.blkOut {b : Nat} {t : TypeId} {cs : List Abs} : Re [.pc (blkP b t cs)] [.blk b t cs] := ⟨⟨[], by simp [mids, It.mids, blkP]⟩, by simp [It.rids], fun K w h y hy => by
  rw [List.mem_singleton.1 hy]
  exact h (.pc (blkP b t cs)) (by simp)⟩
theorem Mem.re {w0 w : World} {F G : List Nat} {xs ys : Blks} (hr : Re xs ys) (h : Mem w0 F G xs w) : Mem w0 F G ys w ∧ Carry (mids xs ++ G) w (mids ys ++ G) w := by
  obtain ⟨zs, hz⟩ := hr.ids
  have h1 := Mem.regroup (α := []) (β := []) hz hr.rd (fun K => hr.hh K w) (by simpa using h)
  simpa using h1
theorem Spec.reg {P : Program} {f : FuncId} {args : List Abs} {xs σ0 φ : Blks} {ι : Type} {τ τ0 : ι → Blks} {res : ι → Abs} (hs : Spec P f args xs τ res) (hx : ∀ x ∈ xs, x.rids = []) (h0 : Re σ0 (xs ++ φ)) (h1 : ∀ z, Re (τ z ++ φ) (τ0 z)) : Spec P f args σ0 τ0 res := fun G w vals hm hv => by
  obtain ⟨hm1, hc1⟩ := Mem.re h0 hm
  have hp : Split (xs ++ φ) xs φ := ⟨by rw [L_], fun x h => .inl ⟨by simp [h], hx x h⟩, fun x h => by simp [h]⟩
  refine (hs.run hm1 hp (ae_ hc1 _ _ hv)).mono fun e w' ⟨z, r, he, _, _, hm2, _, hr⟩ => ?_
  obtain ⟨hm3, hc3⟩ := Mem.re (h1 z) hm2
  exact ⟨z, r, he, (h1 z).rd, hm3, aY_ hc3 _ _ hr⟩
end Go.Proofs.YtjclgkddfjbdiaaGreatDoor.A
namespace Go.Proofs.YtjclgkddfjbdiaaGreatDoor
open Go.RowKit
end Go.Proofs.YtjclgkddfjbdiaaGreatDoor
namespace Go.Proofs.YtjclgkddfjbdiaaGreatDoor.A
open Go.RowKit
/-! ### Keys that are ints -/
abbrev intK (x : Int) : Value := .int .i64 x
abbrev intOk (x : Int) : Prop := InR .i64 x
theorem hs_ {x : Int} (h : intOk x) : (Lit.int .i64 x).wf = true := by
  simp only [InR, lo, hi] at h
  simp only [Lit.wf, Bool.and_eq_true, decide_eq_true_eq]
  exact ⟨by show (-9223372036854775808 : Int) ≤ _; omega, by show _ ≤ (9223372036854775807 : Int); omega⟩
theorem bh_ {P : Program} {k : TypeId} (hk : P.underlying k = some (.int .i64)) : KeyFit P k intK intOk where
  keyed := Maps.int_keyed hk
  lit a h := ⟨_, Maps.keyOf_int_mk hk (hs_ h)⟩
  inj a b _ _ h := by
    injection h
def srt (ks : List Int) : List Int := ks.mergeSort fun x y => decide (x ≤ y)
theorem dK_ (ks : List Int) : (srt ks).Perm ks := List.mergeSort_perm _ _
theorem eJ_ (ks : List Int) : (srt ks).Pairwise (· ≤ ·) := by
  have h := List.pairwise_mergeSort (le := fun x y : Int => decide (x ≤ y)) (fun a b c h1 h2 => by simp only [decide_eq_true_eq] at *; omega) (fun a b => by simp only [Bool.or_eq_true, decide_eq_true_eq]; omega) ks
  exact h.imp fun h => by simpa using h
theorem cP_ : ∀ {l m : List Int}, l.Perm m → l.Pairwise (· ≤ ·) → m.Pairwise (· ≤ ·) → l = m
  | [], m, h, _, _ => (List.nil_perm.1 h).symm ▸ rfl
  | a :: l, [], h, _, _ => by have := h.length_eq; simp at this
  | a :: l, b :: m, h, h1, h2 => by
    rw [List.pairwise_cons] at h1 h2
    have hab : a = b := by
      have ha : a ∈ b :: m := h.mem_iff.1 List.mem_cons_self
      have hb : b ∈ a :: l := h.mem_iff.2 List.mem_cons_self
      rcases List.mem_cons.1 ha with e | ha
      · exact e
      · rcases List.mem_cons.1 hb with e | hb
        · exact e.symm
        · have := h1.1 b hb; have := h2.1 a ha; omega
    subst hab
    rw [cP_ (h.cons_inv) h1.2 h2.2]
theorem iK_ {l m : List Int} (h : l.Perm m) : srt l = srt m := cP_ (((dK_ l).trans h).trans (dK_ m).symm) (eJ_ l) (eJ_ m)
theorem bL_ (ks : List Int) : (srt ks).length = ks.length := (dK_ ks).length_eq
def isOwn (σ : Blks) (e : TypeId) (s : Nat) (v : Value) (xs : List (List Abs)) : Prop := own e s v xs ∈ σ ∨ It.rdpc (ownPc e s v xs) ∈ σ
def eptr : Value → Nat → Value
  | .slice (some ⟨b, off, _⟩) _ _, o => .pointer (some ⟨b, off + o, none⟩)
  | v, _ => v
section
variable {P : Program} {n : Nat} {W : Wd} {σ τ : Blks} {l : Slots} {X : List Nat} {x y z : Operand} {d : Option Nat} {ty t e e' : TypeId} {pos : String} {aft : Array Edge} {g : Option (Nat × Bool)} {v : Value} {k : IntKind} {A : Abs} {tab : List (Nat × TI)} {xs : List (List Abs)} {s q : Nat} {cs : List Abs}
theorem Mem.ownR {w0 w : World} {F G : List Nat} (h : Mem w0 F G σ w) (hb : isOwn σ e s v xs) : ∃ us, IsRow [] w v xs.length us ∧ repss (mids σ ++ G) w s xs us := by
  have hp : (ownPc e s v xs).p (mids σ ++ G) w := by
    rcases hb with hb | hb
    · exact h.hold _ hb
    · exact h.hold _ hb
  obtain ⟨us, h1, h2⟩ := hp
  exact ⟨us, ownsRow.isRow h1 (by simp), h2⟩
theorem cJ_ {m : Nat} (hx : look l x = some (.v v)) (hb : isOwn σ e' s v xs) (ht : P.underlying t = some (.slice e)) (hm : xs.length = m) : Val P n W σ l X ⟨d, .call { callee := .builtin .len, args := #[x], argTypes := #[t] }, ty, pos, aft, g⟩ (.v (.int .i64 m)) := av_ fun a w hs _ => by
  subst hm
  obtain ⟨us, h1, _⟩ := hs.mem.ownR hb
  obtain ⟨A', c, h2, _⟩ := h1.shape
  exact ⟨_, rfl, fun w' _ => Proofs.YtjclgkddfjbdiaaGreatDoor.P_ (by rw [hs.at2 hx, hs.plain hx, h2]) ht⟩
theorem fM_ {w : World} {us : List Value} (hr : IsRow [] w v xs.length us) (hp : repss (mids σ ++ W.G) w s xs us) (hpos : 0 < s) (hq : xs[q]? = some cs) : ∃ b off c, v = .slice (some ⟨b, off, none⟩) xs.length c ∧ b < w.heap.size ∧ ∃ vs : List Value, vs.length = s ∧ reps (mids σ ++ W.G) w cs vs ∧ ∀ j u, vs[j]? = some u → w.cell? ⟨b, off + q * s + j, none⟩ = some u := by
  obtain ⟨vs, h3, h4, h5⟩ := d3_ hp hq
  have hlt : q < xs.length := (List.getElem?_eq_some_iff.1 hq).1
  have hlen := aE_ hp
  have hne : us ≠ [] := by
    rintro rfl
    have : xs.length * s = 0 := by simpa using hlen.symm
    rcases Nat.mul_eq_zero.1 this with h | h <;> omega
  obtain ⟨A', c, hsh, h6, h7, h8⟩ := hr.shape
  obtain ⟨b, off, n', c', hv, hb, hc⟩ := hr.cells hne
  have hv2 := hv
  rw [hsh] at hv2
  simp at hv2
  obtain ⟨rfl, rfl, rfl⟩ := hv2
  have hcell : ∀ j u, vs[j]? = some u → w.cell? ⟨b, off + q * s + j, none⟩ = some u := fun j u hu => by rw [Nat.add_assoc]; exact hc _ u (h5 j u hu)
  have hbl : b < w.heap.size := by
    cases vs with
    | nil => simp at h3; omega
    | cons u vs => exact block_lt_of_cell (hcell 0 u rfl)
  exact ⟨b, off, _, hsh, hbl, vs, h3, h4, hcell⟩
theorem aP_ (hT : TabOk P tab) {j : TI} (hu : P.underlying t = some (.slice e)) (hj : ti tab e = some j) (hx : look l x = some (.v v)) (hb : isOwn σ e' s v xs) {r : Int} (hy : look l y = some (.v (.int k r))) (hr : r = (q : Nat)) (hq : q < xs.length) (hsz : Nat.beq s j.size = true) (hpos : Nat.blt 0 s = true) :
    Val P n W σ l X ⟨d, .indexAddr t x y, ty, pos, aft, g⟩ (.v (eptr v (q * s))) := av_ fun a w hs hX => by
  subst hr
  have hsz := Nat.eq_of_beq_eq_true hsz
  have hpos : 0 < s := by simpa [Nat.blt_eq] using hpos
  obtain ⟨us, h1, h2⟩ := hs.mem.ownR hb
  obtain ⟨b, off, c, hv, _⟩ := fM_ h1 h2 hpos (List.getElem?_eq_getElem hq)
  refine ⟨_, rfl, fun w' _ => ?_⟩
  rw [hv]
  show Proofs.YtjclgkddfjbdiaaGreatDoor.Val _ _ _ _ _ (.pointer (some ⟨b, off + q * s, none⟩))
  rw [hsz]
  exact Proofs.YtjclgkddfjbdiaaGreatDoor.f9_ hT hu hj (by rw [hs.at2 hx, hs.plain hx, hv]) (by rw [hs.at2 hy, hs.plain hy]) hq
theorem dD_ (hT : TabOk P tab) {sz : Nat} {zs : List Value} (ht : ti tab t = some ⟨sz, .one, zs⟩) (hx : look l x = some (.v (eptr v (q * s)))) (hb : isOwn σ e' s v xs) (hpos : Nat.blt 0 s = true) (hq : xs[q]? = some cs) (hv : cs[0]? = some A) : Val P n W σ l [] ⟨d, .load t x, ty, pos, aft, g⟩ A := av_ fun a w hs hX => by
  have hpos : 0 < s := by simpa [Nat.blt_eq] using hpos
  obtain ⟨us, h1, h2⟩ := hs.mem.ownR hb
  obtain ⟨b, off, c, hvv, hbl, vs, h3, h4, h5⟩ := fM_ h1 h2 hpos hq
  obtain ⟨u, h6, h7⟩ := a9_ h4 hv
  refine ⟨u, h7, fun w' hw' => Proofs.YtjclgkddfjbdiaaGreatDoor.eX_ (b := b) (o := off + q * s) hT ht (by rw [hs.at2 hx, hs.plain hx, hvv]; rfl) fun w1 e => by subst e; exact bO_ hw' (by simp) (h5 0 u h6)⟩
theorem dC_ (hT : TabOk P tab) {i : TI} (ht : ti tab t = some i) (hk : (match i.k with | .one => false | _ => true) = true) (hx : look l x = some (.v (eptr v (q * s)))) (hb : isOwn σ e' s v xs) (hpos : Nat.blt 0 s = true) (hq : xs[q]? = some cs) (hs0 : Nat.beq s i.size = true) : Val P n W σ l [] ⟨d, .load t x, ty, pos, aft, g⟩ (.agg cs) := av_ fun a w hs hX => by
  have hpos : 0 < s := by simpa [Nat.blt_eq] using hpos
  have hs0 := Nat.eq_of_beq_eq_true hs0
  obtain ⟨us, h1, h2⟩ := hs.mem.ownR hb
  obtain ⟨b, off, c, hvv, hbl, vs, h3, h4, h5⟩ := fM_ h1 h2 hpos hq
  exact ⟨_, ⟨vs, rfl, h4⟩, fun w' hw' => Proofs.YtjclgkddfjbdiaaGreatDoor.eW_ (b := b) (o := off + q * s) hT ht hk (by rw [hs.at2 hx, hs.plain hx, hvv]; rfl) (by omega) fun w1 e j u hu => by subst e; exact bO_ hw' (by simp) (h5 j u hu)⟩
theorem M_ {ι : Type} {σ1 : Blks} {τ' : ι → Blks} {K : Blks → ι → Prop} (α : Blks) {β : Blks} (hσ : σ = α ++ (σ1 ++ β)) (hr : ∀ x ∈ σ1, x.rids = []) (k : ∀ z, K (α ++ (τ' z ++ β)) z) : After σ σ1 τ' K := by
  subst hσ
  refine ⟨α ++ β, ⟨?_, fun x hx => .inl ⟨by simp [hx], hr x hx⟩, fun x hx => ?_⟩, fun z => ⟨_, ?_, k z⟩⟩
  · simp only [L_]
    exact List.perm_append_comm_assoc _ _ _
  · rcases List.mem_append.1 hx with h | h <;> simp [h]
  · exact List.perm_append_comm_assoc _ _ _
end
theorem cj_ {P : Program} {n : Nat} {W : Wd} {σ : Blks} {l : Slots} {Q : Exit → Act → World → Prop} {x y : Code} {ι : Type} (H : ι → Blks) (L : ι → Slots) (Φ : ι → Prop) (h : SC P x (St n W σ l) (Exit.then (fun a w => ∃ z, Head n W H L Φ z a w) Q)) (k : ∀ z, Φ z → SC P y (St n W (H z) (L z)) Q) : SC P (.seq x y) (St n W σ l) Q := j3_ H L Φ h k
section
variable {P : Program} {n : Nat} {W : Wd} {ops : Array Oper} {l : Slots} {σ : Blks} {X : List Nat} {Q : Exit → Act → World → Prop} {ix : Plan} {f : FuncId} {args args' : List Abs} {σ1 : Blks} {ι : Type} {τ' : ι → Blks} {res : ι → Abs} {xs : List Operand} {ats : Array TypeId} {d : Option Nat} {ty : TypeId} {pos : String} {aft : Array Edge} {g : Option (Nat × Bool)} {i : Nat}
theorem cv_ (X' : List Nat) (hi : ops[i]? = some ⟨d, .call { callee := .value (.func f), args := xs.toArray, argTypes := ats }, ty, pos, aft, g⟩) (hs : Spec P f args' σ1 τ' res) (hX : ∀ k ∈ mids σ1, k ∈ X) (hX' : ∀ k ∈ X', k ∈ X) (hca : Casts args args') (hb : goesIn P f = true) (hv : looks l xs = some args)
    (hg : gd ops l ⟨d, .call { callee := .value (.func f), args := xs.toArray, argTypes := ats }, ty, pos, aft, g⟩ = some true) (hd : lt? d n = true)
    (k : After σ σ1 τ' fun ν z => SX P ops ix X' (St n W ν (put? l d (res z))) Q) : SX P ops (.e i ix) X (St n W σ l) Q := fun a w h => by
  unfold planW wpOp
  simp only [hi, h.wanted hg, if_true]
  refine .inl ?_
  unfold Oper.wp
  rw [cl_ hb rfl, Oper.upon_enter]
  refine (hs.after h.mem (hca _ _ _ (h.evals hv)) k).mono fun e w' ⟨z, r, ν, he, hx, _, hm, hc, hr, hk⟩ => ?_
  subst he
  exact ⟨fun w2 => Ext X' w' w2, fun w2 h2 => (hx.mono (fun k hk => .inl (hX k hk))).trans h2 fun k hk => .inl (hX' k hk), Ext.refl w', hk _ _ ((h.to hm hc).put hd hr)⟩
end
theorem ct_ {P : Program} {n : Nat} {W : Wd} {σ : Blks} {l : Slots} {X : List Nat} {x y : Operand} {d : Option Nat} {ty t t' : TypeId} {pos : String} {aft : Array Edge} {gq : Option (Nat × Bool)} {k : IntKind} {a b : Int} (hx : look l x = some (.v (.int k a))) (hy : look l y = some (.v (.int k b))) :
    Val P n W σ l X ⟨d, .call { callee := .builtin .max, args := #[x, y], argTypes := #[t, t'] }, ty, pos, aft, gq⟩ (.v (.int k (max a b))) := fun ac w hs _ => ⟨_, rfl, fun w' _ => by
  have hm : (if a < b then b else a) = max a b := by omega
  simp [execOp, resolve, invoke, builtin, Builtin.max_, Builtin.max2, hs.plain hx, hs.plain hy, List.foldlM, hm]⟩
end Go.Proofs.YtjclgkddfjbdiaaGreatDoor.A
namespace Go.Proofs.YtjclgkddfjbdiaaGreatDoor
open Go.RowKit
/-! ### Regions that draw, whose last operation comes behind all others -/
section
variable {P : Program} {ops : Array Oper}
def anyZ (P : Program) (ops : Array Oper) (D : World → Prop) (z : Nat) (Q : Act → World → Prop) : Nat → Array Bool → Act → World → Prop
  | 0, listed, a, w => Region.ready .any ops listed = [] ∧ Q a w
  | fuel + 1, listed, a, w => (Region.ready .any ops listed = [] → Q a w) ∧
      ∀ i ∈ Region.ready .any ops listed, wpOp P ops NoExit i (fun a' w' => (i = z ∨ D w') ∧ anyZ P ops D z Q fuel (listed.setIfInBounds i true) a' w') a w
theorem anyZ.wpAny {D : World → Prop} {z : Nat} {Q : Exit → Act → World → Prop} : ∀ (fuel : Nat) (listed : Array Bool) (a : Act) (w : World),
    anyZ P ops D z (Q .normal) fuel listed a w → wpAny P .any ops Q fuel listed a w
  | 0, _, _, _, h => h
  | fuel + 1, _, _, _, h => ⟨h.1, fun i hi => bJ_ (wpOp_mono (fun a' w' h3 => anyZ.wpAny fuel _ a' w' h3.2) (h.2 i hi))⟩
theorem anyZ.mono {D D' : World → Prop} {z : Nat} {Q : Act → World → Prop} (hD : ∀ w, D' w → D w) : ∀ (fuel : Nat) (listed : Array Bool) (a : Act) (w : World),
    anyZ P ops D' z Q fuel listed a w → anyZ P ops D z Q fuel listed a w
  | 0, _, _, _, h => h
  | fuel + 1, _, _, _, h => ⟨h.1, fun i hi => wpOp_mono (fun a' w' h3 => ⟨h3.1.imp_right (hD _), anyZ.mono hD fuel _ a' w' h3.2⟩) (h.2 i hi)⟩
def Down (ops : Array Oper) (L : Array Bool) : Prop := ∀ (k : Nat) (o : Oper), ops[k]? = some o → L.getD k false = true → ∀ e ∈ o.after, Region.binds .any e = true → L.getD e.on false = true
theorem Down.set {L : Array Bool} (h : Down ops L) {j : Nat} (hj : j ∈ Region.ready .any ops L) : Down ops (L.setIfInBounds j true) := by
  intro k o hk hl e he hb
  refine getD_set_true ?_
  by_cases hkj : k = j
  · subst hkj
    obtain ⟨_, o', ho', hall⟩ := mem_ready.1 hj
    rw [ho'] at hk
    cases hk
    exact hall e he hb
  · have : (L.setIfInBounds j true).getD k false = L.getD k false := getD_set_ne false (Ne.symm hkj)
    exact h k o hk (this ▸ hl) e he hb
def domOk (ops : Array Oper) : Bool := (List.range (ops.size - 1)).all fun i => (List.range ops.size).any fun j => Nat.blt i j && ((ops[j]?).map fun o => o.after.any fun e => Region.binds .any e && e.on == i).getD false
theorem dom_next (hd : domOk ops = true) {i : Nat} (hi : i + 1 < ops.size) : ∃ j o, i < j ∧ j < ops.size ∧ ops[j]? = some o ∧ ∃ e ∈ o.after, Region.binds .any e = true ∧ e.on = i := by
  unfold domOk at hd
  rw [List.all_eq_true] at hd
  have h1 := hd i (by rw [List.mem_range]; omega)
  rw [List.any_eq_true] at h1
  obtain ⟨j, hj, h2⟩ := h1
  rw [List.mem_range] at hj
  simp only [Bool.and_eq_true, Nat.blt_eq] at h2
  obtain ⟨h2, h3⟩ := h2
  cases ho : ops[j]? with
  | none => rw [ho] at h3; cases h3
  | some o =>
    rw [ho] at h3
    simp only [Option.map_some, Option.getD_some, Array.any_eq_true, Bool.and_eq_true, beq_iff_eq] at h3
    obtain ⟨m, hm, hb, hon⟩ := h3
    exact ⟨j, o, h2, hj, ho, _, Array.getElem_mem hm, hb, hon⟩
theorem dom_all (hd : domOk ops = true) {L : Array Bool} (hL : Down ops L) (hz : ops.size - 1 ∈ Region.ready .any ops L) : ∀ m i, ops.size - 1 - i = m → i + 1 < ops.size → L.getD i false = true := by
  intro m
  induction m using Nat.strongRecOn with
  | _ m ih =>
    intro i hm hi
    obtain ⟨j, o, hij, hj, ho, e, he, hb, hon⟩ := dom_next hd hi
    subst hon
    by_cases hjz : j = ops.size - 1
    · subst hjz
      obtain ⟨_, o', ho', hall⟩ := mem_ready.1 hz
      rw [ho'] at ho
      cases ho
      exact hall e he hb
    · exact hL j o ho (ih _ (by omega) j rfl (by omega)) e he hb
theorem ej_ {L : Array Bool} {i : Nat} (h : L.getD i true = false) : L.getD i false = false := by
  rw [Array.getD_eq_getD_getElem?] at h ⊢
  cases hq : L[i]? with
  | none => rfl
  | some b => rw [hq] at h; exact h
theorem ie_ {D : World → Prop} {Q : Act → World → Prop} {i : Nat} {oi : Oper} {v : Value} (hd : domOk ops = true) (hiz : i + 1 < ops.size) (hi : ops[i]? = some oi) (hsel : ∀ (j : Nat) (o : Oper) cs b, ops[j]? = some o → o.op ≠ .select cs b) :
    ∀ (fuel : Nat) (listed : Array Bool) (a : Act) (w : World), D w → Down ops listed →
      (∀ j oj, ops[j]? = some oj → j ≠ i → listed.getD j true = false → (∀ e ∈ oj.after, Region.binds .any e = true → e.on ≠ i) → oi.apart ops oj = true) →
      i ∈ Region.ready .any ops listed → YieldsD P ops D oi v a →
      anyZ P ops D (ops.size - 1) Q fuel (listed.setIfInBounds i true) (a.put oi.dst v) w → anyZ P ops D (ops.size - 1) Q (fuel + 1) listed a w := by
  intro fuel
  induction fuel with
  | zero =>
    intro listed a w hDw _ _ hr hy H
    refine ⟨fun h => (by rw [h] at hr; cases hr), fun j hj => ?_⟩
    by_cases hji : j = i
    · subst hji; exact hy.wpOp hi hDw ⟨.inr hDw, H⟩
    · have := ready_mono hj hji
      rw [H.1] at this
      cases this
  | succ fuel ih =>
    intro listed a w hDw hdn hfree hr hy H
    refine ⟨fun h => (by rw [h] at hr; cases hr), fun j hj => ?_⟩
    by_cases hji : j = i
    · subst hji; exact hy.wpOp hi hDw ⟨.inr hDw, H⟩
    · have hjz : j ≠ ops.size - 1 := fun h => by
        subst h
        have h1 := dom_all hd hdn hj _ i rfl hiz
        have h0 := ej_ (mem_ready.1 hr).1
        rw [h1] at h0
        cases h0
      have h1 := H.2 j (ready_mono hj hji)
      obtain ⟨hjun, oj, hoj, hall⟩ := mem_ready.1 hj
      have hnot : ∀ e ∈ oj.after, Region.binds .any e = true → e.on ≠ i := fun e he hb heq => by
        have h1 := hall e he hb
        have h0 := (mem_ready.1 hr).1
        rw [heq] at h1
        rw [ej_ h0] at h1
        cases h1
      have h2 := dT_ hoj (hfree j oj hoj hji hjun hnot) (fun cs b => hsel i oi cs b hi) (fun cs b => hsel j oj cs b hoj) hy h1
      have hfree' : ∀ k ok, ops[k]? = some ok → k ≠ i → (listed.setIfInBounds j true).getD k true = false →
          (∀ e ∈ ok.after, Region.binds .any e = true → e.on ≠ i) → oi.apart ops ok = true := fun k ok hk hki hun hno => by
        refine hfree k ok hk hki ?_ hno
        by_cases hjk : j = k
        · subst hjk; exact hjun
        · rw [getD_set_ne true hjk] at hun; exact hun
      refine wpOp_mono (fun a' w' h3 => ?_) h2
      have hDw' : D w' := h3.2.1.resolve_left hjz
      refine ⟨.inr hDw', ih (listed.setIfInBounds j true) a' w' hDw' (hdn.set hj) hfree' (ready_mono hr (Ne.symm hji)) h3.1 ?_⟩
      rw [Array.setIfInBounds_comm _ _ hji]
      exact h3.2.2
def planOkZ (ops : Array Oper) : Nat → Array Bool → Plan → Bool
  | _ + 1, listed, .nil => (Region.ready .any ops listed == [ops.size - 1]) && (Region.ready .any ops (listed.setIfInBounds (ops.size - 1) true)).isEmpty
  | n + 1, listed, .q i k => Nat.blt (i + 1) ops.size && Region.free .any ops listed i && (Region.ready .any ops listed).contains i && planOkZ ops n (listed.setIfInBounds i true) k
  | n + 1, listed, .e i k => (Region.ready .any ops listed == [i]) && planOkZ ops n (listed.setIfInBounds i true) k
  | n + 1, listed, .two i j k h => (Region.ready .any ops listed == [i, j]) && planOkZ ops n (listed.setIfInBounds i true) k && planOkZ ops n (listed.setIfInBounds j true) h
  | _ + 1, _, .three .. => false
  | _ + 1, _, .four .. => false
  | 0, _, _ => false
theorem planW.anyZ {Q : Act → World → Prop} (hs : Region.noSelect ops = true) (hd : domOk ops = true) : ∀ (n : Nat) (ix : Plan) (D : World → Prop) (listed : Array Bool) (a : Act) (w : World), planOkZ ops n listed ix = true → D w → Down ops listed →
    planW P ops (fun a w => wpOp P ops NoExit (ops.size - 1) Q a w) ix D a w → Proofs.YtjclgkddfjbdiaaGreatDoor.anyZ P ops D (ops.size - 1) Q n listed a w
  | 0, .nil, _, _, _, _, hok, _, _, _ => by cases hok
  | n + 1, .nil, D, listed, a, w, hok, hD, hdn, h => by
    simp only [planOkZ, Bool.and_eq_true, beq_iff_eq, List.isEmpty_iff] at hok
    refine ⟨fun h0 => (by rw [hok.1] at h0; cases h0), fun j hj => ?_⟩
    rw [hok.1] at hj
    simp only [List.mem_singleton] at hj
    subst hj
    refine wpOp_mono (fun a' w' hq => ⟨.inl rfl, ?_⟩) h
    cases n with
    | zero => exact ⟨hok.2, hq⟩
    | succ n => exact ⟨fun _ => hq, fun i hi => by rw [hok.2] at hi; cases hi⟩
  | n + 1, .q i ix, D, listed, a, w, hok, hD, hdn, ⟨o, v, hi, hy, h⟩ => by
    simp only [planOkZ, Bool.and_eq_true, Nat.blt_eq] at hok
    have hrd : i ∈ Region.ready .any ops listed := by simpa using hok.1.2
    exact ie_ hd hok.1.1.1 hi (Region.noSelect_spec hs) n listed a w hD hdn (Region.free_spec hi hok.1.1.2) hrd hy (planW.anyZ hs hd n ix D _ _ _ hok.2 hD (hdn.set hrd) h)
  | n + 1, .e i ix, D, listed, a, w, hok, hD, hdn, h => by
    simp only [planOkZ, Bool.and_eq_true, beq_iff_eq] at hok
    refine ⟨fun h0 => (by rw [hok.1] at h0; cases h0), fun j hj => ?_⟩
    have hj0 := hj
    rw [hok.1] at hj
    simp only [List.mem_singleton] at hj
    subst hj
    exact wpOp_mono (fun a' w' ⟨D', hD', hw', h'⟩ => ⟨.inr (hD' _ hw'), anyZ.mono hD' _ _ _ _ (planW.anyZ hs hd n ix D' _ a' w' hok.2 hw' (hdn.set hj0) h')⟩) h
  | n + 1, .two i j k m, D, listed, a, w, hok, hD, hdn, h => by
    simp only [planOkZ, Bool.and_eq_true, beq_iff_eq] at hok
    refine ⟨fun h0 => (by rw [hok.1.1] at h0; cases h0), fun r hr => ?_⟩
    have hr0 := hr
    rw [hok.1.1] at hr
    simp only [List.mem_cons, List.not_mem_nil, or_false] at hr
    rcases hr with rfl | rfl
    · exact wpOp_mono (fun a' w' ⟨D', hD', hw', h'⟩ => ⟨.inr (hD' _ hw'), anyZ.mono hD' _ _ _ _ (planW.anyZ hs hd n k D' _ a' w' hok.1.2 hw' (hdn.set hr0) h')⟩) h.1
    · exact wpOp_mono (fun a' w' ⟨D', hD', hw', h'⟩ => ⟨.inr (hD' _ hw'), anyZ.mono hD' _ _ _ _ (planW.anyZ hs hd n m D' _ a' w' hok.2 hw' (hdn.set hr0) h')⟩) h.2
  | n + 1, .three .., D, listed, a, w, hok, hD, hdn, h => by simp [planOkZ] at hok
  | n + 1, .four .., D, listed, a, w, hok, hD, hdn, h => by simp [planOkZ] at hok
theorem fV_ (n : Nat) : Down ops (Array.replicate n false) := by
  intro k o _ h
  rw [Array.getD_eq_getD_getElem?, Array.getElem?_replicate] at h
  split at h <;> cases h
theorem dR_ {id : Nat} {a : Act} {w : World} {Q : Exit → Act → World → Prop} (D : World → Prop) (ix : Plan) (hm : P.follows .mixedOrders = true)
    (hok : (Region.noSelect ops && domOk ops && planOkZ ops ops.size (Array.replicate ops.size false) ix) = true) (hD : D w.drew)
    (h : planW P ops (fun a w => wpOp P ops NoExit (ops.size - 1) (Q .normal) a w) ix D a w.drew) : (Code.region id ops true).wp P Q a w := by
  simp only [Bool.and_eq_true] at hok
  refine wp_region_any hm ?_
  exact anyZ.wpAny _ _ _ _ (planW.anyZ hok.1.1 hok.1.2 _ ix D _ a _ hok.2 hD (fV_ _) h)
end
end Go.Proofs.YtjclgkddfjbdiaaGreatDoor
namespace Go.Proofs.YtjclgkddfjbdiaaGreatDoor.A
open Go.RowKit
section
variable {P : Program} {n : Nat} {W : Wd} {σ : Blks} {l : Slots} {o : Oper} {ops : Array Oper} {Q : Exit → Act → World → Prop}
def LastOp (P : Program) (ops : Array Oper) (Q : Exit → Act → World → Prop) : Exit → Act → World → Prop := fun _ a w => wpOp P ops NoExit (ops.size - 1) (Q .normal) a w
theorem ah_ {id : Nat} (X : List Nat) (ix : Plan) (hm : P.follows .mixedOrders = true)
    (hok : (Region.noSelect ops && domOk ops && planOkZ ops ops.size (Array.replicate ops.size false) ix) = true) (h : SX P ops ix X (St n W σ l) (LastOp P ops Q)) : SC P (.region id ops true) (St n W σ l) Q := fun a w hs =>
  dR_ (fun w' => Ext X w.drew w') ix hm hok (Ext.refl _) (h a _ hs.drew)
theorem ao_ {Y : List Nat} {R : Abs → Blks → Prop} (hi : ops[ops.size - 1]? = some o) (hv : Eff P n W σ l Y o R) (hg : gd ops l o = some true) (hd : lt? o.dst n = true)
    (k : ∀ y τ, R y τ → SE .normal (St n W τ (put? l o.dst y)) Q) : SE .normal (St n W σ l) (LastOp P ops Q) := fun a w hs => by
  unfold LastOp wpOp
  simp only [hi, hs.wanted hg, if_true]
  refine .inl ?_
  unfold Oper.wp
  obtain ⟨v, w', y, τ, hR, hx, hr, hm, hc, hrun | ⟨rfl, hrun⟩⟩ := hv a w hs
  · rw [hrun]; exact k _ _ hR _ _ ((hs.to hm hc).put hd hr)
  · rw [hrun]; exact k _ _ hR _ _ ((hs.to hm hc).put hd hr)
end
abbrev Wo := BitVec 32
def u32 (p : Wo) : Abs := .v (.int .u32 (p.toNat : Nat))
theorem x_ {L ys : List Abs} (h : ys.length = L.length) : putL L 0 ys = ys := by
  rw [bW_ _ _ _ (Nat.zero_le _), Nat.zero_add, h]
  simp
section
variable {P : Program} {n : Nat} {W : Wd} {σ τ : Blks} {l : Slots} {X : List Nat} {x y z : Operand} {d : Option Nat} {ty t t' e : TypeId} {pos : String} {aft : Array Edge} {g : Option (Nat × Bool)} {k k' : IntKind} {b : Nat} {A B : Abs} {tab : List (Nat × TI)} {ops : Array Oper} {rest : List Oper} {Q : Exit → Act → World → Prop} {p q : Wo}
theorem wrap32 (p : Wo) : IntKind.u32.wrap (p.toNat : Nat) = (p.toNat : Nat) := by
  have := p.isLt
  simp [IntKind.wrap, IntKind.bits, IntKind.signed]
  omega
theorem ofInt32 (p : Wo) : BitVec.ofInt IntKind.u32.bits ((p.toNat : Nat) : Int) = p := by
  show BitVec.ofInt 32 ((p.toNat : Nat) : Int) = p
  rw [BitVec.ofInt_natCast, BitVec.ofNat_toNat, BitVec.setWidth_eq]
theorem Val.andW (hx : look l x = some (u32 p)) (hy : look l y = some (u32 q)) : Val P n W σ l X ⟨d, .binOp .and t x y t', ty, pos, aft, g⟩ (u32 (p &&& q)) :=
  aC_ hx hy (fun w => by
    simp only [Op.intBits, ofInt32]
    exact congrArg (fun r => Result.ok (Value.int .u32 r) w) (wrap32 (p &&& q))) rfl
theorem jS_ (hx : look l x = some (u32 p)) (hy : look l y = some (u32 q)) : Val P n W σ l X ⟨d, .binOp .or t x y t', ty, pos, aft, g⟩ (u32 (p ||| q)) :=
  aC_ hx hy (fun w => by
    simp only [Op.intBits, ofInt32]
    exact congrArg (fun r => Result.ok (Value.int .u32 r) w) (wrap32 (p ||| q))) rfl
theorem Val.shrB {m : Nat} {r : Int} (hx : look l x = some (u32 p)) (hy : look l y = some (.v (.int k' r))) (hr : r = (m : Nat)) : Val P n W σ l X ⟨d, .binOp .shr t x y t', ty, pos, aft, g⟩ (u32 (p >>> m)) :=
  i_ (bo_ hx hy (by omega)) (congrArg (fun r => Abs.v (.int .u32 r)) (by
    subst hr
    have hp := p.isLt
    simp only [IntKind.bits, Int.toNat_natCast, BitVec.toNat_ushiftRight, Nat.shiftRight_eq_div_pow]
    rw [Int.fdiv_eq_ediv_of_nonneg _ (by exact Int.le_of_lt (Int.pow_pos (by decide)))]
    rcases Nat.le_total m 32 with h | h
    · rw [Nat.min_eq_left h]; simp
    · rw [Nat.min_eq_right h, Nat.div_eq_of_lt (Nat.lt_of_lt_of_le hp (Nat.pow_le_pow_right (by decide) h))]
      omega))
theorem hL_ {m : Nat} {r : Int} (hx : look l x = some (u32 p)) (hy : look l y = some (.v (.int k' r))) (hr : r = (m : Nat)) : Val P n W σ l X ⟨d, .binOp .shl t x y t', ty, pos, aft, g⟩ (u32 (p <<< m)) :=
  i_ (bp_ hx hy (by omega)) (congrArg (fun r => Abs.v (.int .u32 r)) (by
    subst hr
    have hp := p.isLt
    have e : ∀ v : Int, IntKind.u32.wrap v = v % 4294967296 := fun v => by simp [IntKind.wrap, IntKind.bits, IntKind.signed]
    rw [e, show IntKind.u32.bits = 32 from rfl, Int.toNat_natCast, BitVec.toNat_shiftLeft, Nat.shiftLeft_eq]
    rcases Nat.le_total m 32 with h | h
    · rw [Nat.min_eq_left h]; simp
    · rw [Nat.min_eq_right h]
      obtain ⟨j, rfl⟩ : ∃ j, m = 32 + j := ⟨m - 32, by omega⟩
      rw [Nat.pow_add, show p.toNat * (2 ^ 32 * 2 ^ j) = 2 ^ 32 * (p.toNat * 2 ^ j) by rw [Nat.mul_left_comm], Nat.mul_mod_right]
      simp))
theorem be_ {ix : Plan} (hT : TabOk P tab) {i : TI} {j : Nat} (ht : ti tab t = some i) (hi : ops[j]? = some ⟨d, .alloc t, ty, pos, aft, g⟩) (hg : gd ops l ⟨d, .alloc t, ty, pos, aft, g⟩ = some true) (hd : lt? d n = true)
    (k : ∀ b, SX P ops ix (b :: X) (St n W (.blk b t (zabs i.zero) :: σ) (put? l d (.v (.pointer (some ⟨b, 0, none⟩))))) Q) : SX P ops (.e j ix) X (St n W σ l) Q := fun a w hs => by
  unfold planW wpOp
  simp only [hi, hs.wanted hg, if_true]
  refine .inl ?_
  unfold Oper.wp
  obtain ⟨zv, hz, hc⟩ := (hT t _ ht).zeroValue (w := w)
  obtain ⟨h1, h2⟩ := hs.mem.alloc t (bM_ i.zero)
  have hrun : (execOp a.eval ⟨d, .alloc t, ty, pos, aft, g⟩).run P w = .ok (.value (.pointer (some ⟨w.heap.size, 0, none⟩))) (w.alloc (row t i.zero)) := by
    simp [execOp, Instr.alloc, Sem.run_bind, hz, Result.andThen, newVar, newRow, newObj, Sem.run, hc, row]
  rw [hrun]
  refine ⟨fun w2 => Ext (w.heap.size :: X) (w.alloc (row t i.zero)) w2, fun w2 h3 => ((Ext.refl w).alloc _).trans (h3 : Ext (w.heap.size :: X) _ w2) fun x hx => ?_, Ext.refl _, k _ _ _ ((hs.to h1 h2).put hd (show rep _ _ (.v (.pointer (some ⟨w.heap.size, 0, none⟩))) _ from rfl))⟩
  rcases List.mem_cons.1 hx with rfl | hx
  · exact .inr (Nat.le_refl _)
  · exact .inl hx
theorem aB_ {ex : Exit} (h : τ.Perm σ) (k : SE ex (St n W τ l) Q) : SE ex (St n W σ l) Q := fun a w hs => k a w (hs.perm h)
end
section
variable {P : Program} {n : Nat} {W : Wd} {σ : Blks} {l : Slots} {X : List Nat} {x : Operand} {d : Option Nat} {ty t t' e tp : TypeId} {pos : String} {aft : Array Edge} {gq : Option (Nat × Bool)} {A : Abs} {ms : Array (String × TypeId)} {ops : Array Oper} {rest : List Oper} {Q : Exit → Act → World → Prop} {s : Nat} {xs : List (List Abs)}
theorem a0_ (hi : P.underlying t = some (.interface ms)) (hx : look l x = some (.ifc tp A)) : Val P n W σ l X ⟨d, .binOp .eql t x (.const .nilIface) t', ty, pos, aft, gq⟩ (.v (.bool false)) := fun a w hs _ => by
  obtain ⟨u, h1, h2⟩ := hs.eval hx
  refine ⟨_, rfl, fun w' _ => ?_⟩
  have h : ∀ d : Nat, (Op.equalIn (d + 1) t (.iface tp u) .nilIface).run P w' = .ok false w' := fun d => by simp [Op.equalIn, run_underlying hi]
  have h3 : (binOp .eql t (.iface tp u) .nilIface).run P w' = .ok (.bool false) w' := by
    simp only [binOp]
    simp [Op.equal, Op.maxDepth, h 9999]
  have e : a.eval (.const .nilIface) = .nilIface := rfl
  simp [execOp, h1, e, eqGuard, h3]
theorem bH_ (ht : P.underlying t = some (.slice e)) (hx : look l x = some (.sl s xs)) (hg : gd ops l ⟨d, .binOp .eql t x (.const (.slice none 0 0)) t', ty, pos, aft, gq⟩ = some true) (hd : lt? d n = true)
    (k : ∀ b : Bool, (b = true → xs = []) → SL P ops rest (St n W σ (put? l d (.v (.bool b)))) Q) : SL P ops (⟨d, .binOp .eql t x (.const (.slice none 0 0)) t', ty, pos, aft, gq⟩ :: rest) (St n W σ l) Q := fun a w hs =>
  wpList_step fun K hK => by
    rw [if_pos (hs.wanted hg)]
    unfold Oper.wp
    obtain ⟨us, hr, h2⟩ := hs.eval hx
    obtain ⟨A', c, h1, h3, h4, h5⟩ := hr.shape
    have e1 : a.eval (.const (.slice none 0 0)) = .slice none 0 0 := rfl
    have hrun : (binOp .eql t (.slice A' xs.length c) (.slice none 0 0)).run P w = .ok (.bool A'.isNone) w := by
      have h : ∀ d : Nat, (Op.equalIn (d + 1) t (.slice A' xs.length c) (.slice none 0 0)).run P w = .ok A'.isNone w := fun d => by cases A' <;> simp [Op.equalIn, run_underlying ht]
      simp only [binOp]
      simp [Op.equal, Op.maxDepth, h 9999]
    have hrun2 : (execOp a.eval ⟨d, .binOp .eql t x (.const (.slice none 0 0)) t', ty, pos, aft, gq⟩).run P w = .ok (.value (.bool A'.isNone)) w := by simp [execOp, h1, e1, eqGuard, hrun]
    rw [hrun2]
    refine hK _ _ (k A'.isNone (fun hb => ?_) _ _ (hs.put hd (show rep _ _ (.v (.bool A'.isNone)) _ from rfl)))
    cases A' with
    | none =>
      have := h5 rfl
      exact List.length_eq_zero_iff.1 (by omega)
    | some A' => cases hb
end
abbrev bs (l : List UInt8) : List (List Abs) := l.map fun b => [Abs.v (bc b)]
def rot (x : Wo) (n : Nat) : Wo := x >>> n ||| x <<< (32 - n)
def mixW (x : Wo) (a b c : Nat) : Wo := rot x a ^^^ rot x b ^^^ rot x c
def byW (l : List UInt8) (i : Nat) : Wo := BitVec.ofNat 32 (l.getD i 0).toNat
def wordAt (l : List UInt8) (i : Nat) : Wo := byW l (4 * i + 0) <<< 24 ||| byW l (4 * i + 1) <<< 16 ||| byW l (4 * i + 2) <<< 8 ||| byW l (4 * i + 3)
def nextW (l : List Wo) (z : Nat) : Wo := l.getD z 0 + (rot (l.getD (z + 1) 0) 7 ^^^ rot (l.getD (z + 1) 0) 18 ^^^ l.getD (z + 1) 0 >>> 3) + l.getD (z + 9) 0 + (rot (l.getD (z + 14) 0) 17 ^^^ rot (l.getD (z + 14) 0) 19 ^^^ l.getD (z + 14) 0 >>> 10)
def sched0 (l : List UInt8) (k : Nat) : List Wo := (List.range k).map (wordAt l)
def grow (l : List Wo) : Nat → List Wo
  | 0 => l
  | k + 1 => grow l k ++ [nextW (grow l k) k]
def sched (l : List UInt8) : List Wo := grow (sched0 l 16) 48
def roundsL : List Wo := [0x428a2f98#32, 0x71374491#32, 0xb5c0fbcf#32, 0xe9b5dba5#32, 0x3956c25b#32, 0x59f111f1#32, 0x923f82a4#32, 0xab1c5ed5#32, 0xd807aa98#32, 0x12835b01#32, 0x243185be#32, 0x550c7dc3#32, 0x72be5d74#32, 0x80deb1fe#32, 0x9bdc06a7#32, 0xc19bf174#32, 0xe49b69c1#32, 0xefbe4786#32, 0x0fc19dc6#32, 0x240ca1cc#32, 0x2de92c6f#32, 0x4a7484aa#32, 0x5cb0a9dc#32, 0x76f988da#32, 0x983e5152#32, 0xa831c66d#32, 0xb00327c8#32, 0xbf597fc7#32, 0xc6e00bf3#32, 0xd5a79147#32, 0x06ca6351#32, 0x14292967#32, 0x27b70a85#32, 0x2e1b2138#32, 0x4d2c6dfc#32, 0x53380d13#32, 0x650a7354#32, 0x766a0abb#32, 0x81c2c92e#32, 0x92722c85#32, 0xa2bfe8a1#32, 0xa81a664b#32, 0xc24b8b70#32, 0xc76c51a3#32, 0xd192e819#32, 0xd6990624#32, 0xf40e3585#32, 0x106aa070#32, 0x19a4c116#32, 0x1e376c08#32, 0x2748774c#32, 0x34b0bcb5#32, 0x391c0cb3#32, 0x4ed8aa4a#32, 0x5b9cca4f#32, 0x682e6ff3#32, 0x748f82ee#32, 0x78a5636f#32, 0x84c87814#32, 0x8cc70208#32, 0x90befffa#32, 0xa4506ceb#32, 0xbef9a3f7#32, 0xc67178f2#32]
structure R8 where
  (a0 a1 a2 a3 e0 e1 e2 e3 : Wo)
def R8.a (r : R8) : List Wo := [r.a0, r.a1, r.a2, r.a3]
def R8.e (r : R8) : List Wo := [r.e0, r.e1, r.e2, r.e3]
def R8.l (r : R8) : List Wo := [r.a0, r.a1, r.a2, r.a3, r.e0, r.e1, r.e2, r.e3]
def firstR : R8 := ⟨0x6a09e667#32, 0xbb67ae85#32, 0x3c6ef372#32, 0xa54ff53a#32, 0x510e527f#32, 0x9b05688c#32, 0x1f83d9ab#32, 0x5be0cd19#32⟩
def t1W (r : R8) (k w : Wo) : Wo := r.e3 + mixW r.e0 6 11 25 + (r.e2 ^^^ (r.e0 &&& (r.e1 ^^^ r.e2))) + k + w
def t2W (r : R8) : Wo := mixW r.a0 2 13 22 + ((r.a0 &&& r.a1) ^^^ (r.a0 &&& r.a2) ^^^ (r.a1 &&& r.a2))
def rnd (r : R8) (k w : Wo) : R8 := ⟨t1W r k w + t2W r, r.a0, r.a1, r.a2, r.a3 + t1W r k w, r.e0, r.e1, r.e2⟩
def rnds (r : R8) (ws : List Wo) : Nat → R8
  | 0 => r
  | i + 1 => rnd (rnds r ws i) (roundsL.getD i 0) (ws.getD i 0)
def R8.add (r s : R8) : R8 := ⟨r.a0 + s.a0, r.a1 + s.a1, r.a2 + s.a2, r.a3 + s.a3, r.e0 + s.e0, r.e1 + s.e1, r.e2 + s.e2, r.e3 + s.e3⟩
def blockW (r : R8) (l : List UInt8) : R8 := r.add (rnds r (sched l) 64)
def blocks (r : R8) (l : List UInt8) : Nat → R8
  | 0 => r
  | k + 1 => blockW (blocks r l k) (l.drop (64 * k))
structure Sm where
  (r : R8) (rest : List UInt8) (n : Nat)
def Sm.new : Sm := ⟨firstR, [], 0⟩
def Sm.add (s : Sm) (l : List UInt8) : Sm := ⟨blocks s.r (s.rest ++ l) ((s.rest ++ l).length / 64), (s.rest ++ l).drop (64 * ((s.rest ++ l).length / 64)), s.n + l.length⟩
theorem jH_ (l : List UInt8) : ∀ c ∈ bs l, ones c = true := by
  intro c hc
  obtain ⟨b, _, rfl⟩ := List.mem_map.1 hc
  rfl
theorem bX_ (l : List UInt8) : ones (digA l) = true := by
  rw [bC_]
  intro a ha
  obtain ⟨p, _, rfl⟩ := List.mem_map.1 ha
  rfl
end Go.Proofs.YtjclgkddfjbdiaaGreatDoor.A
namespace Go.Proofs.YtjclgkddfjbdiaaGreatDoor
open Go.RowKit
section
variable {P : Program} {ops : Array Oper}
def anyS (P : Program) (ops : Array Oper) (D : World → Prop) (m : Nat) (Q : Act → World → Prop) : Nat → Array Bool → Act → World → Prop
  | 0, listed, a, w => Region.ready .any ops listed = [] ∧ Q a w
  | fuel + 1, listed, a, w => (Region.ready .any ops listed = [] → Q a w) ∧
      ∀ i ∈ Region.ready .any ops listed, wpOp P ops NoExit i (fun a' w' => (m ≤ i ∨ D w') ∧ anyS P ops D m Q fuel (listed.setIfInBounds i true) a' w') a w
theorem anyS.wpAny {D : World → Prop} {m : Nat} {Q : Exit → Act → World → Prop} : ∀ (fuel : Nat) (listed : Array Bool) (a : Act) (w : World),
    anyS P ops D m (Q .normal) fuel listed a w → wpAny P .any ops Q fuel listed a w
  | 0, _, _, _, h => h
  | fuel + 1, _, _, _, h => ⟨h.1, fun i hi => bJ_ (wpOp_mono (fun a' w' h3 => anyS.wpAny fuel _ a' w' h3.2) (h.2 i hi))⟩
theorem anyS.mono {D D' : World → Prop} {m : Nat} {Q : Act → World → Prop} (hD : ∀ w, D' w → D w) : ∀ (fuel : Nat) (listed : Array Bool) (a : Act) (w : World),
    anyS P ops D' m Q fuel listed a w → anyS P ops D m Q fuel listed a w
  | 0, _, _, _, h => h
  | fuel + 1, _, _, _, h => ⟨h.1, fun i hi => wpOp_mono (fun a' w' h3 => ⟨h3.1.imp_right (hD _), anyS.mono hD fuel _ a' w' h3.2⟩) (h.2 i hi)⟩
def headIn (m : Nat) (L : Array Bool) : Bool := (List.range m).all fun i => L.getD i false
theorem h4_ {m : Nat} {L : Array Bool} (h : headIn m L = true) (j : Nat) : headIn m (L.setIfInBounds j true) = true := by
  unfold headIn at *
  rw [List.all_eq_true] at *
  exact fun i hi => getD_set_true (h i hi)
theorem h5_ {m : Nat} {L : Array Bool} (h : headIn m L = true) {i : Nat} (hi : i < m) : L.getD i false = true := by
  unfold headIn at h
  rw [List.all_eq_true] at h
  exact h i (List.mem_range.2 hi)
theorem anyD.toS {D D2 : World → Prop} {m : Nat} {Q : Act → World → Prop} : ∀ (fuel : Nat) (listed : Array Bool) (a : Act) (w : World), headIn m listed = true →
    anyD P ops D2 Q fuel listed a w → anyS P ops D m Q fuel listed a w
  | 0, _, _, _, _, h => h
  | fuel + 1, L, _, _, hL, h => ⟨h.1, fun i hi => wpOp_mono (fun a' w' h3 => ⟨.inl (by
      rcases Nat.lt_or_ge i m with h1 | h1
      · have h2 := h5_ hL h1
        rw [ej_ (mem_ready.1 hi).1] at h2
        cases h2
      · exact h1), anyD.toS fuel _ a' w' (h4_ hL i) h3.2⟩) (h.2 i hi)⟩
def domOkS (ops : Array Oper) (m : Nat) : Bool :=
  ((List.range m).all fun i => (List.range (m + 1)).any fun j => Nat.blt i j && ((ops[j]?).map fun o => o.after.any fun e => Region.binds .any e && e.on == i).getD false) &&
  ((List.range ops.size).all fun j => Nat.ble j m || ((ops[j]?).map fun o => o.after.any fun e => Region.binds .any e && Nat.ble m e.on && Nat.blt e.on j).getD false)
theorem ju_ {m : Nat} (hd : domOkS ops m = true) {i : Nat} (hi : i < m) : ∃ j o, i < j ∧ j ≤ m ∧ ops[j]? = some o ∧ ∃ e ∈ o.after, Region.binds .any e = true ∧ e.on = i := by
  unfold domOkS at hd
  rw [Bool.and_eq_true, List.all_eq_true] at hd
  have h1 := hd.1 i (by rw [List.mem_range]; omega)
  rw [List.any_eq_true] at h1
  obtain ⟨j, hj, h2⟩ := h1
  rw [List.mem_range] at hj
  simp only [Bool.and_eq_true, Nat.blt_eq] at h2
  obtain ⟨h2, h3⟩ := h2
  cases ho : ops[j]? with
  | none => rw [ho] at h3; cases h3
  | some o =>
    rw [ho] at h3
    simp only [Option.map_some, Option.getD_some, Array.any_eq_true, Bool.and_eq_true, beq_iff_eq] at h3
    obtain ⟨x, hx, hb, hon⟩ := h3
    exact ⟨j, o, h2, by omega, ho, _, Array.getElem_mem hx, hb, hon⟩
theorem jv_ {m : Nat} (hd : domOkS ops m = true) {j : Nat} {o : Oper} (ho : ops[j]? = some o) (hj : m < j) : ∃ e ∈ o.after, Region.binds .any e = true ∧ m ≤ e.on ∧ e.on < j := by
  unfold domOkS at hd
  rw [Bool.and_eq_true, List.all_eq_true, List.all_eq_true] at hd
  have h1 := hd.2 j (by rw [List.mem_range]; exact (Array.getElem?_eq_some_iff.1 ho).1)
  rw [ho] at h1
  simp only [Option.map_some, Option.getD_some, Bool.or_eq_true, Nat.ble_eq, Array.any_eq_true, Bool.and_eq_true, Nat.blt_eq] at h1
  rcases h1 with h1 | ⟨x, hx, ⟨hb, h2⟩, h3⟩
  · omega
  · exact ⟨_, Array.getElem_mem hx, hb, h2, h3⟩
def Due (ops : Array Oper) (L : Array Bool) (j : Nat) : Prop := ∃ o, ops[j]? = some o ∧ ∀ e ∈ o.after, Region.binds .any e = true → L.getD e.on false = true
theorem Due.down {m : Nat} (hd : domOkS ops m = true) {L : Array Bool} (hL : Down ops L) (hin : ∀ k, L.getD k false = true → ∃ o, ops[k]? = some o) : ∀ j, m ≤ j → Due ops L j → Due ops L m := by
  intro j
  induction j using Nat.strongRecOn with
  | _ j ih =>
    intro hj h
    by_cases hjm : j = m
    · subst hjm; exact h
    · obtain ⟨o, ho, hall⟩ := h
      obtain ⟨e, he, hb, h1, h2⟩ := jv_ hd ho (by omega)
      have h3 := hall e he hb
      obtain ⟨o2, ho2⟩ := hin _ h3
      exact ih e.on h2 h1 ⟨o2, ho2, hL _ _ ho2 h3⟩
theorem domS_all {m : Nat} (hd : domOkS ops m = true) {L : Array Bool} (hL : Down ops L) (hz : Due ops L m) : ∀ k i, m - i = k → i < m → L.getD i false = true := by
  intro k
  induction k using Nat.strongRecOn with
  | _ k ih =>
    intro i hk hi
    obtain ⟨j, o, hij, hj, ho, e, he, hb, hon⟩ := ju_ hd hi
    subst hon
    by_cases hjz : j = m
    · subst hjz
      obtain ⟨o', ho', hall⟩ := hz
      rw [ho'] at ho
      cases ho
      exact hall e he hb
    · exact hL j o ho (ih _ (by omega) j rfl (by omega)) e he hb
structure Listed (ops : Array Oper) (L : Array Bool) : Prop where
  down : Down ops L
  there : ∀ k, L.getD k false = true → ∃ o, ops[k]? = some o
theorem Listed.set {L : Array Bool} (h : Listed ops L) {j : Nat} (hj : j ∈ Region.ready .any ops L) : Listed ops (L.setIfInBounds j true) := by
  refine ⟨h.down.set hj, fun k hk => ?_⟩
  by_cases hkj : k = j
  · subst hkj
    obtain ⟨_, o, ho, _⟩ := mem_ready.1 hj
    exact ⟨o, ho⟩
  · have : (L.setIfInBounds j true).getD k false = L.getD k false := getD_set_ne false (Ne.symm hkj)
    exact h.there k (this ▸ hk)
theorem Listed.none (n : Nat) : Listed ops (Array.replicate n false) := by
  refine ⟨fV_ n, fun k h => ?_⟩
  rw [Array.getD_eq_getD_getElem?, Array.getElem?_replicate] at h
  split at h <;> cases h
theorem if_ {D : World → Prop} {m : Nat} {Q : Act → World → Prop} {i : Nat} {oi : Oper} {v : Value} (hd : domOkS ops m = true) (hiz : i < m) (hi : ops[i]? = some oi) (hsel : ∀ (j : Nat) (o : Oper) cs b, ops[j]? = some o → o.op ≠ .select cs b) :
    ∀ (fuel : Nat) (listed : Array Bool) (a : Act) (w : World), D w → Listed ops listed →
      (∀ j oj, ops[j]? = some oj → j ≠ i → listed.getD j true = false → (∀ e ∈ oj.after, Region.binds .any e = true → e.on ≠ i) → oi.apart ops oj = true) →
      i ∈ Region.ready .any ops listed → YieldsD P ops D oi v a →
      anyS P ops D m Q fuel (listed.setIfInBounds i true) (a.put oi.dst v) w → anyS P ops D m Q (fuel + 1) listed a w := by
  intro fuel
  induction fuel with
  | zero =>
    intro listed a w hDw _ _ hr hy H
    refine ⟨fun h => (by rw [h] at hr; cases hr), fun j hj => ?_⟩
    by_cases hji : j = i
    · subst hji; exact hy.wpOp hi hDw ⟨.inr hDw, H⟩
    · have := ready_mono hj hji
      rw [H.1] at this
      cases this
  | succ fuel ih =>
    intro listed a w hDw hdn hfree hr hy H
    refine ⟨fun h => (by rw [h] at hr; cases hr), fun j hj => ?_⟩
    by_cases hji : j = i
    · subst hji; exact hy.wpOp hi hDw ⟨.inr hDw, H⟩
    · have hjz : ¬ m ≤ j := fun h => by
        have h2 : Due ops listed j := (mem_ready.1 hj).2
        have h1 := domS_all hd hdn.down (h2.down hd hdn.down hdn.there j h) _ i rfl hiz
        have h0 := ej_ (mem_ready.1 hr).1
        rw [h1] at h0
        cases h0
      have h1 := H.2 j (ready_mono hj hji)
      obtain ⟨hjun, oj, hoj, hall⟩ := mem_ready.1 hj
      have hnot : ∀ e ∈ oj.after, Region.binds .any e = true → e.on ≠ i := fun e he hb heq => by
        have h1 := hall e he hb
        have h0 := (mem_ready.1 hr).1
        rw [heq] at h1
        rw [ej_ h0] at h1
        cases h1
      have h2 := dT_ hoj (hfree j oj hoj hji hjun hnot) (fun cs b => hsel i oi cs b hi) (fun cs b => hsel j oj cs b hoj) hy h1
      have hfree' : ∀ k ok, ops[k]? = some ok → k ≠ i → (listed.setIfInBounds j true).getD k true = false →
          (∀ e ∈ ok.after, Region.binds .any e = true → e.on ≠ i) → oi.apart ops ok = true := fun k ok hk hki hun hno => by
        refine hfree k ok hk hki ?_ hno
        by_cases hjk : j = k
        · subst hjk; exact hjun
        · rw [getD_set_ne true hjk] at hun; exact hun
      refine wpOp_mono (fun a' w' h3 => ?_) h2
      have hDw' : D w' := h3.2.1.resolve_left hjz
      refine ⟨.inr hDw', ih (listed.setIfInBounds j true) a' w' hDw' (hdn.set hj) hfree' (ready_mono hr (Ne.symm hji)) h3.1 ?_⟩
      rw [Array.setIfInBounds_comm _ _ hji]
      exact h3.2.2
def planOkS (ops : Array Oper) (m : Nat) (k2 : Plan) : Nat → Array Bool → Plan → Bool
  | n, listed, .nil => headIn m listed && planOk ops n listed k2
  | n + 1, listed, .q i k => Nat.blt i m && Region.free .any ops listed i && (Region.ready .any ops listed).contains i && planOkS ops m k2 n (listed.setIfInBounds i true) k
  | n + 1, listed, .e i k => (Region.ready .any ops listed == [i]) && planOkS ops m k2 n (listed.setIfInBounds i true) k
  | n + 1, listed, .two i j k h => (Region.ready .any ops listed == [i, j]) && planOkS ops m k2 n (listed.setIfInBounds i true) k && planOkS ops m k2 n (listed.setIfInBounds j true) h
  | _ + 1, _, .three .. => false
  | _ + 1, _, .four .. => false
  | 0, _, _ => false
def RestOf (P : Program) (ops : Array Oper) (k2 : Plan) (Q : Exit → Act → World → Prop) : Exit → Act → World → Prop := fun _ a w => ∃ D : World → Prop, D w ∧ planW P ops (Q .normal) k2 D a w
theorem planW.anyS {Q : Exit → Act → World → Prop} {m : Nat} {k2 : Plan} (hs : Region.noSelect ops = true) (hd : domOkS ops m = true) : ∀ (n : Nat) (ix : Plan) (D : World → Prop) (listed : Array Bool) (a : Act) (w : World), planOkS ops m k2 n listed ix = true → D w → Listed ops listed →
    planW P ops (RestOf P ops k2 Q .normal) ix D a w → Proofs.YtjclgkddfjbdiaaGreatDoor.anyS P ops D m (Q .normal) n listed a w
  | n, .nil, D, listed, a, w, hok, hD, hdn, ⟨D2, h1, h2⟩ => by
    unfold planOkS at hok
    simp only [Bool.and_eq_true] at hok
    exact anyD.toS _ _ _ _ hok.1 (planW.anyD hs n k2 D2 _ _ _ hok.2 h1 h2)
  | n + 1, .q i ix, D, listed, a, w, hok, hD, hdn, ⟨o, v, hi, hy, h⟩ => by
    simp only [planOkS, Bool.and_eq_true, Nat.blt_eq] at hok
    have hrd : i ∈ Region.ready .any ops listed := by simpa using hok.1.2
    exact if_ hd hok.1.1.1 hi (Region.noSelect_spec hs) n listed a w hD hdn (Region.free_spec hi hok.1.1.2) hrd hy (planW.anyS hs hd n ix D _ _ _ hok.2 hD (hdn.set hrd) h)
  | n + 1, .e i ix, D, listed, a, w, hok, hD, hdn, h => by
    simp only [planOkS, Bool.and_eq_true, beq_iff_eq] at hok
    refine ⟨fun h0 => (by rw [hok.1] at h0; cases h0), fun j hj => ?_⟩
    have hj0 := hj
    rw [hok.1] at hj
    simp only [List.mem_singleton] at hj
    subst hj
    exact wpOp_mono (fun a' w' ⟨D', hD', hw', h'⟩ => ⟨.inr (hD' _ hw'), anyS.mono hD' _ _ _ _ (planW.anyS hs hd n ix D' _ a' w' hok.2 hw' (hdn.set hj0) h')⟩) h
  | n + 1, .two i j k r, D, listed, a, w, hok, hD, hdn, h => by
    simp only [planOkS, Bool.and_eq_true, beq_iff_eq] at hok
    refine ⟨fun h0 => (by rw [hok.1.1] at h0; cases h0), fun q hq => ?_⟩
    have hq0 := hq
    rw [hok.1.1] at hq
    simp only [List.mem_cons, List.not_mem_nil, or_false] at hq
    rcases hq with rfl | rfl
    · exact wpOp_mono (fun a' w' ⟨D', hD', hw', h'⟩ => ⟨.inr (hD' _ hw'), anyS.mono hD' _ _ _ _ (planW.anyS hs hd n k D' _ a' w' hok.1.2 hw' (hdn.set hq0) h')⟩) h.1
    · exact wpOp_mono (fun a' w' ⟨D', hD', hw', h'⟩ => ⟨.inr (hD' _ hw'), anyS.mono hD' _ _ _ _ (planW.anyS hs hd n r D' _ a' w' hok.2 hw' (hdn.set hq0) h')⟩) h.2
  | n + 1, .three .., D, listed, a, w, hok, hD, hdn, h => by simp [planOkS] at hok
  | n + 1, .four .., D, listed, a, w, hok, hD, hdn, h => by simp [planOkS] at hok
theorem dS_ {id m : Nat} {k2 : Plan} {a : Act} {w : World} {Q : Exit → Act → World → Prop} (D : World → Prop) (ix : Plan) (hm : P.follows .mixedOrders = true)
    (hok : (Region.noSelect ops && domOkS ops m && planOkS ops m k2 ops.size (Array.replicate ops.size false) ix) = true) (hD : D w.drew)
    (h : planW P ops (RestOf P ops k2 Q .normal) ix D a w.drew) : (Code.region id ops true).wp P Q a w := by
  simp only [Bool.and_eq_true] at hok
  refine wp_region_any hm ?_
  exact anyS.wpAny _ _ _ _ (planW.anyS hok.1.1 hok.1.2 _ ix D _ a _ hok.2 hD (Listed.none _) h)
end
end Go.Proofs.YtjclgkddfjbdiaaGreatDoor
namespace Go.Proofs.YtjclgkddfjbdiaaGreatDoor.A
open Go.RowKit
section
variable {P : Program} {n : Nat} {W : Wd} {σ τ : Blks} {l : Slots} {X : List Nat} {x y : Operand} {d : Option Nat} {ty t t' e : TypeId} {pos : String} {aft : Array Edge} {g : Option (Nat × Bool)} {A : Abs} {tab : List (Nat × TI)} {ops : Array Oper} {Q : Exit → Act → World → Prop} {v : Value} {xs : List (List Abs)} {s q : Nat} {a b : Int}
theorem SC.drawS {id : Nat} (m : Nat) (X : List Nat) (ix k2 : Plan) (hm : P.follows .mixedOrders = true)
    (hok : (Region.noSelect ops && domOkS ops m && planOkS ops m k2 ops.size (Array.replicate ops.size false) ix) = true) (h : SX P ops ix X (St n W σ l) (RestOf P ops k2 Q)) : SC P (.region id ops true) (St n W σ l) Q := fun a w hs =>
  dS_ (fun w' => Ext X w.drew w') ix hm hok (Ext.refl _) (h a _ hs.drew)
theorem SE.rest {k2 : Plan} (X : List Nat) (h : SX P ops k2 X (St n W σ l) Q) : SE .normal (St n W σ l) (RestOf P ops k2 Q) := fun a w hs => ⟨fun w' => Ext X w w', Ext.refl w, h a w hs⟩
theorem fH_ {K : List Nat} {w : World} {ys : List Abs} {vs : List Value} (hy : reps K w ys vs) (hv : vs.length = s) : ∀ {xs : List (List Abs)} {us : List Value} {q : Nat}, repss K w s xs us → q < xs.length → repss K w s (xs.set q ys) (us.take (q * s) ++ vs ++ us.drop (q * s + s))
  | [], _, _, _, h => by simp at h
  | c :: xs, _, 0, ⟨u1, u2, h1, h2, h3, h4⟩, _ => by
    subst h1
    refine ⟨vs, u2, ?_, hv, hy, h4⟩
    simp [← h2]
  | c :: xs, _, q + 1, ⟨u1, u2, h1, h2, h3, h4⟩, hq => by
    subst h1
    have h5 := fH_ hy hv h4 (q := q) (by simpa using hq)
    refine ⟨u1, _, ?_, h2, h3, h5⟩
    have e1 : (q + 1) * s = u1.length + q * s := by rw [Nat.succ_mul]; omega
    rw [e1, Nat.add_assoc, List.take_length_add_append, List.drop_length_add_append]
    simp
theorem io_ (hT : TabOk P tab) {i : TI} {ys : List Abs} (ht : ti tab t = some i) (hx : look l x = some (.v (eptr v (q * s)))) (hy : look l y = some A) (hu : Upd (own e s v xs) (own e s v (xs.set q ys)) σ τ) (hc : cellsA A = ys) (hs : Nat.beq i.size s = true) (hl : Nat.beq ys.length s = true) (hq : q < xs.length) (h1 : ones ys = true) :
    Eff P n W σ l v.ownBlock.toList ⟨d, .store t x y, ty, pos, aft, g⟩ fun u τ' => u = .v undef ∧ τ' = τ := fun ac w hst => by
  have hs := Nat.eq_of_beq_eq_true hs
  have hl := Nat.eq_of_beq_eq_true hl
  obtain ⟨us, hown, hr⟩ : (ownPc e s v xs).p _ w := hst.mem.hold _ hu.mem
  have hry := cq_ (hst.eval hy)
  rw [hc] at hry
  have hlen := V_ hry
  have hone := bN_ hry h1
  rcases hown.2 with ⟨h, h0⟩ | ⟨gb, cap, cur, hv, hbase, hg, hn, hcap, hsz, htk⟩
  · omega
  · subst hv
    have h2 := (hT t _ ht).sizeOf (w := w)
    have hb1 : q * s + s ≤ xs.length * s := by rw [← Nat.succ_mul]; exact Nat.mul_le_mul_right _ hq
    have hb2 : xs.length * s ≤ cap * s := Nat.mul_le_mul_right _ hn
    have hrun := run_storeCells_at (P := P) gb (0 + q * s) e (cellsL (ac.eval y)) 0 cur w hg (by omega) hone
    have e0 : 0 + q * s + 0 = q * s := by omega
    rw [e0] at hrun
    have hcl : cur.toList.length = cur.size := by simp
    have hle : (cellsL (ac.eval y)).length = s := by omega
    have hxx : Ext (Value.ownBlock (.slice (some ⟨gb, 0, none⟩) xs.length cap)).toList w (w.setRow gb (cur.toList.take (q * s) ++ cellsL (ac.eval y) ++ cur.toList.drop (q * s + (cellsL (ac.eval y)).length)).toArray) := (Ext.refl w).setRow (.inl (by simp [Value.ownBlock])) _
    have hnew : (cur.toList.take (q * s) ++ cellsL (ac.eval y) ++ cur.toList.drop (q * s + (cellsL (ac.eval y)).length)).take (xs.length * s) = us.take (q * s) ++ cellsL (ac.eval y) ++ us.drop (q * s + s) := by
      rw [← htk, hle]
      apply List.ext_getElem?
      intro j
      simp only [List.getElem?_take, List.getElem?_append, List.length_append, List.length_take, List.getElem?_drop, hle]
      grind
    have hm := hst.mem.upd hu hxx aM_ (fun k hk => .inl hk) rfl fun hca => ⟨us.take (q * s) ++ cellsL (ac.eval y) ++ us.drop (q * s + s), ⟨?_, .inr ⟨gb, cap, _, by rw [List.length_set], hbase, setRow_heap w gb cur _ e (0, 0) hg, by rw [List.length_set]; exact hn, hcap, ?_, ?_⟩⟩, ai_ hca _ _ _ (fH_ hry (by omega) hr hq)⟩
    · refine ⟨undef, _, _, _, ⟨rfl, rfl⟩, hxx, rfl, hm.1, hm.2, .inr ⟨rfl, ?_⟩⟩
      have hcs := c2_ (ac.eval y)
      have hle2 : (cellsL (ac.eval y)).length = i.size := by omega
      have hx2 : ac.eval x = .pointer (some ⟨gb, 0 + q * s, none⟩) := hst.plain hx
      simp [execOp, hx2, Instr.storeAt, Instr.sureAddr, storeVar, Sem.run_bind, hcs, h2, hle2, hrun, Result.andThen]
      (simp only [Nat.zero_add] at hrun; simp [hle2, hrun])
    · have h5 := hown.1
      simp only [List.length_append, List.length_take, List.length_drop, List.length_set]
      omega
    · simp only [List.size_toArray, List.length_append, List.length_take, List.length_drop]
      omega
    · rw [List.length_set]
      simpa using hnew
end
def an64 (x y : Nat) : Nat := (x % 18446744073709551616) &&& (y % 18446744073709551616)
section
variable {P : Program} {n : Nat} {W : Wd} {σ τ : Blks} {l : Slots} {X : List Nat} {x y z : Operand} {d : Option Nat} {ty t t' e : TypeId} {pos : String} {aft : Array Edge} {g : Option (Nat × Bool)} {k k' : IntKind} {a b : Int} {p q : Nat} {c : Wo}
theorem wrap64 (v : Int) : IntKind.u64.wrap v = v % 18446744073709551616 := by simp [IntKind.wrap, IntKind.bits, IntKind.signed]
theorem ofInt64 (p : Nat) : BitVec.ofInt IntKind.u64.bits ((p : Nat) : Int) = BitVec.ofNat 64 p := by
  show BitVec.ofInt 64 ((p : Nat) : Int) = _
  rw [BitVec.ofInt_natCast]
theorem Val.an64 (hx : look l x = some (.v (.int .u64 a))) (hy : look l y = some (.v (.int .u64 b))) (p q : Nat) (ha : a = (p : Nat)) (hb : b = (q : Nat)) : Val P n W σ l X ⟨d, .binOp .and t x y t', ty, pos, aft, g⟩ (wrd (an64 p q)) := by
  subst ha hb
  refine aC_ hx hy (fun w => ?_) rfl
  simp only [Op.intBits, ofInt64]
  refine congrArg (fun r => Result.ok (Value.int .u64 r) w) ?_
  rw [wrap64]
  have h : (BitVec.ofNat 64 p &&& BitVec.ofNat 64 q).toNat = Proofs.YtjclgkddfjbdiaaGreatDoor.A.an64 p q := by rw [BitVec.toNat_and, BitVec.toNat_ofNat, BitVec.toNat_ofNat]; rfl
  have h2 := (BitVec.ofNat 64 p &&& BitVec.ofNat 64 q).isLt
  show (((BitVec.ofNat 64 p &&& BitVec.ofNat 64 q).toNat : Nat) : Int) % _ = _
  rw [← h]
  omega
end
/-! ### Constants -/
def mulHi (x y : Nat) : Nat :=
  let w0 := an64 x 4294967295 * an64 y 4294967295 % 18446744073709551616
  let t := (x / 2 ^ 32 * an64 y 4294967295 % 18446744073709551616 + w0 / 2 ^ 32) % 18446744073709551616
  ((x / 2 ^ 32 * (y / 2 ^ 32) % 18446744073709551616 + t / 2 ^ 32) % 18446744073709551616 + (an64 t 4294967295 + an64 x 4294967295 * (y / 2 ^ 32) % 18446744073709551616) % 18446744073709551616 / 2 ^ 32) % 18446744073709551616
def gt2 (hi lo p : Nat) : Bool := Nat.blt p hi || (Nat.beq hi p && Nat.blt 0 lo)
def above (x p : Nat) (cube : Bool) : Bool :=
  match cube with
  | false => gt2 (mulHi x x) (x * x % 18446744073709551616) p
  | true => gt2 ((mulHi x x * x % 18446744073709551616 + mulHi (x * x % 18446744073709551616) x) % 18446744073709551616) (x * x % 18446744073709551616 * x % 18446744073709551616) (p * 2 ^ 32 % 18446744073709551616)
abbrev ws (l : List Wo) : List (List Abs) := l.map fun p => [u32 p]
section
variable {P : Program} {n : Nat} {W : Wd} {σ τ : Blks} {l : Slots} {X : List Nat} {x y z : Operand} {d : Option Nat} {ty t t' e : TypeId} {pos : String} {aft : Array Edge} {g : Option (Nat × Bool)} {A : Abs} {tab : List (Nat × TI)} {ops : Array Oper} {Q : Exit → Act → World → Prop} {k : IntKind}
theorem ofInt8 (c : UInt8) : BitVec.ofInt IntKind.u8.bits ((c.toNat : Nat) : Int) = c.toBitVec := by
  show BitVec.ofInt 8 ((c.toBitVec.toNat : Nat) : Int) = _
  rw [BitVec.ofInt_natCast, BitVec.ofNat_toNat, BitVec.setWidth_eq]
theorem wrap8 (p : BitVec 8) : IntKind.u8.wrap (p.toNat : Nat) = (p.toNat : Nat) := by
  have := p.isLt
  simp only [IntKind.wrap, IntKind.bits, IntKind.signed]
  simp
  omega
theorem jT_ {c f : UInt8} (hx : look l x = some (.v (bc c))) (hy : look l y = some (.v (bc f))) : Val P n W σ l X ⟨d, .binOp .or t x y t', ty, pos, aft, g⟩ (.v (bc (c ||| f))) :=
  aC_ hx hy (fun w => by
    simp only [Op.intBits, ofInt8]
    exact congrArg (fun r => Result.ok (Value.int .u8 r) w) (wrap8 (c.toBitVec ||| f.toBitVec))) rfl
end
/-! ### Rows of words -/
def cutTo : Value → Nat → Value
  | .slice a _ c, q => .slice a q c
  | v, _ => v
theorem bY_ (v : Value) (q : Nat) : (cutTo v q).ownBlock = v.ownBlock := by
  unfold cutTo
  split
  · next a n c => cases a <;> rfl
  · rfl
section
variable {P : Program} {n : Nat} {W : Wd} {σ τ : Blks} {l : Slots} {X : List Nat} {x y z : Operand} {d : Option Nat} {ty t e e' : TypeId} {pos : String} {aft : Array Edge} {g : Option (Nat × Bool)} {v u : Value} {k : IntKind} {tab : List (Nat × TI)} {xs ys : List (List Abs)} {s q : Nat} {ops : Array Oper} {rest : List Oper} {Q : Exit → Act → World → Prop}
theorem eE_ (hT : TabOk P tab) {j : TI} (hu : P.underlying t = some (.slice e)) (hj : ti tab e = some j) (hx : look l x = some (.v v)) (hb : isOwn σ e' s v xs) {r : Int} (hy : look l y = some (.v (.int k r))) (hr : r = (q : Nat)) (hq : q ≤ xs.length) :
    Val P n W σ l X ⟨d, .slice t x none (some y) none, ty, pos, aft, g⟩ (.v (cutTo v q)) := fun a w hs _ => by
  subst hr
  obtain ⟨us, hr1, hr2⟩ := hs.mem.ownR hb
  obtain ⟨A', c, hsh, h3, _⟩ := hr1.shape
  refine ⟨_, rfl, fun w' _ => ?_⟩
  have h7 := (hT _ _ hj).sizeOf (w := w')
  have e1 : a.eval x = .slice A' xs.length c := (hs.plain hx).trans hsh
  have e2 : a.eval y = .int k ((q : Nat) : Int) := hs.plain hy
  rw [hsh]
  have hqc : q ≤ c := by omega
  simp [execOp, Instr.sliceAt, Instr.slice, Instr.sliceBounds, Instr.sliceBound, asIntOf, e1, e2, run_underlying hu, Sem.run_bind, Result.andThen, h7, hqc, Addr.add, cutTo]
  try (cases A' <;> simp)
theorem fI_ {K : List Nat} {w : World} {z : Value} : ∀ m : Nat, repss K w 1 (List.replicate m [.v z]) (List.replicate m z)
  | 0 => rfl
  | m + 1 => ⟨[z], List.replicate m z, rfl, rfl, ⟨z, [], rfl, rfl, rfl⟩, fI_ m⟩
end
section
variable {P : Program} {n : Nat} {W : Wd} {σ σ0 : Blks} {l : Slots} {X0 : List Nat} {ops : Array Oper} {Q : Exit → Act → World → Prop} {ix : Plan} {o : Oper}
theorem ch_ (ν : Blks) (X0 : List Nat) {i : Nat} {Y : List Nat} {R : Abs → Blks → Prop} (hi : ops[i]? = some o) (hv : Eff P n W σ l Y o R) (hσ : σ = ν ++ σ0) (hY : ∀ k ∈ Y, k ∈ mids ν ++ X0) (hg : gd ops l o = some true) (hd : lt? o.dst n = true)
    (k : ∀ y τ, R y τ → ∃ ν' : Blks, τ = ν' ++ σ0 ∧ SX P ops ix (mids ν' ++ X0) (St n W τ (put? l o.dst y)) Q) : SX P ops (.e i ix) (mids ν ++ X0) (St n W σ l) Q := fun a w hs => by
  unfold planW wpOp
  simp only [hi, hs.wanted hg, if_true]
  refine .inl ?_
  unfold Oper.wp
  obtain ⟨v, w', y, τ, hR, hx, hr, hm, hc, hrun⟩ := hv a w hs
  obtain ⟨ν', hτ, hk⟩ := k y τ hR
  have hnew : ∀ k ∈ mids ν' ++ X0, k ∈ mids ν ++ X0 ∨ w.heap.size ≤ k := fun k hk => by
    rcases List.mem_append.1 hk with hk | hk
    · have hkt : k ∈ mids τ := by rw [hτ, L_]; exact List.mem_append_left _ hk
      rcases Nat.lt_or_ge k w.heap.size with h1 | h1
      · have h2 : k ∈ mids σ ++ W.G := Classical.byContradiction fun hn => hc.out k hn h1 (List.mem_append_left _ hkt)
        rcases List.mem_append.1 h2 with h2 | h2
        · rw [hσ, L_] at h2
          rcases List.mem_append.1 h2 with h2 | h2
          · exact .inl (List.mem_append_left _ h2)
          · have hnd := hm.nodup
            rw [hτ, L_, List.nodup_append] at hnd
            exact absurd rfl (hnd.2.2 k hk k h2)
        · exact absurd h2 (hm.sep k hkt)
      · exact .inr h1
    · exact .inl (List.mem_append_right _ hk)
  have hinv : ∀ w2, Ext (mids ν' ++ X0) w' w2 → Ext (mids ν ++ X0) w w2 := fun w2 h2 => (hx.mono (fun k hk => .inl (hY k hk))).trans h2 hnew
  rcases hrun with hrun | ⟨rfl, hrun⟩
  · rw [hrun]; exact ⟨fun w2 => Ext (mids ν' ++ X0) w' w2, hinv, Ext.refl w', hk _ _ ((hs.to hm hc).put hd hr)⟩
  · rw [hrun]; exact ⟨fun w2 => Ext (mids ν' ++ X0) w' w2, hinv, Ext.refl w', hk _ _ ((hs.to hm hc).put hd hr)⟩
end
theorem Re.cast {b : Nat} {t : TypeId} {cs ds : List Abs} (h : Casts cs ds) : Re [.blk b t cs] [.blk b t ds] := ⟨⟨[], by simp [mids, It.mids]⟩, by simp [It.rids], fun K w hx y hy => by
  rw [List.mem_singleton.1 hy]
  obtain ⟨us, h1, h2⟩ := hx (.blk b t cs) (by simp)
  exact ⟨us, h1, h K w us h2⟩⟩
theorem Re.cons {xs ys : Blks} {x : It} (hx : x.rids = []) (h : Re xs ys) : Re (x :: xs) (x :: ys) where
  ids := by
    obtain ⟨a, ha⟩ := h.ids
    refine ⟨a, ?_⟩
    rw [ad_, ad_, List.append_assoc]
    exact List.Perm.append_left _ ha
  rd := fun y hy => by
    rcases List.mem_cons.1 hy with rfl | hy
    · exact hx
    · exact h.rd y hy
  hh := fun K w hk y hy => by
    rcases List.mem_cons.1 hy with rfl | hy
    · exact hk _ List.mem_cons_self
    · exact h.hh K w (fun z hz => hk z (List.mem_cons_of_mem _ hz)) y hy
theorem Re.perm {xs ys : Blks} (h : xs.Perm ys) (hr : ∀ x ∈ xs, x.rids = []) : Re xs ys := ⟨⟨[], by rw [List.append_nil]; exact cd_ h⟩, fun y hy => hr y (h.mem_iff.2 hy), fun K w hx y hy => hx y (h.mem_iff.2 hy)⟩
def cutS (s : Nat) : Value → Nat → Value
  | .slice (some a) n c, q => .slice (some (if c = q then a else ⟨a.block, a.off + q * s, none⟩)) (n - q) (c - q)
  | .slice none n c, q => .slice none (n - q) (c - q)
  | v, _ => v
def capV : Value → Nat
  | .slice _ _ c => c
  | _ => 0
def chunks (s : Nat) : Nat → List Value → List (List Abs)
  | 0, _ => []
  | m + 1, l => (l.take s).map .v :: chunks s m (l.drop s)
theorem cp_ (s : Nat) : ∀ (m : Nat) (l : List Value), (chunks s m l).length = m
  | 0, _ => rfl
  | m + 1, l => by simp [chunks, cp_ s m]
theorem d5_ {K : List Nat} {w : World} : ∀ l : List Value, reps K w (l.map .v) l
  | [] => rfl
  | u :: l => ⟨u, l, rfl, rfl, d5_ l⟩
theorem cb_ {K : List Nat} {w : World} {s : Nat} : ∀ (m : Nat) (l : List Value), l.length = m * s → repss K w s (chunks s m l) l
  | 0, l, h => by
    rw [Nat.zero_mul] at h
    exact List.length_eq_zero_iff.1 h
  | m + 1, l, h => by
    rw [Nat.succ_mul] at h
    exact ⟨l.take s, l.drop s, (List.take_append_drop s l).symm, by rw [List.length_take]; omega, d5_ _, cb_ m _ (by rw [List.length_drop]; omega)⟩
theorem bw_ {K : List Nat} {w : World} {s : Nat} {xs : List (List Abs)} {us : List Value} (h : repss K w s xs us) (q : Nat) (hq : q ≤ xs.length) : repss K w s (xs.take q) (us.take (q * s)) ∧ repss K w s (xs.drop q) (us.drop (q * s)) := by
  have h1 := h
  rw [← List.take_append_drop q xs] at h1
  obtain ⟨u1, u2, e, h2, h3⟩ := cB_ h1
  have hl := aE_ h2
  rw [List.length_take, Nat.min_eq_left hq] at hl
  subst e
  rw [← hl, List.take_left, List.drop_left]
  exact ⟨h2, h3⟩
theorem cC_ {K : List Nat} {w : World} {s : Nat} : ∀ {ys : List (List Abs)} {news : List Value}, (∀ c ∈ ys, ones c = true) → repss K w s ys news → ∀ u ∈ news, u.oneCell' = true
  | [], news, _, h, u, hu => by
    have : news = [] := h
    subst this
    cases hu
  | c :: ys, _, ho, ⟨u1, u2, h1, _, h3, h4⟩, u, hu => by
    subst h1
    rcases List.mem_append.1 hu with hu | hu
    · exact bN_ h3 (ho c (by simp)) u hu
    · exact cC_ (fun c hc => ho c (by simp [hc])) h4 u hu
theorem hV_ {P : Program} (w : World) (dT sT ty elem : TypeId) (g o dLen dCap : Nat) (a : Addr) (sLen sCap : Nat) (cur : Array Value) (t : TypeId) (cs : List Value) {I : TypeInfo}
    (hu : P.underlying dT = some (.slice elem)) (hq : P.info? elem = some I) (hg : w.heap[g]? = some (.cells cur t (0, 0))) (hn : cs.length = Nat.min sLen dLen * I.size)
    (hsrc : ∀ j v, cs[j]? = some v → w.cell? (a.add j) = some v) (hfit : o + cs.length ≤ cur.size) (h1 : ∀ v ∈ cs, v.oneCell' = true) :
    (Builtin.copy_ #[dT, sT] ty #[.slice (some ⟨g, o, none⟩) dLen dCap, .slice (some a) sLen sCap]).run P w = .ok (goInt (Nat.min sLen dLen)) (w.setRow g (cur.toList.take o ++ cs ++ cur.toList.drop (o + cs.length)).toArray) := by
  have hl := run_loadCells_list (P := P) w a cs hsrc
  have hst := run_storeCells_at P g o t cs 0 cur w hg (by simpa using hfit) h1
  simp [Builtin.copy_, run_underlying hu, Builtin.lenOf, Builtin.firstCells, sizeOf, typeInfo, hq, ← hn, hl, hst]
section
variable {P : Program} {n : Nat} {W : Wd} {σ τ : Blks} {l : Slots} {X : List Nat} {x y : Operand} {d : Option Nat} {ty t t' e e' : TypeId} {pos : String} {aft : Array Edge} {g : Option (Nat × Bool)} {v u : Value} {k : IntKind} {tab : List (Nat × TI)} {xs ys : List (List Abs)} {s q : Nat} {ops : Array Oper} {rest : List Oper} {Q : Exit → Act → World → Prop}
theorem aL_ {w : World} {a : Act} (hs : St n W σ l a w) (hb : own e s v xs ∈ σ) : ∃ us, w.ownsRow 0 e s v xs.length us ∧ repss (mids σ ++ W.G) w s xs us := hs.mem.hold _ hb
theorem dm_ {w : World} {m : Nat} {us : List Value} (h : w.ownsRow 0 e s v m us) : ∃ A c, v = .slice A m c ∧ m ≤ c := by
  rcases h.2 with ⟨rfl, h0⟩ | ⟨gb, cap, cur, rfl, _, _, hn, _⟩
  · exact ⟨none, 0, by rw [h0], by omega⟩
  · exact ⟨_, cap, rfl, hn⟩
theorem a7_ (hT : TabOk P tab) {j : TI} (hu : P.underlying t = some (.slice e)) (hj : ti tab e = some j) (h1 : Nat.beq j.size s = true) (hx : look l x = some (.v v)) (hb : own e' s v xs ∈ σ) {r : Int} (hy : look l y = some (.v (.int k r))) (hr : r = (q : Nat)) (hq : q ≤ xs.length) :
    Val P n W σ l X ⟨d, .slice t x (some y) none none, ty, pos, aft, g⟩ (.v (cutS s v q)) := fun a w hs _ => by
  subst hr
  have h1 := Nat.eq_of_beq_eq_true h1
  obtain ⟨us, hr1, _⟩ := aL_ hs hb
  rcases hr1.2 with ⟨rfl, h0⟩ | ⟨gb, c, cur, rfl, _, _, hn, _⟩
  · have hq0 : q = 0 := by omega
    subst hq0
    refine ⟨_, rfl, fun w' _ => ?_⟩
    have h7 := (hT _ _ hj).sizeOf (w := w')
    have e1 : a.eval x = .slice none 0 0 := hs.plain hx
    have e2 : a.eval y = .int k ((0 : Nat) : Int) := hs.plain hy
    simp [execOp, Instr.sliceAt, Instr.slice, Instr.sliceBounds, Instr.sliceBound, asIntOf, e1, e2, run_underlying hu, Sem.run_bind, Result.andThen, h7, cutS]
  · refine ⟨_, rfl, fun w' _ => ?_⟩
    have h7 := (hT _ _ hj).sizeOf (w := w')
    have e1 : a.eval x = .slice (some ⟨gb, 0, none⟩) xs.length c := hs.plain hx
    have e2 : a.eval y = .int k ((q : Nat) : Int) := hs.plain hy
    by_cases hc : c = q <;> simp [execOp, Instr.sliceAt, Instr.slice, Instr.sliceBounds, Instr.sliceBound, asIntOf, e1, e2, run_underlying hu, Sem.run_bind, Result.andThen, h7, h1, hq, hc, Addr.add, cutS]
    try omega
theorem gb_ (hT : TabOk P tab) {j : TI} (hu : P.underlying t = some (.slice e)) (hj : ti tab e = some j) (hx : look l x = some (.v v)) (hb : own e' s v xs ∈ σ) {r : Int} (hy : look l y = some (.v (.int k r))) (hr : r = (q : Nat)) (hq : q ≤ capV v) :
    Val P n W σ l X ⟨d, .slice t x none (some y) none, ty, pos, aft, g⟩ (.v (cutTo v q)) := fun a w hs _ => by
  subst hr
  obtain ⟨us, hr1, _⟩ := aL_ hs hb
  obtain ⟨A', c, rfl, _⟩ := dm_ hr1
  refine ⟨_, rfl, fun w' _ => ?_⟩
  have h7 := (hT _ _ hj).sizeOf (w := w')
  have e1 : a.eval x = .slice A' xs.length c := hs.plain hx
  have e2 : a.eval y = .int k ((q : Nat) : Int) := hs.plain hy
  have hq' : q ≤ c := hq
  have h8 : ∀ a : Addr, a.spot = none → a.add 0 = a := fun a ha => by obtain ⟨b, o, r⟩ := a; cases ha; rfl
  rcases Nat.eq_zero_or_pos c with hc | hc
  · subst hc
    obtain rfl : q = 0 := by omega
    cases A' <;> simp [execOp, Instr.sliceAt, Instr.slice, Instr.sliceBounds, Instr.sliceBound, asIntOf, e1, e2, run_underlying hu, Sem.run_bind, Result.andThen, h7, cutTo]
  · have hc : ¬ c = 0 := by omega
    cases A' with
    | none => simp [execOp, Instr.sliceAt, Instr.slice, Instr.sliceBounds, Instr.sliceBound, asIntOf, e1, e2, run_underlying hu, Sem.run_bind, Result.andThen, h7, hq', cutTo, hc]
    | some A =>
      have hA : A.spot = none := by
        rcases hr1.2 with ⟨h, _⟩ | ⟨gb, cap, cur, h, _⟩
        · cases h
        · cases h; rfl
      simp [execOp, Instr.sliceAt, Instr.slice, Instr.sliceBounds, Instr.sliceBound, asIntOf, e1, e2, run_underlying hu, Sem.run_bind, Result.andThen, h7, hq', cutTo, hc, h8 A hA]
theorem ik_ (hx : look l x = some (.v v)) (hb : own e' s v xs ∈ σ) (ht : P.underlying t = some (.slice e)) : Val P n W σ l X ⟨d, .call { callee := .builtin .cap, args := #[x], argTypes := #[t] }, ty, pos, aft, g⟩ (.v (.int .i64 (capV v : Nat))) := fun a w hs _ => by
  obtain ⟨us, hr1, _⟩ := aL_ hs hb
  obtain ⟨A', c, rfl, _⟩ := dm_ hr1
  refine ⟨_, rfl, fun w' _ => ?_⟩
  have e1 : a.eval x = .slice A' xs.length c := hs.plain hx
  simp [execOp, resolve, invoke, builtin, Builtin.cap_, e1, run_underlying ht, Sem.run_bind, Result.andThen, goInt, capV]
theorem St.growOwn {a : Act} {w : World} (h : St n W σ l a w) (hb : own e s v xs ∈ σ) (hq : xs.length ≤ q) (hc : q ≤ capV v) : ∃ js : List (List Abs), js.length + xs.length = q ∧ ∀ τ, Upd (own e s v xs) (own e s (cutTo v q) (xs ++ js)) σ τ → St n W τ l a w := by
  obtain ⟨us, hown, hr⟩ := aL_ h hb
  rcases hown.2 with ⟨rfl, h0⟩ | ⟨gb, cap, cur, rfl, hbase, hg, hn, hcap, hsz, htk⟩
  · have hq0 : q = 0 := by simp only [capV] at hc; omega
    refine ⟨[], by simp; omega, fun τ hu => ?_⟩
    have hx0 : xs = [] := List.length_eq_zero_iff.1 h0
    subst hx0 hq0
    have := dH_ (x := own e s (.slice none 0 0) []) hu
    rw [this]
    exact h
  · simp only [capV] at hc
    have hle : q * s ≤ cap * s := Nat.mul_le_mul_right _ hc
    have hle2 : xs.length * s ≤ q * s := Nat.mul_le_mul_right _ hq
    have hjl : ((cur.toList.take (q * s)).drop (xs.length * s)).length = (q - xs.length) * s := by
      rw [List.length_drop, List.length_take, Nat.min_eq_left (by simp; omega), Nat.sub_mul]
    refine ⟨chunks s (q - xs.length) ((cur.toList.take (q * s)).drop (xs.length * s)), by rw [cp_]; omega, fun τ hu => ?_⟩
    have hl : (xs ++ chunks s (q - xs.length) ((cur.toList.take (q * s)).drop (xs.length * s))).length = q := by rw [List.length_append, cp_]; omega
    have hm := h.mem.upd hu (Ext.refl w) aM_ (fun k hk => .inl (by simpa [It.mids, ownPc, bY_] using hk)) rfl fun hca => by
      refine ⟨cur.toList.take (q * s), ⟨?_, .inr ⟨gb, cap, cur, ?_, hbase, hg, by rw [hl]; exact hc, hcap, hsz, by rw [hl]⟩⟩, ?_⟩
      · rw [hl, List.length_take, Nat.min_eq_left (by simp; omega)]
      · rw [hl]; rfl
      · have e1 : cur.toList.take (q * s) = us ++ (cur.toList.take (q * s)).drop (xs.length * s) := by
          rw [← htk]
          have := List.take_append_drop (xs.length * s) (cur.toList.take (q * s))
          rw [List.take_take, Nat.min_eq_left hle2] at this
          exact this.symm
        rw [e1]
        refine aX_ (ai_ hca _ _ _ hr) ?_
        rw [← e1]
        exact cb_ _ _ hjl
    exact h.to hm.1 hm.2
theorem im_ {c : Code} (hb : own e s v xs ∈ σ) (hq : xs.length ≤ q) (hc : q ≤ capV v) (k : ∀ (js : List (List Abs)), js.length + xs.length = q → ∃ τ, Upd (own e s v xs) (own e s (cutTo v q) (xs ++ js)) σ τ ∧ SC P c (St n W τ l) Q) : SC P c (St n W σ l) Q := fun a w h => by
  obtain ⟨js, h1, h2⟩ := h.growOwn hb hq hc
  obtain ⟨τ, h3, h4⟩ := k js h1
  exact h4 a w (h2 τ h3)
theorem ev_ {f : FuncId} {fn : Func} {ats : Array TypeId} {tr : TypeId} {α β : Blks} (hf : P.funcs[f]? = some fn) (h1 : (fn.name == "runtime.NumGoroutine") = false) (h2 : fn.body.isNone = true) (h3 : Extern.findNext fn = none) (h4 : Extern.find fn = some (Extern.SlicesOverlaps.overlaps #[t, t] #[tr]))
    (hT : TabOk P tab) {j : TI} (hu : P.underlying t = some (.slice e)) (hj : ti tab e = some j) (hsz : Nat.beq j.size s = true) (hpos : Nat.blt 0 s = true)
    (hx : look l x = some (.v u)) (hy : look l y = some (.v (cutS s v q))) (hσ : σ = α ++ own e s v xs :: β) (hb : own e s u ys ∈ α ++ β) (hys : 0 < ys.length) (hq : q < xs.length) :
    Val P n W σ l [] ⟨d, .call { callee := .value (.func f), args := #[x, y], argTypes := ats }, ty, pos, aft, g⟩ (.v (.bool false)) := fun a w hs _ => by
  have hsz := Nat.eq_of_beq_eq_true hsz
  have hpos : 0 < s := by simpa [Nat.blt_eq] using hpos
  have hbv : own e s v xs ∈ σ := by rw [hσ]; simp
  have hbu : own e s u ys ∈ σ := by
    rw [hσ]
    rcases List.mem_append.1 hb with h | h
    · simp [h]
    · simp [h]
  obtain ⟨us, hv, _⟩ := aL_ hs hbv
  obtain ⟨us2, hu2, _⟩ := aL_ hs hbu
  rcases hv.2 with ⟨_, h0⟩ | ⟨gb, cap, cur, rfl, _, hg, hn, _, hcs, _⟩
  · omega
  rcases hu2.2 with ⟨_, h0⟩ | ⟨gb2, cap2, cur2, rfl, _, hg2, hn2, _, hcs2, _⟩
  · omega
  have hne : gb2 ≠ gb := fun he => by
    have hnd := hs.mem.nodup
    rw [hσ, L_, ad_, List.nodup_append, List.nodup_append] at hnd
    subst he
    have hk : gb2 ∈ (own e s (.slice (some ⟨gb2, 0, none⟩) xs.length cap) xs).mids := by simp [It.mids, ownPc, Value.ownBlock]
    have hk2 : gb2 ∈ (own e s (.slice (some ⟨gb2, 0, none⟩) ys.length cap2) ys).mids := by simp [It.mids, ownPc, Value.ownBlock]
    rcases List.mem_append.1 hb with h | h
    · exact hnd.2.2 gb2 (bD_.2 ⟨_, h, hk2⟩) gb2 (List.mem_append_left _ hk) rfl
    · exact hnd.2.1.2.2 gb2 hk gb2 (bD_.2 ⟨_, h, hk2⟩) rfl
  refine ⟨_, rfl, fun w' hw' => ?_⟩
  have hg' : w'.heap[gb]? = some (.cells cur e (0, 0)) := (hw'.block gb (aN_ hg) (by simp)).trans hg
  have hg2' : w'.heap[gb2]? = some (.cells cur2 e (0, 0)) := (hw'.block gb2 (aN_ hg2) (by simp)).trans hg2
  have hcq : ¬ cap = q := by omega
  have e1 : a.eval x = .slice (some ⟨gb2, 0, none⟩) ys.length cap2 := hs.plain hx
  have e2 : a.eval y = .slice (some ⟨gb, 0 + q * s, none⟩) (xs.length - q) (cap - q) := by
    have := hs.plain hy
    simp only [cutS, hcq, if_false] at this
    exact this
  have hpos2 : 0 < cur.size := by
    rw [hcs]
    exact Nat.mul_pos (by omega) hpos
  have hrun := Lib.run_overlaps_apart (P := P) w' t tr e hu j.size (fun w => (hT _ _ hj).sizeOf (w := w)) ⟨gb2, 0, none⟩ ⟨gb, 0 + q * s, none⟩ ys.length cap2 (xs.length - q) (cap - q) hne e e cur2.size cur.size
    (by simp [World.shape?, hg2']) (by simp [World.shape?, hg']) (by omega) (by simp [World.frozen?, hg2']) (by simp [World.frozen?, hg2'])
  have hcf := run_callFunc_extern hf h1 h2 h3 h4 #[a.eval x, a.eval y] w'
  rw [e1, e2, hrun] at hcf
  have hfn : a.eval (.func f) = .func (.func f) #[] #[] := rfl
  simp only [Result.andThen, Nat.zero_add] at hcf
  simp [execOp, resolve, hfn, Deferred.ofValue, invoke, e1, e2, hcf, Sem.run_bind, Result.andThen]
def Src (n : Nat) (W : Wd) (σ : Blks) (l : Slots) (y : Operand) (s m : Nat) (ys : List (List Abs)) : Prop := ∀ a w, St n W σ l a w → ∃ A M c news, a.eval y = .slice (some A) M c ∧ min M m = ys.length ∧ repss (mids σ ++ W.G) w s ys news ∧ ∀ j u, news[j]? = some u → w.cell? (A.add j) = some u
theorem Src.ofOwn {m : Nat} (hy : look l y = some (.v (cutS s v q))) (hb : own e s v xs ∈ σ) (hq : q < xs.length) (hm : min (xs.length - q) m = ys.length) (he : (xs.drop q).take ys.length = ys) : Src n W σ l y s m ys := fun a w hs => by
  obtain ⟨us, hv, hr⟩ := aL_ hs hb
  rcases hv.2 with ⟨_, h0⟩ | ⟨gb, cap, cur, rfl, _, hg, hn, _, hcs, htk⟩
  · omega
  have hcq : ¬ cap = q := by omega
  have e2 : a.eval y = .slice (some ⟨gb, 0 + q * s, none⟩) (xs.length - q) (cap - q) := by
    have := hs.plain hy
    simp only [cutS, hcq, if_false] at this
    exact this
  have hr2 := (bw_ (bw_ hr q (by omega)).2 ys.length (by rw [List.length_drop, ← hm]; exact Nat.min_le_left _ _)).1
  rw [he] at hr2
  refine ⟨_, _, _, _, e2, hm, hr2, fun j u hj => ?_⟩
  rw [List.getElem?_take] at hj
  split at hj
  · rw [List.getElem?_drop] at hj
    rw [Addr.add_none, ← htk, List.getElem?_take] at *
    split at hj
    · simp only [World.cell?, hg]
      simpa [Nat.zero_add] using hj
    · cases hj
  · cases hj
theorem Src.ofAll {m : Nat} (hy : look l y = some (.v v)) (hb : own e s v xs ∈ σ) (hq : 0 < xs.length) (hm : min xs.length m = xs.length) : Src n W σ l y s m xs := fun a w hs => by
  obtain ⟨us, hv, hr⟩ := aL_ hs hb
  rcases hv.2 with ⟨_, h0⟩ | ⟨gb, cap, cur, rfl, _, hg, hn, _, hcs, htk⟩
  · omega
  refine ⟨_, _, _, _, hs.plain hy, hm, hr, fun j u hj => ?_⟩
  rw [Addr.add_none, ← htk, List.getElem?_take] at *
  split at hj
  · simp only [World.cell?, hg]
    simpa using hj
  · cases hj
theorem b4_ (hT : TabOk P tab) {j : TI} {zs : List (List Abs)} (hu : P.underlying t = some (.slice e)) (hj : ti tab e = some j) (hsz : Nat.beq j.size s = true) (hx : look l x = some (.v (cutS s v q))) (hq : q < xs.length) (hsrc : Src n W σ l y s (xs.length - q) ys) (h1 : ∀ c ∈ ys, ones c = true) (hz : xs.take q ++ ys ++ xs.drop (q + ys.length) = zs) (hup : Upd (own e s v xs) (own e s v zs) σ τ) :
    Eff P n W σ l v.ownBlock.toList ⟨d, .call { callee := .builtin .copy, args := #[x, y], argTypes := #[t, t'] }, ty, pos, aft, g⟩ fun r τ' => r = .v (.int .i64 (ys.length : Nat)) ∧ τ' = τ := fun a w hs => by
  have hsz := Nat.eq_of_beq_eq_true hsz
  obtain ⟨us, hown, hr⟩ := aL_ hs hup.mem
  obtain ⟨A, M, c, news, e2, hm, hr2, hc2⟩ := hsrc a w hs
  have hm : Nat.min M (xs.length - q) = ys.length := hm
  have hlen2 := aE_ hr2
  have hone := cC_ h1 hr2
  have hfit : q + ys.length ≤ xs.length := by
    have : Nat.min M (xs.length - q) ≤ xs.length - q := Nat.min_le_right _ _
    omega
  obtain ⟨I, hI, hIs, _⟩ := (hT e j hj).info
  rcases hown.2 with ⟨_, h0⟩ | ⟨gb, cap, cur, rfl, hbase, hg, hn, hcap, hcs, htk⟩
  · omega
  have hcq : ¬ cap = q := by omega
  have e1 : a.eval x = .slice (some ⟨gb, 0 + q * s, none⟩) (xs.length - q) (cap - q) := by
    have := hs.plain hx
    simp only [cutS, hcq, if_false] at this
    exact this
  have hb1 : q * s + ys.length * s ≤ xs.length * s := by rw [← Nat.add_mul]; exact Nat.mul_le_mul_right _ hfit
  have hb2 : xs.length * s ≤ cap * s := Nat.mul_le_mul_right _ hn
  have hrun := hV_ (P := P) w t t' ty e gb (0 + q * s) (xs.length - q) (cap - q) A M c cur e news hu hI hg (by rw [hm, hIs, hsz, hlen2]) hc2 (by omega) hone
  rw [hm] at hrun
  have hxx : Ext (Value.ownBlock (.slice (some ⟨gb, 0, none⟩) xs.length cap)).toList w (w.setRow gb (cur.toList.take (0 + q * s) ++ news ++ cur.toList.drop (0 + q * s + news.length)).toArray) := (Ext.refl w).setRow (.inl (by simp [Value.ownBlock])) _
  have hzl : zs.length = xs.length := by
    rw [← hz]
    simp only [List.length_append, List.length_take, List.length_drop]
    omega
  have hnew : (cur.toList.take (0 + q * s) ++ news ++ cur.toList.drop (0 + q * s + news.length)).take (xs.length * s) = us.take (q * s) ++ news ++ us.drop ((q + ys.length) * s) := by
    have hcl : cur.toList.length = cap * s := by simp [hcs]
    rw [← htk, Nat.zero_add, Nat.add_mul]
    rw [← hlen2] at hb1 ⊢
    generalize q * s = q' at *
    generalize xs.length * s = n' at *
    generalize cap * s = c' at *
    apply List.ext_getElem?
    intro j
    simp only [List.getElem?_take, List.getElem?_append, List.length_append, List.length_take, List.getElem?_drop]
    grind
  have hm2 := hs.mem.upd hup hxx aM_ (fun k hk => .inl (by simpa [It.mids, ownPc, Value.ownBlock] using hk)) rfl fun hca => by
    refine ⟨us.take (q * s) ++ news ++ us.drop ((q + ys.length) * s), ⟨?_, .inr ⟨gb, cap, _, by rw [hzl], hbase, setRow_heap w gb cur _ e (0, 0) hg, by rw [hzl]; exact hn, hcap, ?_, ?_⟩⟩, ?_⟩
    · rw [hzl, ← hnew, List.length_take]
      simp only [List.length_append, List.length_take, List.length_drop, Array.length_toList]
      omega
    · simp only [List.size_toArray, List.length_append, List.length_take, List.length_drop, Array.length_toList]
      omega
    · rw [hzl]
      simpa using hnew
    · rw [← hz]
      refine aX_ (aX_ ?_ (ai_ hca _ _ _ hr2)) ?_
      · exact ai_ hca _ _ _ (bw_ hr q (by omega)).1
      · exact ai_ hca _ _ _ (bw_ hr (q + ys.length) (by omega)).2
  refine ⟨_, _, _, _, ⟨rfl, rfl⟩, hxx, rfl, hm2.1, hm2.2, .inl ?_⟩
  simp only [Nat.zero_add, List.append_assoc] at hrun e1 ⊢
  simp [execOp, resolve, invoke, builtin, e1, e2, hrun, Result.andThen, goInt]
theorem eA_ (hT : TabOk P tab) {j : TI} {m : Nat} {r : Int} {tn : TypeId} {kn : IntKind} (hu : P.underlying t = some (.slice e)) (htn : P.underlying tn = some (.int kn)) (hj : ti tab e = some j) (hsz : Nat.beq j.size s = true) (hpos : Nat.blt 0 s = true) (hx : look l x = some (.v (cutTo v q))) (hb : own e s v xs ∈ σ) (hy : look l y = some (.v (.int k r))) (hr : r = (m : Nat)) (hq : q < xs.length) (hm : 0 < m) (hroom : capV v < q + m) (hml : q + m ≤ maxLen) (hby : (q + m) * P.bytesOf e ≤ 140737488355328) :
    Eff P n W σ l [] ⟨d, .call { callee := .builtin .append, args := #[x, y], argTypes := #[t, tn] }, ty, pos, aft, g⟩ fun u τ => ∃ v' js, u = .v v' ∧ js.length = m ∧ τ = own e s v' (xs.take q ++ js) :: σ := fun a w hs => by
  subst hr
  have hsz := Nat.eq_of_beq_eq_true hsz
  have hpos : 0 < s := by simpa [Nat.blt_eq] using hpos
  obtain ⟨us, hown, hr⟩ := aL_ hs hb
  obtain ⟨I, hI, hIs, z, hz, hzc⟩ := (hT e j hj).info
  have hzl := (hT e j hj).len
  have hbi := fj_ hI
  rcases hown.2 with ⟨_, h0⟩ | ⟨gb, cap, cur, rfl, hbase, hg, hn, hcap, hcs, htk⟩
  · omega
  simp only [capV] at hroom
  have hqs : q * s ≤ xs.length * s := Nat.mul_le_mul_right _ (by omega)
  have hnc : xs.length * s ≤ cap * s := Nat.mul_le_mul_right _ hn
  have hul := hown.1
  have hold : (Builtin.firstCells I.size q (.slice (some ⟨gb, 0, none⟩) q cap)).run P w.drew = .ok (us.take (q * s)).toArray w.drew := by
    rw [hIs, hsz]
    refine run_firstCells_some (P := P) w.drew s q ⟨gb, 0, none⟩ q cap (us.take (q * s)) (by rw [List.length_take]; omega) fun i u hi => ?_
    rw [List.getElem?_take] at hi
    split at hi
    · rw [Addr.add_none]
      rw [← htk, List.getElem?_take] at hi
      split at hi
      · show w.cell? _ = _
        simp only [World.cell?, hg]
        simpa using hi
      · cases hi
    · cases hi
  have hrun := Lib.run_append_grow_zeros (P := P) w t tn ty e I z k kn hu htn hI hz (some ⟨gb, 0, none⟩) q cap (us.take (q * s)) hold m hm (by rw [hIs, hsz]; exact hpos) hroom (by unfold maxLen at hml; omega)
    (by rw [← hbi]; have : m * P.bytesOf e ≤ (q + m) * P.bytesOf e := Nat.mul_le_mul_right _ (by omega); omega) (growslice_fits hroom (by rw [← hbi]; exact hby))
  obtain ⟨G, hG⟩ : ∃ G, grownCap w (q + m) cap e = G := ⟨_, rfl⟩
  have hG1 : q + m ≤ G := hG ▸ grownCap_ge w _ _ _
  have hG2 : G ≤ maxLen := hG ▸ grownCap_le_maxLen w _ _ _ hml
  rw [hG] at hrun
  obtain ⟨ROW, hROW⟩ : ∃ ROW, (us.take (q * s)).toArray ++ Builtin.zeroCells z.cells m ++ Builtin.zeroCells z.cells (G - (q + m)) = ROW := ⟨_, rfl⟩
  rw [hROW] at hrun
  have hzs : z.cells.size = s := by rw [hzc, List.size_toArray, hzl, hsz]
  have hz1 : ∀ m, (Builtin.zeroCells z.cells m).size = m * s := fun m => by simp [Builtin.zeroCells, hzs]
  have hz2 : ∀ m, (Builtin.zeroCells z.cells m).toList.length = m * s := fun m => by rw [Array.length_toList, hz1]
  obtain ⟨js, hjs⟩ : ∃ js, chunks s m (Builtin.zeroCells z.cells m).toList = js := ⟨_, rfl⟩
  have hjl : js.length = m := by rw [← hjs, cp_]
  have hx0 : Ext [] w (w.drew.alloc (.cells ROW e)) := ((Ext.refl w).drew).alloc _
  have hrs : ROW.size = G * s := by
    rw [← hROW]
    simp only [Array.size_append, hz1, List.size_toArray, List.length_take]
    rw [Nat.min_eq_left (by omega), ← Nat.add_mul, ← Nat.add_mul]
    congr 1
    omega
  have hlen : (xs.take q ++ js).length = q + m := by
    rw [List.length_append, List.length_take, hjl]
    omega
  have hm2 := hs.mem.new (y := own e s (.slice (some ⟨w.heap.size, 0, none⟩) (q + m) G) (xs.take q ++ js)) hx0 aM_ (by simp [It.mids, ownPc, Value.ownBlock]) rfl fun hca => by
    refine ⟨us.take (q * s) ++ (Builtin.zeroCells z.cells m).toList, ⟨?_, .inr ⟨w.heap.size, G, ROW, by rw [hlen], by omega, ?_, by rw [hlen]; exact hG1, hG2, hrs, ?_⟩⟩, aX_ (ai_ hca _ _ _ (bw_ hr q (by omega)).1) (hjs ▸ cb_ m _ (by rw [Array.length_toList, hz1]))⟩
    · rw [hlen, List.length_append, List.length_take, hz2, Nat.add_mul]
      omega
    · exact heap_alloc_new w.drew _
    · rw [hlen, ← hROW]
      simp only [Array.toList_append, List.append_assoc]
      rw [← List.append_assoc, List.take_append_of_le_length (by rw [List.length_append, List.length_take, hz2, Nat.add_mul]; omega), List.take_of_length_le (by rw [List.length_append, List.length_take, hz2, Nat.add_mul]; omega)]
  refine ⟨_, _, _, _, ⟨_, js, rfl, hjl, rfl⟩, hx0, rfl, hm2.1, hm2.2, .inl ?_⟩
  have e1 : a.eval x = .slice (some ⟨gb, 0, none⟩) q cap := hs.plain hx
  have e2 : a.eval y = .int k ((m : Nat) : Int) := hs.plain hy
  simp [execOp, resolve, invoke, builtin, e1, e2, hrun, Result.andThen]
end
theorem Casts.of_eq {xs ys : List Abs} (h : xs = ys) : Casts xs ys := h ▸ Casts.refl
section
variable {xs js : List (List Abs)} {y : List Abs} {i : Nat}
theorem ins_a (hi : i < xs.length) (hj : js.length = xs.length + 1 - i) : (xs.take i ++ js).take i ++ [y] ++ (xs.take i ++ js).drop (i + [y].length) = xs.take i ++ y :: js.drop 1 := by
  rw [List.take_append_of_le_length (by rw [List.length_take]; omega), List.take_take, Nat.min_self, List.drop_append, List.drop_of_length_le (by rw [List.length_take]; simp; omega), List.length_take, Nat.min_eq_left (by omega)]
  simp
theorem ins_b (hi : i < xs.length) (hj : js.length = xs.length + 1 - i) : (xs.take i ++ y :: js.drop 1).take (i + 1) ++ xs.drop i ++ (xs.take i ++ y :: js.drop 1).drop (i + 1 + (xs.drop i).length) = xs.take i ++ y :: xs.drop i := by
  have h1 : (xs.take i ++ y :: js.drop 1).drop (i + 1 + (xs.drop i).length) = [] := List.drop_of_length_le (by simp; omega)
  rw [h1, List.append_nil, List.take_append, List.length_take, Nat.min_eq_left (by omega), List.take_take, Nat.min_eq_right (by omega), Nat.add_sub_cancel_left, List.append_assoc]
  rfl
theorem ins_c (hi : i < xs.length) (hj : js.length + xs.length = xs.length + 1) : (xs ++ js).take (i + 1) ++ xs.drop i ++ (xs ++ js).drop (i + 1 + (xs.drop i).length) = (xs ++ js).take (i + 1) ++ xs.drop i := by
  have h1 : (xs ++ js).drop (i + 1 + (xs.drop i).length) = [] := List.drop_of_length_le (by simp; omega)
  rw [h1, List.append_nil]
theorem ins_d (hi : i < xs.length) (hj : js.length + xs.length = xs.length + 1) : ((xs ++ js).take (i + 1) ++ xs.drop i).take i ++ [y] ++ ((xs ++ js).take (i + 1) ++ xs.drop i).drop (i + [y].length) = xs.take i ++ y :: xs.drop i := by
  have h1 : ((xs ++ js).take (i + 1)).length = i + 1 := by rw [List.length_take, List.length_append]; omega
  rw [List.take_append_of_le_length (by omega), List.take_take, Nat.min_eq_left (by omega), List.take_append_of_le_length (by omega), List.drop_append, List.drop_of_length_le (by simp; omega), h1]
  simp
theorem ins_len (hi : i < xs.length) (hj : js.length + xs.length = xs.length + 1) : ((xs ++ js).take (i + 1) ++ xs.drop i).length = xs.length + 1 := by
  simp only [List.length_append, List.length_take, List.length_drop]
  omega
theorem ins_src (hi : i < xs.length) : ((xs ++ js).drop i).take (xs.drop i).length = xs.drop i := by
  rw [List.drop_append_of_le_length (by omega), List.take_left]
theorem ins_all (hi : i = xs.length) : xs ++ [y] = xs.take i ++ y :: xs.drop i := by
  subst hi
  simp
theorem ht_ (h1 : ∀ c ∈ xs, ones c = true) (q : Nat) : ∀ c ∈ xs.drop q, ones c = true := fun c hc => h1 c (List.mem_of_mem_drop hc)
end
end Go.Proofs.YtjclgkddfjbdiaaGreatDoor.A
