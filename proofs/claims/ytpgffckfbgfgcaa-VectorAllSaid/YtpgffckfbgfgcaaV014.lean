/-
  Packed out of the texts: Maps, Book, BookDo, BookSee, BookCheck, BookLaw, BookInv, ABook, A10, V1.
-/
import Derived.Test.YtpgffckfbgfgcaaV013
import Derived.Maps.Keyed
import Derived.Maps.OwnSet
import Derived.DeepKeys4
import Derived.Laws.BytesArg
import Derived.Laws.CopyOwn
import Derived.DataShut
import Derived.Lib.SlBytesConst
/-
  Maps of the program's own, as lists of pairs: look up, store, delete, length.
-/
set_option maxRecDepth 100000
namespace Go.Proofs.Ytpgffckfbgfgcaa
open Go.RowKit

section
variable {α β : Type} [DecidableEq α]
def aget (m : List (α × β)) (a : α) : Option β := (m.find? fun p => decide (p.1 = a)).map (·.2)
def aput (m : List (α × β)) (a : α) (b : β) : List (α × β) := if (aget m a).isSome then m.map fun p => if p.1 = a then (a, b) else p else m ++ [(a, b)]
def adel (m : List (α × β)) (a : α) : List (α × β) := m.filter fun p => decide (p.1 ≠ a)
theorem aget_nil (a : α) : aget ([] : List (α × β)) a = none := rfl
theorem aget_isSome (m : List (α × β)) (a : α) : (aget m a).isSome = true ↔ a ∈ m.map (·.1) := by
  unfold aget
  rw [Option.isSome_map, List.find?_isSome]
  simp
theorem aget_none (m : List (α × β)) (a : α) : aget m a = none ↔ a ∉ m.map (·.1) := by
  rw [← aget_isSome]
  cases aget m a <;> simp
theorem aput_keys (m : List (α × β)) (a : α) (b : β) : (aput m a b).map (·.1) = if a ∈ m.map (·.1) then m.map (·.1) else m.map (·.1) ++ [a] := by
  unfold aput
  by_cases h : a ∈ m.map (·.1)
  · rw [if_pos ((aget_isSome m a).2 h), if_pos h, List.map_map]
    apply List.map_congr_left
    intro p _
    simp only [Function.comp]
    split
    · rename_i h1; exact h1.symm
    · rfl
  · rw [if_neg (fun hc => h ((aget_isSome m a).1 hc)), if_neg h]
    simp
theorem aput_nodup {m : List (α × β)} (hm : (m.map (·.1)).Nodup) (a : α) (b : β) : ((aput m a b).map (·.1)).Nodup := by
  rw [aput_keys]
  split
  · exact hm
  · rename_i h
    rw [List.nodup_append]
    exact ⟨hm, by simp, by intro x hx y hy; simp at hy; subst hy; rintro rfl; exact h hx⟩
theorem aget_aput (m : List (α × β)) (a c : α) (b : β) : aget (aput m a b) c = if c = a then some b else aget m c := by
  unfold aput
  by_cases h : (aget m a).isSome = true
  · rw [if_pos h]
    have hmap : ∀ (m : List (α × β)), ((m.map fun p => if p.1 = a then (a, b) else p).find? fun p => decide (p.1 = c)).map (·.2) = if c = a then (if a ∈ m.map (·.1) then some b else none) else aget m c := by
      intro m
      induction m with
      | nil => simp [aget]
      | cons p m ih =>
        simp only [List.map_cons, List.find?_cons]
        by_cases hp : p.1 = a
        · rw [if_pos hp]
          by_cases hc : c = a
          · subst hc; simp [hp]
          · have hac : ¬ a = c := fun h => hc h.symm
            simp only [hac, decide_false, if_neg hc]
            rw [ih, if_neg hc]
            unfold aget
            simp [hp, hac]
        · rw [if_neg hp]
          by_cases hpc : p.1 = c
          · have hca : ¬ c = a := fun h => hp (hpc.trans h)
            simp [hpc, hca, aget]
          · simp only [hpc, decide_false]
            rw [ih]
            by_cases hca : c = a
            · subst hca
              rw [if_pos rfl, if_pos rfl]
              have : (c ∈ p.1 :: m.map (·.1)) ↔ c ∈ m.map (·.1) := by
                simp only [List.mem_cons]
                constructor
                · rintro (h1 | h1)
                  · exact absurd h1.symm hp
                  · exact h1
                · exact Or.inr
              by_cases hin : c ∈ m.map (·.1)
              · rw [if_pos hin, if_pos (this.2 hin)]
              · rw [if_neg hin, if_neg (fun hh => hin (this.1 hh))]
            · rw [if_neg hca, if_neg hca]
              unfold aget
              simp [hpc]
    have h0 := hmap m
    rw [if_pos ((aget_isSome m a).1 h)] at h0
    exact h0
  · rw [if_neg h]
    unfold aget
    rw [List.find?_append]
    by_cases hc : c = a
    · subst hc
      have hn : aget m c = none := by cases hg : aget m c <;> simp_all
      have hf : (m.find? fun p => decide (p.1 = c)) = none := by
        unfold aget at hn
        simpa using hn
      rw [hf]
      simp
    · have hac : ¬ a = c := fun h => hc h.symm
      simp [hac, hc]
theorem aput_length (m : List (α × β)) (a : α) (b : β) : (aput m a b).length = if (aget m a).isSome then m.length else m.length + 1 := by
  unfold aput
  split <;> simp
theorem adel_nodup {m : List (α × β)} (hm : (m.map (·.1)).Nodup) (a : α) : ((adel m a).map (·.1)).Nodup :=
  hm.sublist ((List.filter_sublist).map _)
theorem aget_adel (m : List (α × β)) (a c : α) : aget (adel m a) c = if c = a then none else aget m c := by
  unfold aget adel
  induction m with
  | nil => simp
  | cons p m ih =>
    rw [List.filter_cons]
    by_cases hp : p.1 = a
    · simp only [hp, ne_eq, not_true_eq_false, decide_false, Bool.false_eq_true, if_false]
      rw [ih]
      by_cases hc : c = a
      · simp [hc]
      · rw [if_neg hc, if_neg hc]
        have : ¬ p.1 = c := fun h => hc (h.symm.trans hp)
        simp [this]
    · simp only [hp, ne_eq, not_false_eq_true, decide_true, if_true]
      rw [List.find?_cons, List.find?_cons]
      by_cases hpc : p.1 = c
      · have : ¬ c = a := fun h => hp (hpc.trans h)
        simp [hpc, this]
      · simp only [hpc, decide_false]
        exact ih
end

/-- What the laws ask of a key type and of how keys stand in it. -/
structure KeyFit {α : Type} (P : Program) (k : TypeId) (K : α → Value) (Good : α → Prop) : Prop where
  keyed : Maps.Keyed P k
  lit : ∀ a, Good a → ∃ l, keyOf P k (K a) = some l
  inj : ∀ a b, Good a → Good b → K a = K b → a = b

/-- Block b is a map that holds the pairs m. -/
def MapOf {α β : Type} (w : World) (b : Nat) (K : α → Value) (V : β → Value) (Good : α → Prop) (m : List (α × β)) : Prop :=
  ∃ es clock, w.heap[b]? = some (.map es clock) ∧ es.toList.map (fun e => (e.key, e.val)) = m.map (fun p => (K p.1, V p.2)) ∧ (m.map (·.1)).Nodup ∧ (∀ p ∈ m, Good p.1) ∧
    (∀ e ∈ es.toList, e.born < clock) ∧ (es.toList.map (·.born)).Nodup

section
variable {α β : Type} {P : Program} {w w' : World} {b : Nat} {k e t : TypeId} {K : α → Value} {V : β → Value} {Good : α → Prop} {m : List (α × β)}

theorem MapOf.lt (h : MapOf w b K V Good m) : b < w.heap.size := by
  obtain ⟨es, clock, hb, _⟩ := h
  rcases Nat.lt_or_ge b w.heap.size with hlt | hge
  · exact hlt
  · rw [Array.getElem?_eq_none hge] at hb; cases hb
theorem MapOf.ext {F : List Nat} (h : MapOf w b K V Good m) (hx : Ext F w w') (hb : b ∉ F) : MapOf w' b K V Good m := by
  have hl := h.lt
  obtain ⟨es, clock, h1, h2⟩ := h
  exact ⟨es, clock, (hx.block b hl hb).trans h1, h2⟩
theorem MapOf.new (w : World) : MapOf (w.alloc (.map #[] 0)) w.heap.size K V Good [] :=
  ⟨#[], 0, heap_alloc_new w _, rfl, by simp, by simp, by simp, by simp⟩
theorem MapOf.alloc (h : MapOf w b K V Good m) (o : Obj) : MapOf (w.alloc o) b K V Good m := h.ext ((Ext.refl (F := []) _).alloc _) (by simp)
theorem MapOf.nodup (h : MapOf w b K V Good m) : (m.map (·.1)).Nodup := by obtain ⟨_, _, _, _, h, _⟩ := h; exact h
theorem MapOf.good (h : MapOf w b K V Good m) : ∀ p ∈ m, Good p.1 := by obtain ⟨_, _, _, _, _, h, _⟩ := h; exact h

theorem map_entry {es : List MapEntry} (he : es.map (fun e => (e.key, e.val)) = m.map (fun p => (K p.1, V p.2))) {j : Nat} {x : MapEntry} (hx : es[j]? = some x) : ∃ p, m[j]? = some p ∧ x.key = K p.1 ∧ x.val = V p.2 := by
  have h1 : (es.map (fun e => (e.key, e.val)))[j]? = some (x.key, x.val) := by rw [List.getElem?_map, hx]; rfl
  rw [he, List.getElem?_map] at h1
  cases hm : m[j]? with
  | none => rw [hm] at h1; cases h1
  | some p =>
    rw [hm] at h1
    simp at h1
    exact ⟨p, rfl, h1.1.symm, h1.2.symm⟩

variable [DecidableEq α]
/-- Where the key is found. -/
theorem find_run (kf : KeyFit P k K Good) {es : List MapEntry} (he : es.map (fun e => (e.key, e.val)) = m.map (fun p => (K p.1, V p.2))) (hg : ∀ p ∈ m, Good p.1) (hnd : (m.map (·.1)).Nodup) {a : α} (ha : Good a) (w : World) :
    (aget m a = none ∧ (Instr.findKey k (K a) es).run P w = .ok none w) ∨
    ∃ j v, m[j]? = some (a, v) ∧ aget m a = some v ∧ (Instr.findKey k (K a) es).run P w = .ok (some (j, V v)) w := by
  obtain ⟨l, hl⟩ := kf.lit a ha
  have hall : ∀ x ∈ es, ∃ l, keyOf P k x.key = some l := by
    intro x hx
    obtain ⟨j, hj⟩ := List.getElem?_of_mem hx
    obtain ⟨p, hp, hk, _⟩ := map_entry he hj
    rw [hk]
    exact kf.lit _ (hg p (List.mem_of_getElem? hp))
  rcases kf.keyed.find w hl es hall with ⟨hrun, hne⟩ | ⟨j, x, hrun, hj, hk⟩
  · refine .inl ⟨?_, hrun⟩
    rw [aget_none]
    intro hin
    simp only [List.mem_map] at hin
    obtain ⟨p, hp, rfl⟩ := hin
    obtain ⟨j, hj⟩ := List.getElem?_of_mem hp
    have h1 : (m.map (fun p => (K p.1, V p.2)))[j]? = some (K p.1, V p.2) := by rw [List.getElem?_map, hj]; rfl
    rw [← he, List.getElem?_map] at h1
    cases hx : es[j]? with
    | none => rw [hx] at h1; cases h1
    | some x =>
      rw [hx] at h1
      simp at h1
      exact hne x (List.mem_of_getElem? hx) h1.1
  · obtain ⟨p, hp, hk2, hv⟩ := map_entry he hj
    have hpa : p.1 = a := kf.inj _ _ (hg p (List.mem_of_getElem? hp)) ha (hk2.symm.trans hk)
    obtain ⟨pa, pv⟩ := p
    dsimp only at hpa hv
    subst hpa
    refine .inr ⟨j, pv, hp, ?_, by rw [← hv]; exact hrun⟩
    unfold aget
    have hfind : m.find? (fun p => decide (p.1 = pa)) = some (pa, pv) := by
      rw [List.find?_eq_some_iff_append]
      refine ⟨by simp, ?_⟩
      have hjl := (List.getElem?_eq_some_iff.1 hp)
      obtain ⟨hjl, hje⟩ := hjl
      refine ⟨m.take j, m.drop (j + 1), ?_, ?_⟩
      · rw [← hje, List.getElem_cons_drop, List.take_append_drop]
      · intro q hq
        simp only [Bool.not_eq_true', decide_eq_false_iff_not]
        intro hqa
        obtain ⟨i, hi⟩ := List.getElem?_of_mem hq
        rw [List.getElem?_take] at hi
        split at hi
        · rename_i hij
          have h1 : (m.map (·.1))[i]? = some pa := by rw [List.getElem?_map, hi]; simp [hqa]
          have h2 : (m.map (·.1))[j]? = some pa := by rw [List.getElem?_map, hp]; rfl
          have hil : i < (m.map (·.1)).length := (List.getElem?_eq_some_iff.1 h1).1
          have := (List.getElem?_inj hil hnd).1 (h1.trans h2.symm)
          omega
        · cases hi
    rw [hfind]
    rfl

theorem MapOf.look_run (h : MapOf w b K V Good m) (kf : KeyFit P k K Good) (ht : P.underlying t = some (.map k e)) {z : Value} (hz : (zeroValue e).run P w = .ok z w) {a : α} (ha : Good a) (c : Bool) :
    (Instr.lookup t (.map (some b)) (K a) c).run P w = .ok (if c then .tuple #[((aget m a).map V).getD z, .bool (aget m a).isSome] else ((aget m a).map V).getD z) w := by
  obtain ⟨es, clock, hb, he, hnd, hg, _⟩ := h
  obtain ⟨l, hl⟩ := kf.lit a ha
  have hgo : (getObj b).run P w = .ok (.map es clock) w := by simp [getObj, Sem.run, hb]
  simp only [Instr.lookup, Sem.run_bind, run_underlying ht, Result.andThen_ok, Sem.run_pure, hgo, kf.keyed.check w es.isEmpty hl]
  rcases find_run kf he hg hnd ha w with ⟨h1, h2⟩ | ⟨j, v, _, h1, h2⟩
  · rw [h1, h2]
    cases c <;> simp [hz]
  · rw [h1, h2]
    cases c <;> simp

theorem Ext.setMap {b : Nat} {es es' : Array MapEntry} {clock clock' : Nat} (_hb : w.heap[b]? = some (.map es clock)) : Ext [b] w { w with heap := w.heap.setIfInBounds b (.map es' clock') } :=
  ⟨rfl, rfl, rfl, by simp, fun k _ hn => by
    have : b ≠ k := fun h => hn (by simp [h])
    simp [this]⟩
theorem heap_setMap {b : Nat} {es es' : Array MapEntry} {clock clock' : Nat} (hb : w.heap[b]? = some (.map es clock)) : ({ w with heap := w.heap.setIfInBounds b (.map es' clock') } : World).heap[b]? = some (.map es' clock') := by
  have hlt : b < w.heap.size := by
    rcases Nat.lt_or_ge b w.heap.size with hlt | hge
    · exact hlt
    · rw [Array.getElem?_eq_none hge] at hb; cases hb
  simp [hlt]
theorem run_getMap {b : Nat} {es : Array MapEntry} {clock : Nat} (hb : w.heap[b]? = some (.map es clock)) : (getObj b).run P w = .ok (.map es clock) w := by simp [getObj, Sem.run, hb]
theorem run_setMap {b : Nat} {es es' : Array MapEntry} {clock clock' : Nat} (hb : w.heap[b]? = some (.map es clock)) : (setObj b (.map es' clock')).run P w = .ok () { w with heap := w.heap.setIfInBounds b (.map es' clock') } := by simp [setObj, Sem.run, hb]

theorem aput_at {m : List (α × β)} (hnd : (m.map (·.1)).Nodup) {j : Nat} {a : α} {v v' : β} (hj : m[j]? = some (a, v)) : aput m a v' = m.set j (a, v') := by
  have hin : (aget m a).isSome = true := (aget_isSome m a).2 (List.mem_map.2 ⟨_, List.mem_of_getElem? hj, rfl⟩)
  unfold aput
  rw [if_pos hin]
  apply List.ext_getElem?
  intro i
  rw [List.getElem?_map, List.getElem?_set]
  have hjl : j < m.length := (List.getElem?_eq_some_iff.1 hj).1
  by_cases hij : j = i
  · subst hij
    rw [if_pos rfl, if_pos hjl, hj]
    simp
  · rw [if_neg hij]
    cases hi : m[i]? with
    | none => rfl
    | some p =>
      simp only [Option.map_some, Option.some.injEq]
      rw [if_neg]
      intro hpa
      have h1 : (m.map (·.1))[i]? = some a := by rw [List.getElem?_map, hi]; simp [hpa]
      have h2 : (m.map (·.1))[j]? = some a := by rw [List.getElem?_map, hj]; rfl
      have hil : i < (m.map (·.1)).length := (List.getElem?_eq_some_iff.1 h1).1
      exact hij ((List.getElem?_inj hil hnd).1 (h1.trans h2.symm)).symm

theorem MapOf.put_run (h : MapOf w b K V Good m) (kf : KeyFit P k K Good) (ht : P.underlying t = some (.map k e)) {a : α} (ha : Good a) (v : β) :
    ∃ w', (Instr.mapUpdate t (.map (some b)) (K a) (V v)).run P w = .ok () w' ∧ MapOf w' b K V Good (aput m a v) ∧ Ext [b] w w' := by
  obtain ⟨es, clock, hb, he, hnd, hg, hborn, hbnd⟩ := h
  obtain ⟨l, hl⟩ := kf.lit a ha
  rcases find_run kf he hg hnd ha w with ⟨h1, h2⟩ | ⟨j, u, hj, h1, h2⟩
  · refine ⟨{ w with heap := w.heap.setIfInBounds b (.map (es.push { key := K a, val := V v, born := clock }) (clock + 1)) }, ?_, ⟨_, _, heap_setMap hb, ?_, aput_nodup hnd a v, ?_, ?_, ?_⟩, Ext.setMap hb⟩
    · simp only [Instr.mapUpdate, Sem.run_bind, run_underlying ht, Result.andThen_ok, run_getMap hb, kf.keyed.check w false hl, h2, run_setMap hb]
    · rw [Array.toList_push, List.map_append, he]
      unfold aput
      rw [if_neg (by rw [h1]; simp)]
      simp
    · intro p hp
      unfold aput at hp
      rw [if_neg (by rw [h1]; simp)] at hp
      simp only [List.mem_append, List.mem_singleton] at hp
      rcases hp with hp | rfl
      · exact hg p hp
      · exact ha
    · intro x hx
      rw [Array.toList_push, List.mem_append, List.mem_singleton] at hx
      rcases hx with hx | rfl
      · have := hborn x hx; omega
      · exact Nat.lt_succ_self _
    · rw [Array.toList_push, List.map_append, List.nodup_append]
      refine ⟨hbnd, by simp, ?_⟩
      intro x hx y hy
      simp at hy
      subst hy
      simp only [List.mem_map] at hx
      obtain ⟨z, hz, rfl⟩ := hx
      have := hborn z hz
      omega
  · have hjl : j < es.toList.length := by
      have h3 := congrArg List.length he
      simp only [List.length_map] at h3
      rw [h3]
      exact (List.getElem?_eq_some_iff.1 hj).1
    have hk : (es[j]?).map (·.key) = some (K a) := by
      rw [← Array.getElem?_toList]
      have h3 : (es.toList.map (fun e => (e.key, e.val)))[j]? = some (K a, V u) := by rw [he, List.getElem?_map, hj]; rfl
      rw [List.getElem?_map] at h3
      cases hx : es.toList[j]? with
      | none => rw [hx] at h3; cases h3
      | some x => rw [hx] at h3; simp at h3; simp [h3.1]
    have hmod : (es.modify j fun e => { e with key := K a, val := V v }).toList = es.toList.modify j fun e => { e with key := K a, val := V v } := by simp
    refine ⟨{ w with heap := w.heap.setIfInBounds b (.map (es.modify j fun e => { e with key := K a, val := V v }) clock) }, ?_, ⟨_, _, heap_setMap hb, ?_, aput_nodup hnd a v, ?_, ?_, ?_⟩, Ext.setMap hb⟩
    · simp only [Instr.mapUpdate, Sem.run_bind, run_underlying ht, Result.andThen_ok, run_getMap hb, kf.keyed.check w false hl, h2, hk, Option.getD_some, kf.keyed.stays w hl, run_setMap hb]
    · rw [hmod, aput_at hnd hj]
      apply List.ext_getElem?
      intro i
      have hei : (es.toList.map (fun e => (e.key, e.val)))[i]? = (m.map (fun p => (K p.1, V p.2)))[i]? := by rw [he]
      rw [List.getElem?_map, List.getElem?_map] at hei
      rw [List.getElem?_map, List.getElem?_map, List.getElem?_modify, List.getElem?_set]
      have hml : j < m.length := (List.getElem?_eq_some_iff.1 hj).1
      by_cases hij : j = i
      · subst hij
        rw [if_pos rfl, if_pos hml, List.getElem?_eq_getElem hjl]
        simp
      · rw [if_neg hij]
        simp only [if_neg hij]
        rw [← hei]
        cases es.toList[i]? <;> rfl
    · intro p hp
      have h4 : p.1 ∈ (aput m a v).map (·.1) := List.mem_map.2 ⟨p, hp, rfl⟩
      rw [aput_keys, if_pos (by rw [← aget_isSome, h1]; rfl)] at h4
      simp only [List.mem_map] at h4
      obtain ⟨q, hq, hqe⟩ := h4
      rw [← hqe]
      exact hg q hq
    · intro x hx
      rw [hmod] at hx
      obtain ⟨i, hi⟩ := List.getElem?_of_mem hx
      rw [List.getElem?_modify] at hi
      cases hx2 : es.toList[i]? with
      | none => rw [hx2] at hi; simp at hi
      | some y =>
        rw [hx2] at hi
        have := hborn y (List.mem_of_getElem? hx2)
        simp at hi
        rw [← hi]
        split <;> exact this
    · have hb2 : (es.toList.modify j fun e => { e with key := K a, val := V v }).map (·.born) = es.toList.map (·.born) := by
        apply List.ext_getElem?
        intro i
        rw [List.getElem?_map, List.getElem?_modify, List.getElem?_map]
        cases es.toList[i]? with
        | none => simp
        | some y => simp only [Option.map_eq_map, Option.map_some]; split <;> rfl
      rw [hmod, hb2]
      exact hbnd

omit [DecidableEq α] in
theorem MapOf.len_run (h : MapOf w b K V Good m) (ht : P.underlying t = some (.map k e)) (ty : TypeId) : (Builtin.len_ #[t] ty #[.map (some b)]).run P w = .ok (.int .i64 m.length) w := by
  obtain ⟨es, clock, hb, he, _⟩ := h
  have h3 := congrArg List.length he
  simp only [List.length_map, Array.length_toList] at h3
  simp [Builtin.len_, Sem.run_bind, run_underlying ht, Result.andThen_ok, run_getMap hb, goInt, h3]
end

section
variable {α β : Type} [DecidableEq α] {P : Program} {w : World} {b : Nat} {k e : TypeId} {K : α → Value} {V : β → Value} {Good : α → Prop} {m : List (α × β)}
variable {ops : Array Oper} {rest : List Oper} {o : Oper} {a : Act} {Q : Exit → Act → World → Prop}
/-- 'v, ok := m[k]'. -/
theorem wpList_mapGetOk (h : MapOf w b K V Good m) (kf : KeyFit P k K Good) (t : TypeId) (ht : P.underlying t = some (.map k e)) (z : Value) (hz : (zeroValue e).run P w = .ok z w) (c : α) (hc : Good c)
    (hg : o.guard = none) (x y : Operand) (ho : o.op = .lookup t x y true) (hx : a.eval x = .map (some b)) (hy : a.eval y = K c)
    (hk : wpList P ops Q rest (a.put o.dst (.tuple #[((aget m c).map V).getD z, .bool (aget m c).isSome])) w) : wpList P ops Q (o :: rest) a w := by
  refine wpList_plain hg fun K' hK' => ?_
  unfold Oper.wp
  simp only [execOp, ho, hx, hy, Sem.run_bind, h.look_run kf ht hz hc true, if_true, Result.andThen_ok, Sem.run_pure]
  exact hK' _ _ hk
/-- 'm[k]'. -/
theorem wpList_mapGet (h : MapOf w b K V Good m) (kf : KeyFit P k K Good) (t : TypeId) (ht : P.underlying t = some (.map k e)) (z : Value) (hz : (zeroValue e).run P w = .ok z w) (c : α) (hc : Good c)
    (hg : o.guard = none) (x y : Operand) (ho : o.op = .lookup t x y false) (hx : a.eval x = .map (some b)) (hy : a.eval y = K c)
    (hk : wpList P ops Q rest (a.put o.dst (((aget m c).map V).getD z)) w) : wpList P ops Q (o :: rest) a w := by
  refine wpList_plain hg fun K' hK' => ?_
  unfold Oper.wp
  simp only [execOp, ho, hx, hy, Sem.run_bind, h.look_run kf ht hz hc false, Bool.false_eq_true, if_false, Result.andThen_ok, Sem.run_pure]
  exact hK' _ _ hk
/-- 'm[k] = v'. -/
theorem wpList_mapPut (h : MapOf w b K V Good m) (kf : KeyFit P k K Good) (t : TypeId) (ht : P.underlying t = some (.map k e)) (c : α) (hc : Good c) (v : β)
    (hg : o.guard = none) (x y z : Operand) (ho : o.op = .mapUpdate t x y z) (hx : a.eval x = .map (some b)) (hy : a.eval y = K c) (hz : a.eval z = V v)
    (hk : ∀ w', MapOf w' b K V Good (aput m c v) → Ext [b] w w' → wpList P ops Q rest (a.put o.dst undef) w') : wpList P ops Q (o :: rest) a w := by
  refine wpList_plain hg fun K' hK' => ?_
  obtain ⟨w', hr, h1, h2⟩ := h.put_run kf ht hc v
  unfold Oper.wp
  simp only [execOp, ho, hx, hy, hz, Sem.run_bind, hr, Result.andThen_ok, Sem.run_pure]
  exact hK' _ _ (hk w' h1 h2)
omit [DecidableEq α] in
/-- Length. -/
theorem wpList_mapLen (h : MapOf w b K V Good m) (t : TypeId) (ht : P.underlying t = some (.map k e))
    (hg : o.guard = none) (x : Operand) (ho : o.op = .call { callee := .builtin .len, args := #[x], argTypes := #[t] }) (hx : a.eval x = .map (some b))
    (hk : wpList P ops Q rest (a.put o.dst (.int .i64 m.length)) w) : wpList P ops Q (o :: rest) a w := by
  refine wpList_plain hg fun K' hK' => ?_
  unfold Oper.wp
  simp [execOp, ho, resolve, invoke, builtin, hx, h.len_run ht o.type, Result.andThen]
  exact hK' _ _ hk
end
end Go.Proofs.Ytpgffckfbgfgcaa
/-
  Layer 5: the book.
-/
set_option maxRecDepth 100000
namespace Go.Proofs.Ytpgffckfbgfgcaa
open Go.RowKit

theorem laid : laidOutB Try.prog = true := by kernel_rfl
def txt (l : List UInt8) : Value := .string ⟨l.toArray⟩
/-- What was digested. -/
def hashedV (p : Nat × List UInt8) : Value := .agg #[.int .u8 p.1, txt p.2]
def hashedOk (p : Nat × List UInt8) : Prop := p.1 < 256 ∧ p.2.length ≤ maxLen
/-- What was tagged. -/
def saidV (p : (Int × Int) × List UInt8) : Value := .agg #[.int .i64 p.1.1, .int .i64 p.1.2, txt p.2]
def i64r (n : Int) : Prop := -9223372036854775808 ≤ n ∧ n < 9223372036854775808
def saidOk (p : (Int × Int) × List UInt8) : Prop := i64r p.1.1 ∧ i64r p.1.2 ∧ p.2.length ≤ maxLen
theorem txt_inj {a b : List UInt8} (h : txt a = txt b) : a = b := by
  unfold txt at h
  injection h with h
  injection h with h
  simpa using congrArg Array.toList h
theorem types_pos : ∃ m, Try.prog.types.size = m + 1 := by
  exact Nat.exists_eq_succ_of_ne_zero (by simp)
theorem hashed_lit (p : Nat × List UInt8) (h : hashedOk p) : ∃ l, keyOf Try.prog 303 (hashedV p) = some l := by
  obtain ⟨h1, h2⟩ := h
  have hk : (Try.prog.keyType 303 && (hashedV p).formed Try.prog 303) = true := by kernel_rfl
  have hn : Try.prog.cellsOf 303 = 2 := by kernel_rfl
  have hn5 : Try.prog.cellsOf 5 = 1 := by kernel_rfl
  have hn9 : Try.prog.cellsOf 9 = 1 := by kernel_rfl
  obtain ⟨m, hm⟩ := types_pos
  unfold keyOf
  simp only [Try.underlying303, if_pos hk, hm]
  simp [Program.keyLits, Try.underlying303, Try.underlying5, Try.underlying9, hn, hn5, hn9, hashedV, Value.cells, txt, Lit.wf]
  have e1 : IntKind.u8.min ≤ (p.1 : Int) ∧ (p.1 : Int) ≤ IntKind.u8.max := ⟨by show (0 : Int) ≤ _; omega, by show _ ≤ (255 : Int); omega⟩
  have e2 : (⟨p.2.toArray⟩ : ByteArray).size ≤ maxLen := by simpa [ByteArray.size] using h2
  simp [e1, e2]
theorem said_lit (p : (Int × Int) × List UInt8) (h : saidOk p) : ∃ l, keyOf Try.prog 306 (saidV p) = some l := by
  obtain ⟨h1, h2, h3⟩ := h
  have hk : (Try.prog.keyType 306 && (saidV p).formed Try.prog 306) = true := by kernel_rfl
  have hn : Try.prog.cellsOf 306 = 3 := by kernel_rfl
  have hn5 : Try.prog.cellsOf 3 = 1 := by kernel_rfl
  have hn9 : Try.prog.cellsOf 9 = 1 := by kernel_rfl
  obtain ⟨m, hm⟩ := types_pos
  unfold keyOf
  simp only [Try.underlying306, if_pos hk, hm]
  simp [Program.keyLits, Try.underlying306, Try.underlying3, Try.underlying9, hn, hn5, hn9, saidV, Value.cells, txt, Lit.wf]
  obtain ⟨h1a, h1b⟩ := h1
  obtain ⟨h2a, h2b⟩ := h2
  have e1 : IntKind.i64.min ≤ p.1.1 ∧ p.1.1 ≤ 9223372036854775807 := ⟨by show (-9223372036854775808 : Int) ≤ _; omega, by omega⟩
  have e3 : IntKind.i64.min ≤ p.1.2 ∧ p.1.2 ≤ 9223372036854775807 := ⟨by show (-9223372036854775808 : Int) ≤ _; omega, by omega⟩
  have e2 : (⟨p.2.toArray⟩ : ByteArray).size ≤ maxLen := by simpa [ByteArray.size] using h3
  simp [e1, e2, e3]
theorem hashed_fit : KeyFit Try.prog 303 hashedV hashedOk where
  keyed := Maps.Keyed.of_law (deep_law_laid laid (m := 4) (by decide) (of_decide_eq_true (by kernel_rfl)) (by kernel_rfl) (by kernel_rfl))
  lit := hashed_lit
  inj a b _ _ h := by
    unfold hashedV at h
    injection h with h
    simp at h
    obtain ⟨a1, a2⟩ := a
    obtain ⟨b1, b2⟩ := b
    have := txt_inj h.2
    simp only at this
    subst this
    have h1 : a1 = b1 := by have := h.1; omega
    subst h1
    rfl
theorem said_fit : KeyFit Try.prog 306 saidV saidOk where
  keyed := Maps.Keyed.of_law (deep_law_laid laid (m := 4) (by decide) (of_decide_eq_true (by kernel_rfl)) (by kernel_rfl) (by kernel_rfl))
  lit := said_lit
  inj a b _ _ h := by
    unfold saidV at h
    injection h with h
    simp at h
    obtain ⟨⟨a0, a1⟩, a2⟩ := a
    obtain ⟨⟨b0, b1⟩, b2⟩ := b
    have := txt_inj h.2.2
    simp only at this h
    obtain ⟨rfl, rfl, _⟩ := h
    subst this
    rfl

/-- A call of a Go function, as one step of a region that draws. -/
theorem step_go {P : Program} {ops : Array Oper} {o : Oper} {a : Act} {w : World} {K : Act → World → Prop} {Q : Exit → Act → World → Prop} {E : Prop} (hgd : o.guard = none) (f : FuncId) (xs : Array Operand) (ats : Array TypeId)
    (ho : o.op = .call { callee := .value (.func f), args := xs, argTypes := ats }) {R : Ending → World → Prop} (vals : Array Value) (hv : xs.map a.eval = vals) (hcall : (callFunc f (#[] ++ vals ++ #[])).run P w = .ok (.enter f vals) w) (hc : Calls P f vals w R) (h : ∀ e w', R e w' → ∃ v, e = .returned v ∧ K (a.put o.dst v) w') :
    if Region.wanted o (yielded ops a.tmps) = true then Oper.wp P o a w K Q else E := by
  have hw : Region.wanted o (yielded ops a.tmps) = true := by simp [Region.wanted, hgd]
  rw [if_pos hw]
  unfold Oper.wp
  subst hv
  have hr : (execOp a.eval o).run P w = .ok (.enter f (xs.map a.eval)) w := by
    obtain ⟨dst, op, ty, pos, after, guard⟩ := o
    dsimp only at ho
    subst ho
    rw [execOp_call_go]
    exact hcall
  rw [hr, Oper.upon_enter]
  refine hc.mono fun e w' hR => ?_
  obtain ⟨v, rfl, hk⟩ := h e w' hR
  exact hk

/-! ### A number as a digest -/
def numCells (f n : Nat) : List Value := .int .u8 f :: (List.replicate 23 (.int .u8 0) ++ (beBytes n 8).map bc)
def numV (f n : Nat) : Value := .agg (numCells f n).toArray
theorem slice32 (q : Nat) (w : World) : (Instr.sliceAt 29 (.pointer (some ⟨q, 0, none⟩)) (some (.int .i64 24)) none none).run Try.prog w = .ok (.slice (some ⟨q, 24, none⟩) 8 8) w := by
  have ha : Try.prog.arrayLen 29 = 32 := by kernel_rfl
  have hs : ((sizeOf (Try.prog.elem 29)).run Try.prog w) = .ok 1 w := by kernel_rfl
  rw [run_sliceAt_array_l (P := Try.prog) w 29 ⟨q, 0, none⟩ Try.underlying29 .i64 24 (by omega) (by rw [ha]; omega), hs, ha]
  rfl
attribute [local go_sem] slice32
def preCells (f : Nat) : List Value := .int .u8 f :: List.replicate 31 (.int .u8 0)
def zero32 : Array Value := (List.replicate 32 (.int .u8 0)).toArray
theorem run_alloc32 {tmps : Operand → Value} {dst pos after guard ty} {w : World} : (execOp tmps ⟨dst, .alloc 29, ty, pos, after, guard⟩).run Try.prog w = .ok (.value (.pointer (some ⟨w.heap.size, 0, none⟩))) (w.alloc (.cells zero32 29)) := by kernel_rfl
theorem own8 {w : World} {base n : Nat} {r : Value} (h : OwnB w base r ([] ++ beBytes n (Int.toNat 8))) : ∃ b off c, r = .slice (some ⟨b, off, none⟩) 8 c ∧ ∀ j u, ((beBytes n 8).map bc)[j]? = some u → w.cell? ((⟨b, off, none⟩ : Addr).add j) = some u := by
  obtain ⟨A, c, h1, _, _, _, h5⟩ := h.bytes
  obtain ⟨b, off, rfl, hc⟩ := h5 (by simp [beBytes])
  refine ⟨b, off, c, by rw [h1]; simp [beBytes_length], fun j u hu => ?_⟩
  have hadd : (⟨b, off, none⟩ : Addr).add j = ⟨b, off + j, none⟩ := by
    unfold Addr.add
    split
    · rename_i h0; subst h0; rfl
    · rfl
  rw [hadd]
  exact hc j u hu
theorem splice_num (f n : Nat) : splice (preCells f) 24 ((beBytes n 8).map bc) = numCells f n := by
  simp [splice, preCells, numCells, beBytes_length]
theorem num_one (f n : Nat) : (numCells f n).toArray.all (·.oneCell') = true := by
  rw [List.all_toArray, List.all_eq_true]
  intro v hv
  simp only [numCells, List.mem_cons, List.mem_append, List.mem_replicate, List.mem_map] at hv
  rcases hv with rfl | ⟨_, rfl⟩ | ⟨a, _, rfl⟩ <;> rfl
set_option maxHeartbeats 2000000 in
theorem book_number (w : World) (f n : Nat) (hn : n < 9223372036854775808) :
    Calls Try.prog 213 #[.int .u8 f, .int .i64 n] w fun e w' => e = .returned (numV f n) ∧ Ext [] w w' := by
  go_enter Try.func213, Try.ntmps213
  go_wp2_with (first
    | ((with_reducible refine at_op ⟨some 4, _, _, _, _, _⟩ ?_); refine wpList_value rfl _ _ run_alloc32 ?_)
    | ((with_reducible refine at_op ⟨some 5, _, _, _, _, _⟩ ?_); refine wpList_value rfl _ _ run_alloc32 ?_)
    | ((with_reducible refine at_op ⟨some 7, _, _, _, _, _⟩ ?_); refine wpList_value rfl (.agg (preCells f).toArray) (w.alloc (.cells zero32 29)) (by kernel_rfl) ?_)
    | ((with_reducible refine at_op ⟨none, .store _ (.tmp 5) (.tmp 7), _, _, _, _⟩ ?_); refine wpList_store_new rfl _ _ _ rfl (w.alloc (.cells zero32 29)) _ _ (preCells f).toArray rfl rfl rfl (by kernel_rfl) (by kernel_rfl) (by kernel_rfl) ?_))
  have hput := fun (W : World) => octets_Put W (.slice none 0 0) [] n (by omega) 8 (BytesV.nil W) (by simp) (by decide)
  have hcl := fun (W : World) => (by kernel_rfl : (callFunc 116 (#[] ++ #[.slice none 0 0, .int .u64 n, .int .i64 8] ++ #[])).run Try.prog W = .ok (.enter 116 #[.slice none 0 0, .int .u64 n, .int .i64 8]) W)
  have hwr : IntKind.u64.wrap (n : Int) = n := by rw [IntKind.wrap_u64]; omega
  have hx0 : Ext [] w ((w.alloc (.cells zero32 29)).alloc (.cells (preCells f).toArray 29)).drew := (((Ext.refl w).alloc _).alloc _).trans (G := []) (Still.ext (Still.drewN _ 1)) (by simp)
  have hb5 : Blk ((w.alloc (.cells zero32 29)).alloc (.cells (preCells f).toArray 29)).drew (w.heap.size + 1) 29 (preCells f).toArray := by
    have hsz : (w.alloc (.cells zero32 29)).heap.size = w.heap.size + 1 := Array.size_push _
    rw [← hsz]
    exact heap_alloc_new (w.alloc (.cells zero32 29)) (.cells (preCells f).toArray 29)
  have hb4 : Blk ((w.alloc (.cells zero32 29)).alloc (.cells (preCells f).toArray 29)).drew w.heap.size 29 zero32 :=
    (((Blk.new w 29 zero32).ext ((Ext.refl (F := []) _).alloc _) (by simp)).ext (F := []) (Still.ext (Still.drewN _ 1)) (by simp))
  go_region_law (first
    | (refine step_copy_splice rfl _ _ _ _ rfl 5 Try.underlying34 (by kernel_rfl) (some ⟨w.heap.size + 1, 24, none⟩) (some ⟨b, off, none⟩) 8 8 8 c (by simp [Act.eval]) (by simp [Act.eval]) (w.heap.size + 1) 24 (preCells f) 29 hb52 ((beBytes n 8).map bc) (by simp [beBytes_length]) (fun _ => ⟨rfl, _, rfl, hsrc⟩) (by simp [beBytes_length, preCells]) bc_one (w.heap.size + 1) w2 (RowKit.Below.refl _ _) (Nat.le_refl _) ?_; intro w3 hb53 hbel)
    | (refine step_go rfl 116 _ _ rfl _ (by simp [Act.eval, Act.put]) (hcl _) (hput _) ?_; rintro e w2 ⟨r, rfl, hr2, hx2⟩; obtain ⟨b, off, c, rfl, hsrc⟩ := own8 hr2; have hb52 := hb5.ext hx2 (by simp); have hb42 := hb4.ext hx2 (by simp); refine ⟨_, rfl, ?_⟩))
  have hb43 : Blk w3 w.heap.size 29 zero32 := (hbel.block _ (by omega)).trans hb42
  have hb53' : Blk w3 (w.heap.size + 1) 29 (numCells f n).toArray := by
    have := hb53.out
    rw [splice_num] at this
    exact this
  have HX := Lib.hid (show Ext [] w w3 from ⟨hbel.os.trans (hx0.trans hx2 (by simp)).os, hbel.tape.trans (hx0.trans hx2 (by simp)).tape, hbel.output.trans (hx0.trans hx2 (by simp)).output, Nat.le_trans (hx0.trans hx2 (by simp)).size hbel.size, fun k hk hn => (hbel.block k (by omega)).trans ((hx0.trans hx2 (by simp)).block k hk hn)⟩)
  have H4 := Lib.hid hb43
  have H5 := Lib.hid hb53'
  clear hb43 hb53' hb53 hbel hb4 hb5 hb42 hb52 hx0 hx2 hr2 hsrc hput hcl
  go_wp2_with (first
    | ((with_reducible refine at_op ⟨some 13, _, _, _, _, _⟩ ?_); refine wpList_load_row rfl _ _ rfl (w.heap.size + 1) rfl _ _ _ _ H5.out Try.underlying29 rfl (by kernel_rfl) ?_)
    | ((with_reducible refine at_op ⟨none, .store _ (.tmp 4) (.tmp 13), _, _, _, _⟩ ?_); refine wpList_store_row rfl _ _ _ rfl w.heap.size (numCells f n).toArray rfl rfl _ _ H4.out (by kernel_rfl) (by kernel_rfl) (num_one f n) ?_))
  exact bodyPost_ret (v := numV f n) (results_cell_row rfl _ _ w.heap.size _ _ _ _ rfl (H4.out.setRow _) Try.underlying29 rfl (by kernel_rfl)) rfl ⟨rfl, HX.out.setRow (Or.inr (Nat.le_refl _)) _⟩

/-! ### A key's number -/
section
variable {α : Type} [DecidableEq α]
/-- Which number a key gets. -/
def pl (m : List (α × Nat)) (k : α) : Nat := (aget m k).getD (m.length + 1)
/-- What is known then. -/
def pm (m : List (α × Nat)) (k : α) : List (α × Nat) := if (aget m k).isSome then m else aput m k (m.length + 1)
end
def natV (n : Nat) : Value := .int .i64 n
theorem place_hashed (w : World) (b : Nat) (m : List ((Nat × List UInt8) × Nat)) (k : Nat) (l : List UInt8) (h : MapOf w b hashedV natV hashedOk m) (hk : hashedOk (k, l)) (hm : m.length < 4611686018427387904) :
    Calls Try.prog 214 #[.map (some b), .agg #[.int .u8 k, .string ⟨l.toArray⟩]] w fun e w' => e = .returned (natV (pl m (k, l))) ∧ MapOf w' b hashedV natV hashedOk (pm m (k, l)) ∧ Ext [b] w w' := by
  have H := Lib.hid h; clear h
  have HK := Lib.hid hk; clear hk
  have hz : ∀ W : World, (zeroValue 3).run Try.prog W = .ok (.int .i64 0) W := fun W => by kernel_rfl
  have HZ := Lib.hid hz; clear hz
  have hl1 : (m.length : Int) + 1 < 9223372036854775808 := by omega
  have hl0 : (0 : Int) ≤ m.length := by omega
  rcases hg : aget m (k, l) with _ | v
  · have G := Lib.hid hg; clear hg
    go_enter Try.func214, Try.ntmps214
    go_wp2_with (first
      | ((with_reducible refine at_op ⟨some 10, _, _, _, _, _⟩ ?_); refine wpList_mapGetOk (H.out.alloc _) hashed_fit _ Try.underlying153 _ (HZ.out _) (k, l) HK.out rfl _ _ rfl rfl rfl ?_; rw [G.out]; dsimp only [Option.map_none, Option.getD_none, Option.isSome_none])
      | ((with_reducible refine at_op ⟨some 16, _, _, _, _, _⟩ ?_); refine wpList_mapLen (H.out.alloc _) _ Try.underlying153 rfl _ rfl rfl ?_)
      | ((with_reducible refine at_op ⟨none, .mapUpdate _ _ _ _, _, _, _, _⟩ ?_); refine wpList_mapPut (H.out.alloc _) hashed_fit _ Try.underlying153 (k, l) HK.out (m.length + 1) rfl _ _ _ rfl rfl rfl rfl ?_; intro w1 h1 hx1))
    go_ret
    refine ⟨by simp [pl, natV, G.out], ?_, ?_⟩
    · simpa [pm, G.out] using h1
    · exact ((Ext.refl (F := [b]) w).alloc _).trans hx1 (by simp)
  · have G := Lib.hid hg; clear hg
    go_enter Try.func214, Try.ntmps214
    go_wp2_with ((with_reducible refine at_op ⟨some 10, _, _, _, _, _⟩ ?_); refine wpList_mapGetOk (H.out.alloc _) hashed_fit _ Try.underlying153 _ (HZ.out _) (k, l) HK.out rfl _ _ rfl rfl rfl ?_; rw [G.out]; dsimp only [Option.map_some, Option.getD_some, Option.isSome_some])
    go_ret
    refine ⟨by simp [pl, natV, G.out], ?_, ?_⟩
    · have := H.out.alloc (.cells #[.int .u8 k, .string ⟨l.toArray⟩] 303)
      simpa [pm, G.out] using this
    · exact (Ext.refl (F := [b]) _).alloc _
theorem place_said (w : World) (b : Nat) (m : List (((Int × Int) × List UInt8) × Nat)) (x y : Int) (l : List UInt8) (h : MapOf w b saidV natV saidOk m) (hk : saidOk ((x, y), l)) (hm : m.length < 4611686018427387904) :
    Calls Try.prog 215 #[.map (some b), .agg #[.int .i64 x, .int .i64 y, .string ⟨l.toArray⟩]] w fun e w' => e = .returned (natV (pl m ((x, y), l))) ∧ MapOf w' b saidV natV saidOk (pm m ((x, y), l)) ∧ Ext [b] w w' := by
  have H := Lib.hid h; clear h
  have HK := Lib.hid hk; clear hk
  have hz : ∀ W : World, (zeroValue 3).run Try.prog W = .ok (.int .i64 0) W := fun W => by kernel_rfl
  have HZ := Lib.hid hz; clear hz
  have hl1 : (m.length : Int) + 1 < 9223372036854775808 := by omega
  have hl0 : (0 : Int) ≤ m.length := by omega
  rcases hg : aget m ((x, y), l) with _ | v
  · have G := Lib.hid hg; clear hg
    go_enter Try.func215, Try.ntmps215
    go_wp2_with (first
      | ((with_reducible refine at_op ⟨some 10, _, _, _, _, _⟩ ?_); refine wpList_mapGetOk (H.out.alloc _) said_fit _ Try.underlying154 _ (HZ.out _) ((x, y), l) HK.out rfl _ _ rfl rfl rfl ?_; rw [G.out]; dsimp only [Option.map_none, Option.getD_none, Option.isSome_none])
      | ((with_reducible refine at_op ⟨some 16, _, _, _, _, _⟩ ?_); refine wpList_mapLen (H.out.alloc _) _ Try.underlying154 rfl _ rfl rfl ?_)
      | ((with_reducible refine at_op ⟨none, .mapUpdate _ _ _ _, _, _, _, _⟩ ?_); refine wpList_mapPut (H.out.alloc _) said_fit _ Try.underlying154 ((x, y), l) HK.out (m.length + 1) rfl _ _ _ rfl rfl rfl rfl ?_; intro w1 h1 hx1))
    go_ret
    refine ⟨by simp [pl, natV, G.out], ?_, ?_⟩
    · simpa [pm, G.out] using h1
    · exact ((Ext.refl (F := [b]) w).alloc _).trans hx1 (by simp)
  · have G := Lib.hid hg; clear hg
    go_enter Try.func215, Try.ntmps215
    go_wp2_with ((with_reducible refine at_op ⟨some 10, _, _, _, _, _⟩ ?_); refine wpList_mapGetOk (H.out.alloc _) said_fit _ Try.underlying154 _ (HZ.out _) ((x, y), l) HK.out rfl _ _ rfl rfl rfl ?_; rw [G.out]; dsimp only [Option.map_some, Option.getD_some, Option.isSome_some])
    go_ret
    refine ⟨by simp [pl, natV, G.out], ?_, ?_⟩
    · have := H.out.alloc (.cells #[.int .i64 x, .int .i64 y, .string ⟨l.toArray⟩] 306)
      simpa [pm, G.out] using this
    · exact (Ext.refl (F := [b]) _).alloc _
end Go.Proofs.Ytpgffckfbgfgcaa
/-
  Layer 5: what a book tells.
-/
set_option maxRecDepth 100000
namespace Go.Proofs.Ytpgffckfbgfgcaa
open Go.RowKit

/-- A book that has digested D, and tagged T. -/
structure BookAt (w : World) (p bd bt : Nat) (D : List ((Nat × List UInt8) × Nat)) (T : List (((Int × Int) × List UInt8) × Nat)) : Prop where
  blk : Blk w p 156 #[.map (some bd), .map (some bt)]
  md : MapOf w bd hashedV natV hashedOk D
  mt : MapOf w bt saidV natV saidOk T
  ne : bd ≠ bt ∧ p ≠ bd ∧ p ≠ bt
theorem BookAt.ext {w w' : World} {p bd bt : Nat} {D T} {F : List Nat} (h : BookAt w p bd bt D T) (hx : Ext F w w') (h1 : p ∉ F) (h2 : bd ∉ F) (h3 : bt ∉ F) : BookAt w' p bd bt D T :=
  ⟨h.blk.ext hx h1, h.md.ext hx h2, h.mt.ext hx h3, h.ne⟩
theorem BookAt.ext0 {w w' : World} {p bd bt : Nat} {D T} (h : BookAt w p bd bt D T) (hx : Ext [] w w') : BookAt w' p bd bt D T := h.ext hx (by simp) (by simp) (by simp)
theorem conv_txt {w : World} {v : Value} {l : List UInt8} (h : BytesV w v l) : (convert 34 9 v).run Try.prog w = .ok (.string ⟨l.toArray⟩) w := by
  obtain ⟨A, c, rfl, _, _, h4, h5⟩ := h
  rcases A with _ | a
  · have := run_convert_bytes_nil (P := Try.prog) (w := w) 34 5 Try.underlying34 Try.underlying5 l.length c 9 Try.underlying9
    have hl : l = [] := by
      rcases l with _ | ⟨x, l⟩
      · rfl
      · obtain ⟨b, off, h0, _⟩ := h5 (by simp)
        cases h0
    subst hl
    exact this
  · refine run_convert_bytes_back (P := Try.prog) w 34 9 5 a c l Try.underlying34 Try.underlying5 Try.underlying9 (fun j hj => ?_)
    obtain ⟨b, off, h0, hc⟩ := h5 (by intro h0; have := congrArg List.length h0; simp at this; subst this; simp at hj)
    cases h0
    have hadd : (⟨b, off, none⟩ : Addr).add j = ⟨b, off + j, none⟩ := by
      unfold Addr.add
      split
      · rename_i h0; subst h0; rfl
      · rfl
    rw [hadd]
    exact hc j _ (by simp [bc, hj])
theorem run_store_num {w : World} {g f n : Nat} {t : TypeId} {cs : Array Value} (h : Blk w g t cs) (hs : cs.size = 32) : (storeCells ⟨g, 0, none⟩ (numCells f n)).run Try.prog w = .ok () (w.setRow g (numCells f n).toArray) := by
  have := run_storeCells_from (P := Try.prog) g t (numCells f n) 0 cs w h (by rw [hs]; simp [numCells, beBytes_length]) (fun v hv => by
    have := num_one f n
    rw [List.all_toArray, List.all_eq_true] at this
    exact this v hv)
  simpa using this
theorem numCells_length (f n : Nat) : (numCells f n).length = 32 := by simp [numCells, beBytes_length]
attribute [local go_sem] numCells_length
def k8 (k : Int) : Nat := (k % 256).toNat
theorem run_allocD {tmps : Operand → Value} {dst pos after guard ty} {w : World} : (execOp tmps ⟨dst, .alloc 30, ty, pos, after, guard⟩).run Try.prog w = .ok (.value (.pointer (some ⟨w.heap.size, 0, none⟩))) (w.alloc (.cells zero32 30)) := by kernel_rfl
theorem run_allocT {tmps : Operand → Value} {dst pos after guard ty} {w : World} : (execOp tmps ⟨dst, .alloc 120, ty, pos, after, guard⟩).run Try.prog w = .ok (.value (.pointer (some ⟨w.heap.size, 0, none⟩))) (w.alloc (.cells zero32 120)) := by kernel_rfl
set_option maxHeartbeats 2000000 in
theorem book_Digest (w : World) (p bd bt : Nat) (D : List ((Nat × List UInt8) × Nat)) (T : List (((Int × Int) × List UInt8) × Nat)) (k : Int) (v : Value) (l : List UInt8) (h : BookAt w p bd bt D T) (hv : BytesV w v l) (hk : hashedOk (k8 k, l)) (hm : D.length < 4611686018427387904) (hpl : pl D (k8 k, l) < 9223372036854775808) :
    Calls Try.prog 161 #[.pointer (some ⟨p, 0, none⟩), .int .i64 k, v] w fun e w' => e = .returned (numV (k8 k) (pl D (k8 k, l))) ∧ BookAt w' p bd bt (pm D (k8 k, l)) T ∧ Ext [bd] w w' := by
  have H := Lib.hid h; clear h
  have HK := Lib.hid hk; clear hk
  have HV := Lib.hid hv; clear hv
  go_enter Try.func161, Try.ntmps161
  go_wp2_with ((with_reducible refine at_op ⟨some 6, _, _, _, _, _⟩ ?_); refine wpList_value rfl _ _ run_allocD ?_)
  have hx1 : Ext [] w (w.alloc (.cells zero32 30)).drew := ((Ext.refl w).alloc _).drew
  have hb0 : Blk (w.alloc (.cells zero32 30)).drew w.heap.size 30 zero32 := (Blk.new w 30 zero32).drew
  generalize (w.alloc (.cells zero32 30)) = W at *
  have H1 := H.out.ext0 hx1
  have hlt := H.out.md.lt
  have hc := Blk.cell H1.blk 0
  have hcv := conv_txt (HV.out.ext0 hx1)
  have hw8 : IntKind.u8.wrap k = (k8 k : Int) := by rw [IntKind.wrap_u8]; unfold k8; omega
  have hcl := fun (W : World) => (by kernel_rfl : (callFunc 214 (#[] ++ #[.map (some bd), .agg #[.int .u8 (k8 k), .string ⟨l.toArray⟩]] ++ #[])).run Try.prog W = .ok (.enter 214 #[.map (some bd), .agg #[.int .u8 (k8 k), .string ⟨l.toArray⟩]]) W)
  have hcl2 := fun (W : World) => (by kernel_rfl : (callFunc 213 (#[] ++ #[.int .u8 (k8 k), natV (pl D (k8 k, l))] ++ #[])).run Try.prog W = .ok (.enter 213 #[.int .u8 (k8 k), natV (pl D (k8 k, l))]) W)
  have hp := fun (W : World) (h : MapOf W bd hashedV natV hashedOk D) => place_hashed W bd D (k8 k) l h HK.out hm
  have hn := fun (W : World) => book_number W (k8 k) (pl D (k8 k, l)) hpl
  have HB0 := Lib.hid hb0; have HX1 := Lib.hid hx1; have HH1 := Lib.hid H1
  have HP := Lib.hid hp; have HN := Lib.hid hn; have HC := Lib.hid hcl; have HC2 := Lib.hid hcl2
  clear hb0 hx1 H1 hp hn hcl hcl2
  go_region_law (first
    | (refine step_go rfl 214 _ _ rfl #[.map (some bd), .agg #[.int .u8 (k8 k), .string ⟨l.toArray⟩]] (by simp [Act.eval, Act.put]) (HC.out _) (HP.out _ (HH1.out.md)) ?_; rintro e w2 ⟨rfl, hm2, hx2⟩; refine ⟨_, rfl, ?_⟩)
    | (refine step_go rfl 213 _ _ rfl #[.int .u8 (k8 k), natV (pl D (k8 k, l))] (by simp [Act.eval]) (HC2.out _) (HN.out _) ?_; rintro e w3 ⟨rfl, hx3⟩; have hst := run_store_num (f := (k8 k)) (n := pl D (k8 k, l)) ((HB0.out.ext hx2 (by simp; omega)).ext hx3 (by simp)) rfl; refine ⟨.agg (numCells (k8 k) (pl D (k8 k, l))).toArray, rfl, ?_⟩))
  all_goals
    have H2 := HH1.out
    have hb3 := (HB0.out.ext hx2 (by simp; omega)).ext hx3 (by simp)
    have hbk : BookAt w2 p bd bt (pm D (k8 k, l)) T := ⟨H2.blk.ext hx2 (by simpa using H2.ne.2.1), hm2, H2.mt.ext hx2 (by simpa using fun e => H2.ne.1 e.symm), H2.ne⟩
    have hp1 := H.out.blk.lt
    have hp2 := H.out.md.lt
    have hp3 := H.out.mt.lt
    have HK3 := Lib.hid ((hbk.ext0 hx3).ext ((Ext.refl (F := [w.heap.size]) w3).setRow (g := w.heap.size) (by simp) (numCells (k8 k) (pl D (k8 k, l))).toArray) (by simp; omega) (by simp; omega) (by simp; omega))
    have HX3 := Lib.hid ((((HX1.out.mono (G := [bd]) (by simp)).trans hx2 (by simp)).trans hx3 (by simp)).setRow (g := w.heap.size) (Or.inr (Nat.le_refl _)) (numCells (k8 k) (pl D (k8 k, l))).toArray)
    have HB3 := Lib.hid hb3
    clear hb3 hbk hp1 hp2 hp3 hx2 hx3 hm2 hst H2
    go_wp2
    exact bodyPost_ret (v := numV (k8 k) (pl D (k8 k, l))) (results_cell_row rfl _ _ w.heap.size _ _ _ _ rfl (HB3.out.setRow _) Try.underlying30 rfl (by kernel_rfl)) rfl ⟨rfl, HK3.out, HX3.out⟩
set_option maxHeartbeats 2000000 in
theorem book_Tag (w : World) (p bd bt : Nat) (D : List ((Nat × List UInt8) × Nat)) (T : List (((Int × Int) × List UInt8) × Nat)) (x y : Int) (v : Value) (l : List UInt8) (h : BookAt w p bd bt D T) (hv : BytesV w v l) (hk : saidOk ((x, y), l)) (hm : T.length < 4611686018427387904) (hpl : pl T ((x, y), l) < 9223372036854775808) :
    Calls Try.prog 162 #[.pointer (some ⟨p, 0, none⟩), .int .i64 x, .int .i64 y, v] w fun e w' => e = .returned (numV 255 (pl T ((x, y), l))) ∧ BookAt w' p bd bt D (pm T ((x, y), l)) ∧ Ext [bt] w w' := by
  have H := Lib.hid h; clear h
  have HK := Lib.hid hk; clear hk
  have HV := Lib.hid hv; clear hv
  go_enter Try.func162, Try.ntmps162
  go_wp2_with ((with_reducible refine at_op ⟨some 8, _, _, _, _, _⟩ ?_); refine wpList_value rfl _ _ run_allocT ?_)
  have hx1 : Ext [] w (w.alloc (.cells zero32 120)).drew := ((Ext.refl w).alloc _).drew
  have hb0 : Blk (w.alloc (.cells zero32 120)).drew w.heap.size 120 zero32 := (Blk.new w 120 zero32).drew
  generalize (w.alloc (.cells zero32 120)) = W at *
  have H1 := H.out.ext0 hx1
  have hlt := H.out.mt.lt
  have hc := Blk.cell H1.blk 1
  have hcv := conv_txt (HV.out.ext0 hx1)
  have hcl := fun (W : World) => (by kernel_rfl : (callFunc 215 (#[] ++ #[.map (some bt), .agg #[.int .i64 x, .int .i64 y, .string ⟨l.toArray⟩]] ++ #[])).run Try.prog W = .ok (.enter 215 #[.map (some bt), .agg #[.int .i64 x, .int .i64 y, .string ⟨l.toArray⟩]]) W)
  have hcl2 := fun (W : World) => (by kernel_rfl : (callFunc 213 (#[] ++ #[.int .u8 255, natV (pl T ((x, y), l))] ++ #[])).run Try.prog W = .ok (.enter 213 #[.int .u8 255, natV (pl T ((x, y), l))]) W)
  have hp := fun (W : World) (h : MapOf W bt saidV natV saidOk T) => place_said W bt T x y l h HK.out hm
  have hn := fun (W : World) => book_number W 255 (pl T ((x, y), l)) hpl
  have HB0 := Lib.hid hb0; have HX1 := Lib.hid hx1; have HH1 := Lib.hid H1
  have HP := Lib.hid hp; have HN := Lib.hid hn; have HC := Lib.hid hcl; have HC2 := Lib.hid hcl2
  clear hb0 hx1 H1 hp hn hcl hcl2
  go_region_law (first
    | (refine step_go rfl 215 _ _ rfl #[.map (some bt), .agg #[.int .i64 x, .int .i64 y, .string ⟨l.toArray⟩]] (by simp [Act.eval, Act.put]) (HC.out _) (HP.out _ (HH1.out.mt)) ?_; rintro e w2 ⟨rfl, hm2, hx2⟩; refine ⟨_, rfl, ?_⟩)
    | (refine step_go rfl 213 _ _ rfl #[.int .u8 255, natV (pl T ((x, y), l))] (by simp [Act.eval]) (HC2.out _) (HN.out _) ?_; rintro e w3 ⟨rfl, hx3⟩; have hst := run_store_num (f := 255) (n := pl T ((x, y), l)) ((HB0.out.ext hx2 (by simp; omega)).ext hx3 (by simp)) rfl; refine ⟨.agg (numCells 255 (pl T ((x, y), l))).toArray, rfl, ?_⟩))
  all_goals
    have H2 := HH1.out
    have hb3 := (HB0.out.ext hx2 (by simp; omega)).ext hx3 (by simp)
    have hbk : BookAt w2 p bd bt D (pm T ((x, y), l)) := ⟨H2.blk.ext hx2 (by simpa using H2.ne.2.2), H2.md.ext hx2 (by simpa using H2.ne.1), hm2, H2.ne⟩
    have hp1 := H.out.blk.lt
    have hp2 := H.out.md.lt
    have hp3 := H.out.mt.lt
    have HK3 := Lib.hid ((hbk.ext0 hx3).ext ((Ext.refl (F := [w.heap.size]) w3).setRow (g := w.heap.size) (by simp) (numCells 255 (pl T ((x, y), l))).toArray) (by simp; omega) (by simp; omega) (by simp; omega))
    have HX3 := Lib.hid ((((HX1.out.mono (G := [bt]) (by simp)).trans hx2 (by simp)).trans hx3 (by simp)).setRow (g := w.heap.size) (Or.inr (Nat.le_refl _)) (numCells 255 (pl T ((x, y), l))).toArray)
    have HB3 := Lib.hid hb3
    clear hb3 hbk hp1 hp2 hp3 hx2 hx3 hm2 hst H2
    go_wp2
    exact bodyPost_ret (v := numV 255 (pl T ((x, y), l))) (results_cell_row rfl _ _ w.heap.size _ _ _ _ rfl (HB3.out.setRow _) Try.underlying120 rfl (by kernel_rfl)) rfl ⟨rfl, HK3.out, HX3.out⟩
end Go.Proofs.Ytpgffckfbgfgcaa
/-
  Layer 5: a new book; what was said; the nil book.
-/
set_option maxRecDepth 100000
namespace Go.Proofs.Ytpgffckfbgfgcaa
open Go.RowKit

section
variable {P : Program} {ops : Array Oper} {rest : List Oper} {o : Oper} {a : Act} {Q : Act → Prop} {C : World → Prop}
/-- A guard, in a region that draws and is walked in the text's order. -/
theorem at_opq (o : Oper) (h : wpQuiet P ops C Q (o :: rest) a) : wpQuiet P ops C Q (o :: rest) a := h
/-- An operation by its run, in whatever world of the class. -/
theorem wpQuiet_value (hg : o.guard = none) (v : Value) (h : ∀ w, C w → (execOp a.eval o).run P w = .ok (.value v) w) (k : wpQuiet P ops C Q rest (a.put o.dst v)) : wpQuiet P ops C Q (o :: rest) a := by
  refine BigFrame.wpQuiet_want (by simp [Region.wanted, hg]) fun K hK => ?_
  exact ⟨v, fun w hw => by unfold Oper.quietAt; rw [h w hw]; exact ⟨rfl, rfl⟩, hK _ k⟩
end
section
variable {α β : Type} [DecidableEq α] {P : Program} {w : World} {b : Nat} {k e : TypeId} {K : α → Value} {V : β → Value} {Good : α → Prop} {m : List (α × β)} {o : Oper} {a : Act}
theorem run_mapGetOk (h : MapOf w b K V Good m) (kf : KeyFit P k K Good) (t : TypeId) (ht : P.underlying t = some (.map k e)) (z : Value) (hz : (zeroValue e).run P w = .ok z w) (c : α) (hc : Good c)
    (x y : Operand) (ho : o.op = .lookup t x y true) (hx : a.eval x = .map (some b)) (hy : a.eval y = K c) :
    (execOp a.eval o).run P w = .ok (.value (.tuple #[((aget m c).map V).getD z, .bool (aget m c).isSome])) w := by
  simp only [execOp, ho, hx, hy, Sem.run_bind, h.look_run kf ht hz hc true, if_true, Result.andThen_ok, Sem.run_pure]
omit [DecidableEq α] in
theorem run_mapLen (h : MapOf w b K V Good m) (t : TypeId) (ht : P.underlying t = some (.map k e)) (x : Operand) (ho : o.op = .call { callee := .builtin .len, args := #[x], argTypes := #[t] }) (hx : a.eval x = .map (some b)) :
    (execOp a.eval o).run P w = .ok (.value (.int .i64 m.length)) w := by
  simp [execOp, ho, resolve, invoke, builtin, hx, h.len_run ht o.type, Result.andThen]
end

theorem alloc_size (w : World) (o : Obj) : (w.alloc o).heap.size = w.heap.size + 1 := Array.size_push _
set_option maxHeartbeats 2000000 in
theorem book_New (w : World) : Calls Try.prog 17 #[] w fun e w' => e = .returned (.pointer (some ⟨w.heap.size + 2, 0, none⟩)) ∧ BookAt w' (w.heap.size + 2) w.heap.size (w.heap.size + 1) [] [] ∧ Ext [] w w' := by
  have h1 := (Ext.refl (F := []) w).alloc (.map #[] 0)
  have m1 := MapOf.new (K := hashedV) (V := natV) (Good := hashedOk) w
  have s1 := alloc_size w (.map #[] 0)
  obtain ⟨W1, hW1⟩ : ∃ W1, W1 = w.alloc (.map #[] 0) := ⟨_, rfl⟩
  rw [← hW1] at h1 m1 s1
  have h2 := h1.alloc (.map #[] 0)
  have m2 := m1.alloc (.map #[] 0)
  have m3 := MapOf.new (K := saidV) (V := natV) (Good := saidOk) W1
  have s2 := alloc_size W1 (.map #[] 0)
  have r1 : ∀ (tmps : Operand → Value) dst pos after guard ty, (execOp tmps ⟨dst, .makeMap 153 none, ty, pos, after, guard⟩).run Try.prog w = .ok (.value (.map (some w.heap.size))) W1 := by intros; rw [hW1]; rfl
  obtain ⟨W2, hW2⟩ : ∃ W2, W2 = W1.alloc (.map #[] 0) := ⟨_, rfl⟩
  rw [← hW2] at h2 m2 m3 s2
  have r2 : ∀ (tmps : Operand → Value) dst pos after guard ty, (execOp tmps ⟨dst, .makeMap 154 none, ty, pos, after, guard⟩).run Try.prog W1 = .ok (.value (.map (some (w.heap.size + 1)))) W2 := by intros; rw [hW2, ← s1]; rfl
  have hb := Blk.new W2 156 #[.map (some w.heap.size), .map (some (w.heap.size + 1))]
  rw [s2, s1] at hb
  rw [s1] at m3
  have R1 := Lib.hid r1
  have R2 := Lib.hid r2
  have hs : W2.heap.size = w.heap.size + 2 := by omega
  have HM := Lib.hid (And.intro (m2.alloc (.cells #[.map (some w.heap.size), .map (some (w.heap.size + 1))] 156)) (And.intro (m3.alloc (.cells #[.map (some w.heap.size), .map (some (w.heap.size + 1))] 156)) (And.intro hb (h2.alloc (.cells #[.map (some w.heap.size), .map (some (w.heap.size + 1))] 156)))))
  clear hb m1 m2 m3 s1 s2 h1 h2 r1 r2 hW1 hW2
  go_enter Try.func17, Try.ntmps17
  go_wp2_with (first
    | ((with_reducible refine at_op ⟨some 1, _, _, _, _, _⟩ ?_); refine wpList_value rfl _ _ (R1.out _ _ _ _ _ _) ?_)
    | ((with_reducible refine at_op ⟨some 2, _, _, _, _, _⟩ ?_); refine wpList_value rfl _ _ (R2.out _ _ _ _ _ _) ?_))
  go_ret
  exact ⟨rfl, ⟨HM.out.2.2.1, HM.out.1, HM.out.2.1, by omega, by omega, by omega⟩, HM.out.2.2.2⟩
theorem book_Said (w : World) (p bd bt : Nat) (D : List ((Nat × List UInt8) × Nat)) (T : List (((Int × Int) × List UInt8) × Nat)) (x y : Int) (v : Value) (l : List UInt8) (h : BookAt w p bd bt D T) (hv : BytesV w v l) (hk : saidOk ((x, y), l)) (b : Bool) (hb : (aget T ((x, y), l)).isSome = b) :
    Calls Try.prog 164 #[.pointer (some ⟨p, 0, none⟩), .int .i64 x, .int .i64 y, v] w fun e w' => e = .returned (.bool b) ∧ Ext [] w w' := by
  have H := Lib.hid h
  have HK := Lib.hid hk; clear hk
  have hc := fun (x : Later w) => Blk.cell (Later.blk x h.blk) 1
  have hcv := fun (x : Later w) => conv_txt (hv.ext0 x.ext)
  have HB := Lib.hid hb
  clear h hv hb
  go_enter Try.func164, Try.ntmps164
  go_wp2
  refine wp_region_later_lit (by kernel_rfl) (by kernel_rfl) ?_
  repeat (first
    | ((with_reducible refine at_opq ⟨some 23, _, _, _, _, _⟩ ?_); refine wpQuiet_value rfl _ (by rintro _ ⟨xq, rfl⟩; exact run_mapGetOk (H.out.ext0 xq.ext).mt said_fit _ Try.underlying154 (.int .i64 0) (by kernel_rfl) ((x, y), l) HK.out _ _ rfl rfl rfl) ?_; go_simp)
    | go_big_quiet_step (fail))
  refine wpQuiet_nil ?_
  intro xq
  have hx := xq.ext
  go_wp2
  go_ret
  exact ⟨ret_bool HB.out, hx⟩
theorem nil_Digest (w : World) (k v : Value) : Calls Try.prog 161 #[.pointer none, k, v] w fun e w' => e = .returned (.agg zero32) ∧ Ext [] w w' := by
  go_enter Try.func161, Try.ntmps161
  go_wp2_with (first
    | ((with_reducible refine at_op ⟨some 6, _, _, _, _, _⟩ ?_); refine wpList_value rfl _ _ run_allocD ?_)
    | ((with_reducible refine at_op ⟨some 9, _, _, _, _, _⟩ ?_); refine wpList_value rfl (.agg zero32) _ (by kernel_rfl) ?_)
    | ((with_reducible refine at_op ⟨none, .store _ (.tmp 6) (.tmp 9), _, _, _, _⟩ ?_); refine wpList_store_new rfl _ _ _ rfl w _ _ zero32 rfl rfl rfl (by kernel_rfl) (by kernel_rfl) (by kernel_rfl) ?_))
  exact bodyPost_ret (v := .agg zero32) (results_cell_row rfl _ _ w.heap.size _ _ _ _ rfl (Blk.new w 30 zero32) Try.underlying30 rfl (by kernel_rfl)) rfl ⟨rfl, (Ext.refl w).alloc _⟩
theorem nil_Tag (w : World) (x y v : Value) : Calls Try.prog 162 #[.pointer none, x, y, v] w fun e w' => e = .returned (.agg zero32) ∧ Ext [] w w' := by
  go_enter Try.func162, Try.ntmps162
  go_wp2_with (first
    | ((with_reducible refine at_op ⟨some 8, _, _, _, _, _⟩ ?_); refine wpList_value rfl _ _ run_allocT ?_)
    | ((with_reducible refine at_op ⟨some 11, _, _, _, _, _⟩ ?_); refine wpList_value rfl (.agg zero32) _ (by kernel_rfl) ?_)
    | ((with_reducible refine at_op ⟨none, .store _ (.tmp 8) (.tmp 11), _, _, _, _⟩ ?_); refine wpList_store_new rfl _ _ _ rfl w _ _ zero32 rfl rfl rfl (by kernel_rfl) (by kernel_rfl) (by kernel_rfl) ?_))
  exact bodyPost_ret (v := .agg zero32) (results_cell_row rfl _ _ w.heap.size _ _ _ _ rfl (Blk.new w 120 zero32) Try.underlying120 rfl (by kernel_rfl)) rfl ⟨rfl, (Ext.refl w).alloc _⟩
theorem nil_Said (w : World) (x y v : Value) : Calls Try.prog 164 #[.pointer none, x, y, v] w fun e w' => e = .returned (.bool false) ∧ w = w' := by
  go_enter Try.func164, Try.ntmps164
  go_wp2
  go_ret
  exact ⟨rfl, rfl⟩
theorem nil_Sizes (w : World) : Calls Try.prog 98 #[.pointer none] w fun e w' => e = .returned (.tuple #[.int .i64 0, .int .i64 0]) ∧ w = w' := by
  go_enter Try.func98, Try.ntmps98
  go_wp2
  go_ret2
  exact ⟨rfl, rfl⟩
end Go.Proofs.Ytpgffckfbgfgcaa
/-
  Layer 5: is a tag the one that was made? Sizes.
-/
set_option maxRecDepth 100000
namespace Go.Proofs.Ytpgffckfbgfgcaa
open Go.RowKit

/-! ### Rows of 32 bytes -/
def numB (f n : Nat) : List UInt8 := UInt8.ofNat f :: (List.replicate 23 0 ++ beBytes n 8)
theorem numB_length (f n : Nat) : (numB f n).length = 32 := by simp [numB, beBytes_length]
theorem numCells_bytes (f n : Nat) (hf : f < 256) : numCells f n = (numB f n).map bc := by
  simp [numCells, numB, bc]
  omega
def litB (c : UInt8) : Lit := .int .u8 (c.toNat : Int)
theorem litB_inj {L M : List UInt8} (h : L.map litB = M.map litB) : L = M := by
  have hi : ∀ a b : UInt8, litB a = litB b → a = b := by
    intro a b hab
    unfold litB at hab
    injection hab with _ hab
    exact UInt8.toNat.inj (by omega)
  induction L generalizing M with
  | nil => cases M with
    | nil => rfl
    | cons _ _ => simp at h
  | cons a L ih => cases M with
    | nil => simp at h
    | cons b M =>
      simp only [List.map_cons, List.cons.injEq] at h
      rw [hi _ _ h.1, ih h.2]
theorem lits_bytes {m : Nat} {T : TypeId} (hu : Try.prog.underlying T = some (.array 32 5)) (hc : Try.prog.cellsOf T = 32) (L : List UInt8) (hL : L.length = 32) :
    Try.prog.keyLits (m + 2) T (L.map bc) = some (L.map litB) := by
  have h5 : Try.prog.cellsOf 5 = 1 := by kernel_rfl
  have hone : ∀ c : UInt8, Try.prog.keyLits (m + 1) 5 [bc c] = some [litB c] := by
    intro c
    have hb : c.toNat < 256 := c.toNat_lt
    have e1 : (Lit.int .u8 (c.toNat : Int)).wf = true := by
      simp only [Lit.wf, Bool.and_eq_true, decide_eq_true_eq]
      exact ⟨by show (0 : Int) ≤ _; omega, by show _ ≤ (255 : Int); omega⟩
    simp [Program.keyLits, Try.underlying5, bc, litB, e1]
  have hm : (List.range 32).mapM (fun i => Try.prog.keyLits (m + 1) 5 (((L.map bc).drop (i * 1)).take 1)) = some (L.map fun c => [litB c]) := by
    refine mapM_some_of_get _ _ (by simp [hL]) ?_
    intro i x hx
    have hi : i < 32 := by
      have := (List.getElem?_eq_some_iff.1 hx).1
      simpa using this
    have hxi : x = i := by
      have := (List.getElem?_eq_some_iff.1 hx).2
      simpa using this.symm
    subst hxi
    have hl : x < L.length := by omega
    have hd : ((L.map bc).drop (x * 1)).take 1 = [bc L[x]] := by
      rw [Nat.mul_one, List.drop_eq_getElem_cons (by simpa using hl)]
      simp
    rw [hd, hone]
    simp [hl]
  have hfl : (L.map fun c => [litB c]).flatten = L.map litB := by
    clear hm hL
    induction L with
    | nil => rfl
    | cons c L ih => simp [ih]
  have hlen : (L.map bc).length = Try.prog.cellsOf T := by simp [hL, hc]
  have hcell : (L.map bc).length = 32 := by simp [hL]
  unfold Program.keyLits
  rw [hu]
  split
  · simp_all
  · simp_all
  · simp_all
  · rename_i h1
    injection h1 with h1
    injection h1 with h1 h2
    subst h1
    subst h2
    rw [if_pos hlen, h5, hm, Option.map_some, hfl]
  · simp_all
  · simp_all
def arrB (L : List UInt8) : Value := .agg (L.map bc).toArray
theorem formedB {T : TypeId} (hu : Try.prog.underlying T = some (.array 32 5)) (hc : Try.prog.cellsOf T = 32) (L : List UInt8) (hL : L.length = 32) : (arrB L).formed Try.prog T = true := by
  simp [arrB, Value.formed, hu, hc, hL]
theorem eqlB {T : TypeId} (hu : Try.prog.underlying T = some (.array 32 5)) (hc : Try.prog.cellsOf T = 32) (hk : Try.prog.keyTypeAt 4 T = true) (L M : List UInt8) (hL : L.length = 32) (hM : M.length = 32) (b : Bool) (hb : decide (L = M) = b) (w : World) :
    (binOp .eql T (arrB L) (arrB M)).run Try.prog w = .ok (.bool b) w :=
  run_eql_lits (m := 4) (by decide) hk (formedB hu hc L hL) (formedB hu hc M hM) (lits_bytes (m := 0) hu hc L hL) (lits_bytes (m := 0) hu hc M hM) b (by
    rw [← hb, decide_eq_true_eq]
    exact ⟨fun h => by rw [h], litB_inj⟩) w
theorem neqB {T : TypeId} (hu : Try.prog.underlying T = some (.array 32 5)) (hc : Try.prog.cellsOf T = 32) (hk : Try.prog.keyTypeAt 4 T = true) (L M : List UInt8) (hL : L.length = 32) (hM : M.length = 32) (b : Bool) (hb : decide (L ≠ M) = b) (w : World) :
    (binOp .neq T (arrB L) (arrB M)).run Try.prog w = .ok (.bool b) w :=
  run_neq_lits (m := 4) (by decide) hk (formedB hu hc L hL) (formedB hu hc M hM) (lits_bytes (m := 0) hu hc L hL) (lits_bytes (m := 0) hu hc M hM) b (by
    rw [← hb, decide_eq_true_eq]
    exact ⟨fun h e => h (litB_inj e), fun h e => h (by rw [e])⟩) w
theorem eqlD (L M : List UInt8) (hL : L.length = 32) (hM : M.length = 32) (b : Bool) (hb : decide (L = M) = b) (w : World) : (binOp .eql 30 (arrB L) (arrB M)).run Try.prog w = .ok (.bool b) w :=
  eqlB Try.underlying30 (by kernel_rfl) (by kernel_rfl) L M hL hM b hb w
theorem eqlT (L M : List UInt8) (hL : L.length = 32) (hM : M.length = 32) (b : Bool) (hb : decide (L = M) = b) (w : World) : (binOp .eql 120 (arrB L) (arrB M)).run Try.prog w = .ok (.bool b) w :=
  eqlB Try.underlying120 (by kernel_rfl) (by kernel_rfl) L M hL hM b hb w
theorem neqD (L M : List UInt8) (hL : L.length = 32) (hM : M.length = 32) (b : Bool) (hb : decide (L ≠ M) = b) (w : World) : (binOp .neq 30 (arrB L) (arrB M)).run Try.prog w = .ok (.bool b) w :=
  neqB Try.underlying30 (by kernel_rfl) (by kernel_rfl) L M hL hM b hb w
theorem neqT (L M : List UInt8) (hL : L.length = 32) (hM : M.length = 32) (b : Bool) (hb : decide (L ≠ M) = b) (w : World) : (binOp .neq 120 (arrB L) (arrB M)).run Try.prog w = .ok (.bool b) w :=
  neqB Try.underlying120 (by kernel_rfl) (by kernel_rfl) L M hL hM b hb w
theorem numV_arr (f n : Nat) (hf : f < 256) : numV f n = arrB (numB f n) := by
  unfold numV arrB
  rw [numCells_bytes f n hf]
theorem zero_arr : Value.agg zero32 = arrB (List.replicate 32 0) := by
  unfold zero32 arrB
  congr 1
theorem book_Sizes (w : World) (p bd bt : Nat) (D : List ((Nat × List UInt8) × Nat)) (T : List (((Int × Int) × List UInt8) × Nat)) (h : BookAt w p bd bt D T) :
    Calls Try.prog 98 #[.pointer (some ⟨p, 0, none⟩)] w fun e w' => e = .returned (.tuple #[.int .i64 D.length, .int .i64 T.length]) ∧ Ext [] w w' := by
  have H := Lib.hid h
  have hc0 := fun (x : Later w) => Blk.cell (Later.blk x h.blk) 0
  have hc1 := fun (x : Later w) => Blk.cell (Later.blk x h.blk) 1
  clear h
  go_enter Try.func98, Try.ntmps98
  go_wp2
  refine wp_region_later_lit (by kernel_rfl) (by kernel_rfl) ?_
  repeat (first
    | ((with_reducible refine at_opq ⟨some 10, _, _, _, _, _⟩ ?_); refine wpQuiet_value rfl _ (by rintro _ ⟨xq, rfl⟩; exact run_mapLen (H.out.ext0 xq.ext).md _ Try.underlying153 _ rfl rfl) ?_; go_simp)
    | ((with_reducible refine at_opq ⟨some 15, _, _, _, _, _⟩ ?_); refine wpQuiet_value rfl _ (by rintro _ ⟨xq, rfl⟩; exact run_mapLen (H.out.ext0 xq.ext).mt _ Try.underlying154 _ rfl rfl) ?_; go_simp)
    | go_big_quiet_step (fail))
  refine wpQuiet_nil ?_
  intro xq
  have hx := xq.ext
  go_wp2
  go_ret2
  exact ⟨rfl, hx⟩
/-- A guarded call of a Go function, as one step of a region that draws. -/
theorem step_gog {P : Program} {ops : Array Oper} {o : Oper} {a : Act} {w : World} {K : Act → World → Prop} {Q : Exit → Act → World → Prop} {E : Prop} (hw : Region.wanted o (yielded ops a.tmps) = true) (f : FuncId) (xs : Array Operand) (ats : Array TypeId)
    (ho : o.op = .call { callee := .value (.func f), args := xs, argTypes := ats }) {R : Ending → World → Prop} (vals : Array Value) (hv : xs.map a.eval = vals) (hcall : (callFunc f (#[] ++ vals ++ #[])).run P w = .ok (.enter f vals) w) (hc : Calls P f vals w R) (h : ∀ e w', R e w' → ∃ v, e = .returned v ∧ K (a.put o.dst v) w') :
    if Region.wanted o (yielded ops a.tmps) = true then Oper.wp P o a w K Q else E := by
  rw [if_pos hw]
  subst hv
  unfold Oper.wp
  have hr : (execOp a.eval o).run P w = .ok (.enter f (xs.map a.eval)) w := by
    obtain ⟨dst, op, ty, pos, after, guard⟩ := o
    dsimp only at ho
    subst ho
    rw [execOp_call_go]
    exact hcall
  rw [hr, Oper.upon_enter]
  refine hc.mono fun e w' hR => ?_
  obtain ⟨v, rfl, hk⟩ := h e w' hR
  exact hk
/-- A load of a whole array, kept whole by the walk. -/
def loadArr (t : TypeId) (v : Value) : Sem Next := execOp (fun _ => v) ⟨none, .load t (.tmp 0), 0, "", #[], none⟩
theorem loadArr_T (a : Act) (dst x ty pos after guard) : execOp a.eval ⟨dst, .load 120 x, ty, pos, after, guard⟩ = loadArr 120 (a.eval x) := rfl
theorem loadArr_D (a : Act) (dst x ty pos after guard) : execOp a.eval ⟨dst, .load 30 x, ty, pos, after, guard⟩ = loadArr 30 (a.eval x) := rfl
theorem run_loadArr_T {w : World} {g : Nat} {L : List UInt8} (h : Blk w g 120 (L.map bc).toArray) (hL : L.length = 32) : (loadArr 120 (.pointer (some ⟨g, 0, none⟩))).run Try.prog w = .ok (.value (.agg (L.map bc).toArray)) w := by
  have h1 : (Try.prog.info? 120).map (·.size) = some 32 := by kernel_rfl
  unfold loadArr execOp
  simp only [Instr.loadAt, Instr.sureAddr, Sem.run_bind, Sem.run_pure, Result.andThen_ok, run_loadVar_row w g 120 120 (L.map bc).toArray (0, 0) _ h Try.underlying120 rfl (by rw [h1]; simp [hL])]
theorem run_loadArr_D {w : World} {g : Nat} {L : List UInt8} (h : Blk w g 30 (L.map bc).toArray) (hL : L.length = 32) : (loadArr 30 (.pointer (some ⟨g, 0, none⟩))).run Try.prog w = .ok (.value (.agg (L.map bc).toArray)) w := by
  have h1 : (Try.prog.info? 30).map (·.size) = some 32 := by kernel_rfl
  unfold loadArr execOp
  simp only [Instr.loadAt, Instr.sureAddr, Sem.run_bind, Sem.run_pure, Result.andThen_ok, run_loadVar_row w g 30 30 (L.map bc).toArray (0, 0) _ h Try.underlying30 rfl (by rw [h1]; simp [hL])]
attribute [local go_sem ↓] loadArr_T
theorem pm_some {α : Type} [DecidableEq α] {m : List (α × Nat)} {k : α} (h : (aget m k).isSome = true) : pm m k = m := if_pos h
set_option maxHeartbeats 2000000 in
theorem book_Check (w : World) (p bd bt : Nat) (D : List ((Nat × List UInt8) × Nat)) (T : List (((Int × Int) × List UInt8) × Nat)) (x y : Int) (v : Value) (l : List UInt8) (M : List UInt8) (h : BookAt w p bd bt D T) (hv : BytesV w v l) (hk : saidOk ((x, y), l)) (hM : M.length = 32) (hm : T.length < 4611686018427387904) (hpl : pl T ((x, y), l) < 9223372036854775808) (b : Bool) (hb : ((aget T ((x, y), l)).isSome && decide (M = numB 255 (pl T ((x, y), l)))) = b) :
    Calls Try.prog 163 #[.pointer (some ⟨p, 0, none⟩), .int .i64 x, .int .i64 y, v, arrB M] w fun e w' => e = .returned (.bool b) ∧ BookAt w' p bd bt D T ∧ Ext [bt] w w' := by
  have H := Lib.hid h; clear h
  have HV := Lib.hid hv; clear hv
  change Calls _ _ #[_, _, _, _, .agg (M.map bc).toArray] _ _
  have hx1 : Ext [] w (w.alloc (.cells (M.map bc).toArray 120)).drew := ((Ext.refl w).alloc _).drew
  have hb9 : Blk (w.alloc (.cells (M.map bc).toArray 120)).drew w.heap.size 120 (M.map bc).toArray := (Blk.new w 120 (M.map bc).toArray).drew
  have hcs := fun (W : World) => (by kernel_rfl : (callFunc 164 (#[] ++ #[.pointer (some ⟨p, 0, none⟩), .int .i64 x, .int .i64 y, v] ++ #[])).run Try.prog W = .ok (.enter 164 #[.pointer (some ⟨p, 0, none⟩), .int .i64 x, .int .i64 y, v]) W)
  have HX1 := Lib.hid hx1
  have HX0 := Lib.hid (Ext.new w (.cells (M.map bc).toArray 120))
  have HB9 := Lib.hid hb9
  have HCS := Lib.hid hcs
  clear hx1 hb9 hcs
  have HM := Lib.hid hM
  have HBT := Lib.hid H.out.mt.lt
  by_cases hs : (aget T ((x, y), l)).isSome = true
  · have hsaid := fun (W : World) (h : BookAt W p bd bt D T) (hv : BytesV W v l) => book_Said W p bd bt D T x y v l h hv hk true hs
    have htag := fun (W : World) (h : BookAt W p bd bt D T) (hv : BytesV W v l) => book_Tag W p bd bt D T x y v l h hv hk hm hpl
    rw [pm_some hs, numV_arr _ _ (by decide), arrB] at htag
    have heq : ∀ W : World, (binOp .eql 120 (.agg (M.map bc).toArray) (.agg ((numB 255 (pl T ((x, y), l))).map bc).toArray)).run Try.prog W = .ok (.bool b) W := fun W => eqlT M (numB 255 (pl T ((x, y), l))) hM (numB_length _ _) b (by rw [← hb, hs]; rfl) W
    have hct := fun (W : World) => (by kernel_rfl : (callFunc 162 (#[] ++ #[.pointer (some ⟨p, 0, none⟩), .int .i64 x, .int .i64 y, v] ++ #[])).run Try.prog W = .ok (.enter 162 #[.pointer (some ⟨p, 0, none⟩), .int .i64 x, .int .i64 y, v]) W)
    have HS := Lib.hid hsaid
    have HT := Lib.hid htag
    have HCT := Lib.hid hct
    clear hs hsaid htag hct hb hk
    go_enter Try.func163, Try.ntmps163
    go_wp2
    first | go_region_law (first
      | (refine step_go rfl 164 _ _ rfl #[.pointer (some ⟨p, 0, none⟩), .int .i64 x, .int .i64 y, v] (by simp [Act.eval, Act.put]) (HCS.out _) (HS.out _ (H.out.ext0 HX1.out) (HV.out.ext0 HX1.out)) ?_; rintro e w2 ⟨rfl, hx2⟩; have hld := run_loadArr_T (HB9.out.ext hx2 (by simp)) HM.out; refine ⟨_, rfl, ?_⟩)
      | (refine step_gog rfl 162 _ _ rfl #[.pointer (some ⟨p, 0, none⟩), .int .i64 x, .int .i64 y, v] (by simp [Act.eval, Act.put]) (HCT.out _) (HT.out _ ((H.out.ext0 HX1.out).ext0 hx2) ((HV.out.ext0 HX1.out).ext0 hx2)) ?_; rintro e w3 ⟨rfl, hbk3, hx3⟩; have hld3 := run_loadArr_T ((HB9.out.ext hx2 (by simp)).ext hx3 (by have := HBT.out; simp; omega)) HM.out; refine ⟨_, rfl, ?_⟩))
    all_goals
      have HX := Lib.hid ((((HX1.out.mono (G := [bt]) (by simp)).trans hx2 (by simp)).trans hx3 (by simp)))
      have HK := Lib.hid hbk3
      clear hx2 hx3 hbk3 hld hld3
      go_wp2
      go_ret
      exact ⟨rfl, HK.out, HX.out⟩
  · have hs' : (aget T ((x, y), l)).isSome = false := by simpa using hs
    have hsaid := fun (W : World) (h : BookAt W p bd bt D T) (hv : BytesV W v l) => book_Said W p bd bt D T x y v l h hv hk false hs'
    obtain rfl : false = b := by rw [← hb, hs']; rfl
    have HS := Lib.hid hsaid
    clear hs hs' hsaid hb
    go_enter Try.func163, Try.ntmps163
    go_wp2
    refine wp_region_later_lit (by kernel_rfl) (by kernel_rfl) ?_
    repeat (go_big_quiet_step ((go_at_call 164; exact Later.call (HS.out _ (H.out.ext0 (HX0.out.tr (Later.ext _))) (HV.out.ext0 (HX0.out.tr (Later.ext _)))))))
    refine wpQuiet_nil ?_
    rintro _ ⟨xq, rfl⟩
    have HX := Lib.hid (HX0.out.trans xq.ext (by simp))
    go_wp2
    go_ret
    exact ⟨rfl, H.out.ext0 HX.out, HX.out.mono (by simp)⟩
end Go.Proofs.Ytpgffckfbgfgcaa
/-
  Layer 5: the statements' walks.
-/
set_option maxRecDepth 100000
namespace Go.Proofs.Ytpgffckfbgfgcaa
open Go.RowKit

section
variable {P : Program} {ops : Array Oper} {rest : List Oper} {o : Oper} {a : Act} {w : World} {Q : Exit → Act → World → Prop}
/-- A guarded operation that is wanted, by its run. -/
theorem wpList_valueg (hw : Region.wanted o (yielded ops a.tmps) = true) (v : Value) (w' : World) (h : (execOp a.eval o).run P w = .ok (.value v) w') (k : wpList P ops Q rest (a.put o.dst v) w') : wpList P ops Q (o :: rest) a w :=
  wpList_step fun K hK => by
    rw [if_pos hw]
    unfold Oper.wp
    rw [h]
    exact hK _ _ k
theorem run_load_whole (ty : TypeId) (x : Operand) (ho : o.op = .load ty x) (g : Nat) (hx : a.eval x = .pointer (some ⟨g, 0, none⟩)) (t : TypeId) (cs : Array Value) (fr : Nat × Nat) (d : TypeDesc) (hg : w.heap[g]? = some (.cells cs t fr))
    (hu : P.underlying ty = some d) (hd : (match d with | .struct _ | .array _ _ => true | _ => false) = true) (hi : (P.info? ty).map (·.size) = some cs.size) : (execOp a.eval o).run P w = .ok (.value (.agg cs)) w := by
  unfold execOp
  simp only [ho, hx, Instr.loadAt, Instr.sureAddr, Sem.run_bind, Sem.run_pure, Result.andThen_ok, run_loadVar_row w g t ty cs fr d hg hu hd hi]
end
theorem bytes_blk {w : World} {g : Nat} {t : TypeId} {l : List UInt8} (h : Blk w g t (l.map bc).toArray) (hl : l.length ≤ maxLen) : BytesV w (.slice (some ⟨g, 0, none⟩) l.length l.length) l := by
  refine ⟨_, _, rfl, Nat.le_refl _, hl, by simp, fun _ => ⟨g, 0, rfl, fun j u hu => ?_⟩⟩
  rw [Nat.zero_add, Blk.cell h, List.getElem?_toArray]
  exact hu
theorem book_New' (w : World) : Calls Try.prog 17 #[] w fun e w' => ∃ p bd bt, e = .returned (.pointer (some ⟨p, 0, none⟩)) ∧ BookAt w' p bd bt [] [] ∧ Ext [] w w' ∧ w.heap.size ≤ p ∧ w.heap.size ≤ bd ∧ w.heap.size ≤ bt :=
  (book_New w).mono fun _ _ ⟨h1, h2, h3⟩ => ⟨_, _, _, h1, h2, h3, by omega, by omega, by omega⟩
def litA (w : World) : World := w.alloc (.cells #[.int .u8 97] 5 (1, 2))
theorem conv_lit {tmps : Operand → Value} {dst pos after guard ty} {w : World} {x : Operand} (hx : tmps x = .slice (some ⟨w.heap.size, 0, none⟩) 1 1) : (execOp tmps ⟨dst, .convert 34 34 x, ty, pos, after, guard⟩).run Try.prog (w.alloc (.cells #[.int .u8 97] 5)) = .ok (.value (.slice (some ⟨w.heap.size, 0, none⟩) 1 1)) (litA w) := by
  have := Lib.run_convert_bytes_const (P := Try.prog) w 34 5 #[.int .u8 97] 1 1 Try.underlying34 Try.underlying5
  simp only [execOp, hx, Sem.run_bind, this, Result.andThen_ok, Sem.run_pure]
  rfl
theorem litA_bytes (w : World) : BytesV (litA w) (.slice (some ⟨w.heap.size, 0, none⟩) 1 1) [97] := by
  refine ⟨_, 1, rfl, by simp, by decide, by simp, fun _ => ⟨w.heap.size, 0, rfl, fun j u hu => ?_⟩⟩
  rw [Nat.zero_add, cell_of_row (litA w) w.heap.size j #[.int .u8 97] 5 (1, 2) (heap_alloc_new w _)]
  simpa [bc] using hu
theorem litA_bytes' (w : World) (n : Nat) (hn : w.heap.size = n) : BytesV (litA w) (.slice (some ⟨n, 0, none⟩) 1 1) [97] := by subst hn; exact litA_bytes w
theorem litA_ext (w : World) : Ext [] w (litA w) := Ext.new w _
def fixD : List ((Nat × List UInt8) × Nat) := [((3, [97]), 1)]
def fixT : List (((Int × Int) × List UInt8) × Nat) := [(((1, 2), [97]), 1)]
theorem run_built {tmps : Operand → Value} {dst pos after guard ty} {w : World} (htm : tmps (.const (.int .u8 97)) = .int .u8 97) : (execOp tmps ⟨dst, .buildSlice 34 1 #[(0, .const (.int .u8 97))], ty, pos, after, guard⟩).run Try.prog w = .ok (.value (.slice (some ⟨w.heap.size, 0, none⟩) 1 1)) (w.alloc (.cells #[.int .u8 97] 5)) := by
  simp [execOp, htm]
  kernel_rfl
set_option maxHeartbeats 4000000 in
theorem fixed05 (w : World) : Calls Try.prog 94 #[] w fun e w' => e = .returned (.bool true) ∧ Ext [] w w' := by
  have hD : ∀ (W : World) (p bd bt : Nat) (v : Value) (h : BookAt W p bd bt [] []) (hv : BytesV W v [97]), Calls Try.prog 161 #[.pointer (some ⟨p, 0, none⟩), .int .i64 3, v] W fun e w' => e = .returned (.agg (numCells 3 1).toArray) ∧ BookAt w' p bd bt fixD [] ∧ Ext [bd] W w' :=
    fun W p bd bt v h hv => book_Digest W p bd bt [] [] 3 v [97] h hv ⟨by decide, by decide⟩ (by decide) (by decide)
  have hT : ∀ (W : World) (p bd bt : Nat) (v : Value) (h : BookAt W p bd bt fixD []) (hv : BytesV W v [97]), Calls Try.prog 162 #[.pointer (some ⟨p, 0, none⟩), .int .i64 1, .int .i64 2, v] W fun e w' => e = .returned (.agg (numCells 255 1).toArray) ∧ BookAt w' p bd bt fixD fixT ∧ Ext [bt] W w' :=
    fun W p bd bt v h hv => book_Tag W p bd bt fixD [] 1 2 v [97] h hv ⟨⟨by decide, by decide⟩, ⟨by decide, by decide⟩, by decide⟩ (by decide) (by decide)
  have hC1 : ∀ (W : World) (p bd bt : Nat) (v : Value) (h : BookAt W p bd bt fixD fixT) (hv : BytesV W v [97]), Calls Try.prog 163 #[.pointer (some ⟨p, 0, none⟩), .int .i64 1, .int .i64 2, v, .agg (numCells 255 1).toArray] W fun e w' => e = .returned (.bool true) ∧ BookAt w' p bd bt fixD fixT ∧ Ext [bt] W w' := by
    intro W p bd bt v h hv
    have := book_Check W p bd bt fixD fixT 1 2 v [97] (numB 255 1) h hv ⟨⟨by decide, by decide⟩, ⟨by decide, by decide⟩, by decide⟩ (numB_length _ _) (by decide) (by decide) true (by decide)
    rw [← numV_arr 255 1 (by decide)] at this
    exact this
  have hC2 : ∀ (W : World) (p bd bt : Nat) (v : Value) (h : BookAt W p bd bt fixD fixT) (hv : BytesV W v [97]), Calls Try.prog 163 #[.pointer (some ⟨p, 0, none⟩), .int .i64 2, .int .i64 1, v, .agg (numCells 255 1).toArray] W fun e w' => e = .returned (.bool false) ∧ BookAt w' p bd bt fixD fixT ∧ Ext [bt] W w' := by
    intro W p bd bt v h hv
    have := book_Check W p bd bt fixD fixT 2 1 v [97] (numB 255 1) h hv ⟨⟨by decide, by decide⟩, ⟨by decide, by decide⟩, by decide⟩ (numB_length _ _) (by decide) (by decide) false (by decide)
    rw [← numV_arr 255 1 (by decide)] at this
    exact this
  have hS : ∀ (W : World) (p bd bt : Nat) (h : BookAt W p bd bt fixD fixT), Calls Try.prog 164 #[.pointer (some ⟨p, 0, none⟩), .int .i64 1, .int .i64 2, .slice none 0 0] W fun e w' => e = .returned (.bool false) ∧ Ext [] W w' :=
    fun W p bd bt h => book_Said W p bd bt fixD fixT 1 2 _ [] h (BytesV.nil W) ⟨⟨by decide, by decide⟩, ⟨by decide, by decide⟩, by decide⟩ false (by decide)
  have he1 : ∀ W : World, (binOp .eql 30 (.agg (numCells 3 1).toArray) (.agg (numCells 3 1).toArray)).run Try.prog W = .ok (.bool true) W := by
    intro W
    have := eqlD (numB 3 1) (numB 3 1) (numB_length _ _) (numB_length _ _) true (by simp) W
    rw [← numV_arr 3 1 (by decide)] at this
    exact this
  have he2 : ∀ W : World, (binOp .eql 120 (.agg (numCells 255 1).toArray) (.agg (numCells 255 1).toArray)).run Try.prog W = .ok (.bool true) W := by
    intro W
    have := eqlT (numB 255 1) (numB 255 1) (numB_length _ _) (numB_length _ _) true (by simp) W
    rw [← numV_arr 255 1 (by decide)] at this
    exact this
  have hZ : ∀ (W : World) (p bd bt : Nat) (h : BookAt W p bd bt fixD fixT), Calls Try.prog 98 #[.pointer (some ⟨p, 0, none⟩)] W fun e w' => e = .returned (.tuple #[.int .i64 1, .int .i64 1]) ∧ Ext [] W w' :=
    fun W p bd bt h => book_Sizes W p bd bt fixD fixT h
  have HZ := Lib.hid hZ; clear hZ
  have HD := Lib.hid hD; have HT := Lib.hid hT; have HC1 := Lib.hid hC1; have HC2 := Lib.hid hC2; have HS := Lib.hid hS
  clear hD hT hC1 hC2 hS
  go_enter Try.func94, Try.ntmps94
  go_wp2_with (first
    | (go_at_call 17; refine (book_New' _).mono ?_; rintro e w1 ⟨p, bd, bt, rfl, hbk, x1, f1, f2, f3⟩; have K1 := Lib.hid hbk; have E1 := Lib.hid x1; have F2 := Lib.hid (show ∀ x ∈ [bd], x ∈ ([] : List Nat) ∨ w.heap.size ≤ x by simpa using f2); have F3 := Lib.hid (show ∀ x ∈ [bt], x ∈ ([] : List Nat) ∨ w.heap.size ≤ x by simpa using f3); clear hbk x1 f1 f2 f3)
    | ((with_reducible refine at_op ⟨some 8, _, _, _, _, _⟩ ?_); refine wpList_value rfl _ _ (run_built rfl) ?_)
    | ((with_reducible refine at_op ⟨some 12, _, _, _, _, _⟩ ?_); refine wpList_value rfl _ _ (run_built rfl) ?_)
    | ((with_reducible refine at_op ⟨some 38, _, _, _, _, _⟩ ?_); refine wpList_valueg rfl _ _ (run_built rfl) ?_)
    | ((with_reducible refine at_op ⟨some 45, _, _, _, _, _⟩ ?_); refine wpList_valueg rfl _ _ (run_built rfl) ?_)
    | ((with_reducible refine at_op ⟨some 9, _, _, _, _, _⟩ ?_); refine wpList_value rfl _ _ (conv_lit rfl) ?_)
    | ((with_reducible refine at_op ⟨some 13, _, _, _, _, _⟩ ?_); refine wpList_value rfl _ _ (conv_lit rfl) ?_)
    | ((with_reducible refine at_op ⟨some 39, _, _, _, _, _⟩ ?_); refine wpList_valueg rfl _ _ (conv_lit rfl) ?_)
    | ((with_reducible refine at_op ⟨some 46, _, _, _, _, _⟩ ?_); refine wpList_valueg rfl _ _ (conv_lit rfl) ?_)
    | (go_at_call 161; refine (HD.out _ p bd bt _ (K1.out.ext0 (litA_ext _)) (litA_bytes _)).mono ?_; rintro e w2 ⟨rfl, hbk, x2⟩; have K2 := Lib.hid hbk; have E2 := Lib.hid ((E1.out.tr (litA_ext _)).trans x2 F2.out); clear hbk x2)
    | ((with_reducible refine at_op ⟨some 2, _, _, _, _, _⟩ ?_); refine wpList_value rfl _ _ run_allocD ?_)
    | ((with_reducible refine at_op ⟨some 3, _, _, _, _, _⟩ ?_); refine wpList_value rfl _ _ run_allocT ?_)
    | ((with_reducible refine at_op ⟨none, .store _ (.tmp 2) (.tmp 10), _, _, _, _⟩ ?_); refine wpList_store_new rfl _ _ _ rfl w2 _ _ (numCells 3 1).toArray rfl rfl rfl (by kernel_rfl) (by kernel_rfl) (num_one _ _) ?_)
    | (go_at_call 162; refine (HT.out _ p bd bt _ (K2.out.ext0 ((Ext.new _ _).tr (litA_ext _))) (litA_bytes' _ _ (alloc_size _ _))).mono ?_; rintro e w3 ⟨rfl, hbk, x3⟩; have K3 := Lib.hid hbk; have E3 := Lib.hid (((E2.out.alloc _).tr (litA_ext _)).trans x3 F3.out); have Q3 := Lib.hid (((Blk.new w2 30 (numCells 3 1).toArray).ext (litA_ext _) (by simp)).ext x3 (by have := K2.out.mt.lt; simp; omega)); clear hbk x3)
    | ((with_reducible refine at_op ⟨none, .store _ (.tmp 3) (.tmp 14), _, _, _, _⟩ ?_); refine wpList_store_new rfl _ _ _ rfl w3 _ _ (numCells 255 1).toArray rfl rfl rfl (by kernel_rfl) (by kernel_rfl) (num_one _ _) ?_)
    | (go_at_call 98; refine (HZ.out _ p bd bt (K3.out.ext0 ((Ext.refl _).alloc _))).mono ?_; rintro e w4 ⟨rfl, x4⟩; have K4 := Lib.hid (K3.out.ext0 (((Ext.refl _).alloc _).tr x4)); have E4 := Lib.hid ((E3.out.alloc _).tr x4); have Q4 := Lib.hid ((Q3.out.alloc _).ext x4 (by simp)); have R4 := Lib.hid ((Blk.new w3 120 (numCells 255 1).toArray).ext x4 (by simp)); clear x4)
    | ((with_reducible refine at_op ⟨some 20, _, _, _, _, _⟩ ?_); refine wpList_load_row rfl _ _ rfl w2.heap.size rfl _ _ _ _ Q4.out Try.underlying30 rfl (by kernel_rfl) ?_)
    | ((with_reducible refine at_op ⟨some 21, _, _, _, _, _⟩ ?_); refine wpList_value rfl (.agg (numCells 3 1).toArray) w4 (by kernel_rfl) ?_)
    | ((with_reducible refine at_op ⟨some 24, _, _, _, _, _⟩ ?_); refine wpList_valueg rfl _ _ (run_load_whole _ _ rfl w3.heap.size rfl _ _ _ _ R4.out Try.underlying120 rfl (by kernel_rfl)) ?_)
    | ((with_reducible refine at_op ⟨some 25, _, _, _, _, _⟩ ?_); refine wpList_valueg rfl (.agg (numCells 255 1).toArray) w4 (by kernel_rfl) ?_)
    | ((with_reducible refine at_op ⟨some 40, _, _, _, _, _⟩ ?_); refine wpList_valueg rfl _ _ (run_load_whole _ _ rfl w3.heap.size rfl _ _ _ _ (R4.out.ext (litA_ext _) (by simp)) Try.underlying120 rfl (by kernel_rfl)) ?_)
    | (go_at_call 163; (with_reducible refine (HC1.out _ p bd bt _ (K4.out.ext0 (litA_ext _)) (litA_bytes _)).mono ?_); rintro e w5 ⟨rfl, hbk, x5⟩; have K5 := Lib.hid hbk; have E5 := Lib.hid ((E4.out.tr (litA_ext _)).trans x5 F3.out); have R5 := Lib.hid ((R4.out.ext (litA_ext _) (by simp)).ext x5 (by have := K3.out.mt.lt; simp; omega)); clear hbk x5)
    | ((with_reducible refine at_op ⟨some 47, _, _, _, _, _⟩ ?_); refine wpList_valueg rfl _ _ (run_load_whole _ _ rfl w3.heap.size rfl _ _ _ _ (R5.out.ext (litA_ext _) (by simp)) Try.underlying120 rfl (by kernel_rfl)) ?_)
    | (go_at_call 163; refine (HC2.out _ p bd bt _ (K5.out.ext0 (litA_ext _)) (litA_bytes _)).mono ?_; rintro e w6 ⟨rfl, hbk, x6⟩; have K6 := Lib.hid hbk; have E6 := Lib.hid ((E5.out.tr (litA_ext _)).trans x6 F3.out); clear hbk x6)
    | (go_at_call 164; refine (HS.out _ p bd bt K6.out).mono ?_; rintro e w7 ⟨rfl, x7⟩; have E7 := Lib.hid (E6.out.tr x7); clear x7))
  go_ret
  exact ⟨rfl, E7.out⟩
end Go.Proofs.Ytpgffckfbgfgcaa
/-
  Layer 5, in plain Lean: whose number is the first one's.
-/
set_option maxRecDepth 100000
namespace Go.Proofs.Ytpgffckfbgfgcaa
open Go.RowKit

section
variable {α : Type} [DecidableEq α] {m : List (α × Nat)} {k c : α}
/-- k has number 1, and no other key has it. -/
structure Inv1 (m : List (α × Nat)) (k : α) : Prop where
  one : aget m k = some 1
  only : ∀ c, aget m c = some 1 → c = k
  pos : 1 ≤ m.length
theorem Inv1.start (k : α) : Inv1 (pm [] k) k := by
  have h : pm [] k = [(k, 1)] := by simp [pm, aget, aput]
  rw [h]
  refine ⟨by simp [aget], fun c hc => ?_, by simp⟩
  unfold aget at hc
  by_cases hk : k = c
  · exact hk.symm
  · simp [hk] at hc
theorem Inv1.step (h : Inv1 m k) (c : α) : Inv1 (pm m c) k := by
  unfold pm
  split
  · exact h
  · rename_i hn
    have hck : ¬ k = c := by
      rintro rfl
      rw [h.one] at hn
      simp at hn
    refine ⟨?_, fun d hd => ?_, ?_⟩
    · rw [aget_aput, if_neg hck]; exact h.one
    · rw [aget_aput] at hd
      split at hd
      · have := h.pos
        have := Option.some.inj hd
        omega
      · exact h.only d hd
    · rw [aput_length, if_neg hn]; omega
theorem Inv1.pl (h : Inv1 m k) (c : α) : pl m c = 1 ↔ c = k := by
  unfold Proofs.Ytpgffckfbgfgcaa.pl
  have hp := h.pos
  constructor
  · intro he
    cases hc : aget m c with
    | none => rw [hc] at he; change m.length + 1 = 1 at he; omega
    | some v =>
      rw [hc] at he
      simp at he
      subst he
      exact h.only c hc
  · rintro rfl
    rw [h.one]
    rfl
theorem pm_length (m : List (α × Nat)) (c : α) : (pm m c).length ≤ m.length + 1 := by
  unfold pm
  split
  · omega
  · rename_i hn; rw [aput_length, if_neg hn]; omega
end
theorem beBytes_inj (n : Nat) : ∀ v v', beBytes v n = beBytes v' n → v % 256 ^ n = v' % 256 ^ n := by
  induction n with
  | zero => intro v v' _; simp [Nat.mod_one]
  | succ n ih =>
    intro v v' h
    simp only [beBytes] at h
    have hl : (beBytes (v / 256) n).length = (beBytes (v' / 256) n).length := by rw [beBytes_length, beBytes_length]
    obtain ⟨h1, h2⟩ := List.append_inj h hl
    have h3 := ih _ _ h1
    have h4 : v % 256 = v' % 256 := by
      have := congrArg (List.map UInt8.toNat) h2
      simpa using this
    rw [Nat.pow_succ, Nat.mul_comm, Nat.mod_mul, Nat.mod_mul, h3, h4]
theorem numB_inj {f n f' n' : Nat} (hf : f < 256) (hf' : f' < 256) (hn : n < 18446744073709551616) (hn' : n' < 18446744073709551616) (h : numB f n = numB f' n') : f = f' ∧ n = n' := by
  unfold numB at h
  rw [List.cons.injEq] at h
  obtain ⟨h1, h2⟩ := h
  have h3 := List.append_cancel_left h2
  have h4 := beBytes_inj 8 _ _ h3
  rw [Nat.mod_eq_of_lt (by omega), Nat.mod_eq_of_lt (by omega)] at h4
  refine ⟨?_, h4⟩
  have := congrArg UInt8.toNat h1
  simp at this
  omega
end Go.Proofs.Ytpgffckfbgfgcaa
/-
  The second engine: a book as a piece of memory; its calls, and a change's or a batch's digest by it.
-/
set_option maxRecDepth 100000
set_option linter.unusedSimpArgs false
set_option linter.unusedVariables false
namespace Go.Proofs.Ytpgffckfbgfgcaa.A
open Go.RowKit

abbrev DMap := List ((Nat × List UInt8) × Nat)
abbrev TMap := List (((Int × Int) × List UInt8) × Nat)
theorem map_alike {α β : Type} {w w' : World} {b : Nat} {K : α → Value} {V : β → Value} {Good : α → Prop} {m : List (α × β)} (h : MapOf w b K V Good m) (hb : w'.heap[b]? = w.heap[b]?) : MapOf w' b K V Good m := by
  obtain ⟨es, clock, h1, h2⟩ := h
  exact ⟨es, clock, hb.trans h1, h2⟩
/-- A book as a piece of memory. -/
def bkPc (p bd bt : Nat) (D : DMap) (T : TMap) : Pc where
  ids := [p, bd, bt]
  p := fun _ w => BookAt w p bd bt D T
  carry := fun K w K' w' _ hs h => ⟨(hs p (by simp)).trans h.blk, map_alike h.md (hs bd (by simp)), map_alike h.mt (hs bt (by simp)), h.ne⟩
  lt := fun K w h k hk => by
    simp only [List.mem_cons, List.not_mem_nil, or_false] at hk
    rcases hk with rfl | rfl | rfl
    · exact h.blk.lt
    · exact h.md.lt
    · exact h.mt.lt
theorem bk_ids {w : World} {p bd bt : Nat} {D D' : DMap} {T T' : TMap} (h : BookAt w p bd bt D T) : (It.mids (.pc (bkPc p bd bt D' T'))).Nodup := by
  obtain ⟨h1, h2, h3⟩ := h.ne
  simp [It.mids, bkPc]
  omega
section
variable {p bd bt : Nat} {D : DMap} {T : TMap} {k x y : Int} {l : List UInt8}
theorem bknew_s : Spec Try.prog 17 [] [] (fun z : Nat × Nat × Nat => [.pc (bkPc z.1 z.2.1 z.2.2 [] [])]) (fun z => .v (.pointer (some ⟨z.1, 0, none⟩))) := fun G w vals hm hv => by
  have hv : vals = [] := hv
  subst hv
  refine (book_New w).mono fun e w' ⟨h1, h2, h3⟩ => ?_
  have h4 := hm.new (y := .pc (bkPc (w.heap.size + 2) w.heap.size (w.heap.size + 1) [] [])) h3 (bk_ids h2) (by
    intro k hk
    simp only [It.mids, bkPc, List.mem_cons, List.not_mem_nil, or_false] at hk
    omega) rfl (fun _ => h2)
  exact ⟨(w.heap.size + 2, w.heap.size, w.heap.size + 1), _, h1, by simp [It.rids], h4.1, rfl⟩
theorem bkdigest_s (hl : l.length ≤ maxLen) (hm : D.length < 1000000) (hpl : pl D (k8 k, l) < 9223372036854775808) :
    Spec Try.prog 161 [.v (.pointer (some ⟨p, 0, none⟩)), .v (.int .i64 k), byt l] [.pc (bkPc p bd bt D T)] (fun _ : Unit => [.pc (bkPc p bd bt (pm D (k8 k, l)) T)]) (fun _ => .agg (digA (numB (k8 k) (pl D (k8 k, l))))) := fun G w vals hmm hv => by
  obtain ⟨_, _, rfl, h1, _, _, rfl, h2, v, _, rfl, h3, h4⟩ := hv
  have h1 : _ = Value.pointer (some ⟨p, 0, none⟩) := h1
  have h2 : _ = Value.int .i64 k := h2
  have h4 : _ = [] := h4
  subst h1 h2 h4
  have hb : BookAt w p bd bt D T := hmm.hold (.pc (bkPc p bd bt D T)) (by simp)
  refine (book_Digest w p bd bt D T k v l hb (rep_byt.1 h3).bytesA ⟨by show k8 k < 256; unfold k8; omega, hl⟩ (by omega) hpl).mono fun e w' ⟨e1, e2, e3⟩ => ?_
  have h5 := hmm.upd (x := .pc (bkPc p bd bt D T)) (y := .pc (bkPc p bd bt (pm D (k8 k, l)) T)) .here (e3.mono (by simp [It.mids, bkPc])) (bk_ids e2) (fun k hk => .inl hk) rfl (fun _ => e2)
  refine ⟨(), _, e1, by simp [It.rids], h5.1, ?_⟩
  rw [numV_arr _ _ (by unfold k8; omega)]
  exact ⟨_, rfl, reps_dig _⟩
end
/-- A call of a method through an interface, in a region that draws. -/
theorem SX.invokeR {P : Program} {n : Nat} {W : Wd} {ops : Array Oper} {l : Slots} {σ : Blks} {X : List Nat} {Q : Exit → Act → World → Prop} {ix : Plan} {f : FuncId} {args args' : List Abs} {σ1 : Blks} {ι : Type} {τ' : ι → Blks} {res : ι → Abs} {xs : List Operand} {ats : Array TypeId} {d : Option Nat} {ty : TypeId} {pos : String} {aft : Array Edge} {g : Option (Nat × Bool)} {i : Nat} {x : Operand} {m : String} {t : TypeId} {y : Abs}
    (hi : ops[i]? = some ⟨d, .call { callee := .invoke x m, args := xs.toArray, argTypes := ats }, ty, pos, aft, g⟩) (hs : Spec P f args' σ1 τ' res) (hX : ∀ k ∈ mids σ1, k ∈ X) (hx : look l x = some (.ifc t y)) (hca : Casts (y :: args) args')
    (hmm : ∀ (u : Value) (ρ : Operand → Value) w, (Go.invoke (.fn (.method m) #[]) (#[.iface t u] ++ (xs.map ρ).toArray)).run P w = .ok (.enter f (#[u] ++ (xs.map ρ).toArray)) w) (hv : looks l xs = some args)
    (hg : gd ops l ⟨d, .call { callee := .invoke x m, args := xs.toArray, argTypes := ats }, ty, pos, aft, g⟩ = some true) (hd : lt? d n = true)
    (k : After σ σ1 τ' fun ν z => SX P ops ix X (St n W ν (put? l d (res z))) Q) : SX P ops (.e i ix) X (St n W σ l) Q := fun a w h => by
  unfold planW wpOp
  simp only [hi, h.wanted hg, if_true]
  refine .inl ?_
  unfold Oper.wp
  obtain ⟨u, h1, h2⟩ := h.eval hx
  rw [run_invoke rfl h1 (hmm u a.eval), Oper.upon_enter]
  have : reps (mids σ ++ W.G) w (y :: args) (u :: xs.map a.eval) := ⟨u, _, rfl, h2, h.evals hv⟩
  rw [show #[u] ++ (xs.map a.eval).toArray = (u :: xs.map a.eval).toArray by simp]
  refine (hs.after h.mem (hca _ _ _ this) k).mono fun e w' ⟨z, r, ν, he, hx, _, hm, hc, hr, hk⟩ => ?_
  subst he
  exact ⟨fun w2 => Ext X w' w2, fun w2 h2 => (hx.mono (fun k hk => .inl (hX k hk))).trans h2 fun k hk => .inl hk, Ext.refl w', hk _ _ ((h.to hm hc).put hd hr)⟩
/-- A call of a method through an interface. -/
theorem SL.invokeR {P : Program} {n : Nat} {W : Wd} {ops : Array Oper} {l : Slots} {σ : Blks} {Q : Exit → Act → World → Prop} {rest : List Oper} {f : FuncId} {args args' : List Abs} {σ1 : Blks} {ι : Type} {τ' : ι → Blks} {res : ι → Abs} {xs : List Operand} {ats : Array TypeId} {d : Option Nat} {ty : TypeId} {pos : String} {aft : Array Edge} {g : Option (Nat × Bool)} {x : Operand} {m : String} {t : TypeId} {y : Abs}
    (hs : Spec P f args' σ1 τ' res) (hx : look l x = some (.ifc t y)) (hca : Casts (y :: args) args')
    (hmm : ∀ (u : Value) (ρ : Operand → Value) w, (Go.invoke (.fn (.method m) #[]) (#[.iface t u] ++ (xs.map ρ).toArray)).run P w = .ok (.enter f (#[u] ++ (xs.map ρ).toArray)) w) (hv : looks l xs = some args)
    (hg : gd ops l ⟨d, .call { callee := .invoke x m, args := xs.toArray, argTypes := ats }, ty, pos, aft, g⟩ = some true) (hd : lt? d n = true)
    (k : After σ σ1 τ' fun ν z => SL P ops rest (St n W ν (put? l d (res z))) Q) : SL P ops (⟨d, .call { callee := .invoke x m, args := xs.toArray, argTypes := ats }, ty, pos, aft, g⟩ :: rest) (St n W σ l) Q := fun a w h =>
  wpList_step fun K hK => by
    rw [if_pos (h.wanted hg)]
    unfold Oper.wp
    obtain ⟨u, h1, h2⟩ := h.eval hx
    rw [run_invoke rfl h1 (hmm u a.eval), Oper.upon_enter]
    have : reps (mids σ ++ W.G) w (y :: args) (u :: xs.map a.eval) := ⟨u, _, rfl, h2, h.evals hv⟩
    rw [show #[u] ++ (xs.map a.eval).toArray = (u :: xs.map a.eval).toArray by simp]
    refine (hs.after h.mem (hca _ _ _ this) k).mono fun e w' ⟨z, r, ν, he, _, _, hm, hc, hr, hk⟩ => ?_
    subst he
    exact hK _ _ (hk _ _ ((h.to hm hc).put hd hr))
/-- A method value, ahead of its call: its receiver is no nil pointer that would be followed. -/
theorem Val.nilMethod {P : Program} {n : Nat} {W : Wd} {σ : Blks} {l : Slots} {X : List Nat} {x : Operand} {d : Option Nat} {ty : TypeId} {pos : String} {aft : Array Edge} {g : Option (Nat × Bool)} {m : String} {t : TypeId} {u : Value}
    (hx : look l x = some (.fn (.method m) [.ifc t (.v u)] [])) (h : ∀ w, (nilAhead (P.types.size + Made.depth) t u m).run P w = .ok (some false) w) : Val P n W σ l X ⟨d, .nilCheck x, ty, pos, aft, g⟩ (.fn (.method m) [.ifc t (.v u)] []) := fun a w hs _ => by
  have hr := hs.eval hx
  obtain ⟨us, vs, h1, ⟨_, _, rfl, ⟨_, rfl, h2⟩, h3⟩, h4⟩ := hr
  have h2 : _ = u := h2
  have h3 : _ = [] := h3
  have h4 : vs = [] := h4
  subst h2 h3 h4
  refine ⟨_, hs.eval hx, fun w' _ => ?_⟩
  simp [execOp, h1, Sem.run_bind, program, Sem.run, h w', Result.andThen]
end Go.Proofs.Ytpgffckfbgfgcaa.A
/-
  The second engine: rows of one's own, read; calls that change several pieces.
-/
set_option maxRecDepth 100000
set_option linter.unusedSimpArgs false
set_option linter.unusedVariables false
namespace Go.Proofs.Ytpgffckfbgfgcaa.A
open Go.RowKit

def isOwn (σ : Blks) (e : TypeId) (s : Nat) (v : Value) (xs : List (List Abs)) : Prop := own e s v xs ∈ σ ∨ It.rdpc (ownPc e s v xs) ∈ σ
/-- The address of so many cells behind a row's first one. -/
def eptr : Value → Nat → Value
  | .slice (some ⟨b, off, _⟩) _ _, o => .pointer (some ⟨b, off + o, none⟩)
  | v, _ => v
section
variable {P : Program} {n : Nat} {W : Wd} {σ τ : Blks} {l : Slots} {X : List Nat} {x y z : Operand} {d : Option Nat} {ty t e e' : TypeId} {pos : String} {aft : Array Edge} {g : Option (Nat × Bool)} {v : Value} {k : IntKind} {A : Abs} {tab : List (Nat × TI)} {xs : List (List Abs)} {s q : Nat} {cs : List Abs}
theorem Mem.ownR {w0 w : World} {F G : List Nat} (h : Mem w0 F G σ w) (hb : isOwn σ e s v xs) : ∃ us, IsRow [] w v xs.length us ∧ repss (mids σ ++ G) w s xs us := by
  have hp : (ownPc e s v xs).p (mids σ ++ G) w := by
    rcases hb with hb | hb
    · exact h.hold _ hb
    · exact h.hold _ hb
  obtain ⟨us, h1, h2⟩ := hp
  exact ⟨us, ownsRow.isRow h1 (by simp), h2⟩
theorem Val.lenOwnR {m : Nat} (hx : look l x = some (.v v)) (hb : isOwn σ e' s v xs) (ht : P.underlying t = some (.slice e)) (hm : xs.length = m) : Val P n W σ l X ⟨d, .call { callee := .builtin .len, args := #[x], argTypes := #[t] }, ty, pos, aft, g⟩ (.v (.int .i64 m)) := Val.mk' fun a w hs _ => by
  subst hm
  obtain ⟨us, h1, _⟩ := hs.mem.ownR hb
  obtain ⟨A', c, h2, _⟩ := h1.shape
  exact ⟨_, rfl, fun w' _ => Proofs.Ytpgffckfbgfgcaa.Val.lenSl (by rw [hs.at2 hx, hs.plain hx, h2]) ht⟩
theorem own_at {w : World} {us : List Value} (hr : IsRow [] w v xs.length us) (hp : repss (mids σ ++ W.G) w s xs us) (hpos : 0 < s) (hq : xs[q]? = some cs) : ∃ b off c, v = .slice (some ⟨b, off, none⟩) xs.length c ∧ b < w.heap.size ∧ ∃ vs : List Value, vs.length = s ∧ reps (mids σ ++ W.G) w cs vs ∧ ∀ j u, vs[j]? = some u → w.cell? ⟨b, off + q * s + j, none⟩ = some u := by
  obtain ⟨vs, h3, h4, h5⟩ := repss_get hp hq
  have hlt : q < xs.length := (List.getElem?_eq_some_iff.1 hq).1
  have hlen := repss_length hp
  have hne : us ≠ [] := by
    rintro rfl
    have : xs.length * s = 0 := by simpa using hlen.symm
    rcases Nat.mul_eq_zero.1 this with h | h <;> omega
  obtain ⟨A', c, hsh, h6, h7, h8⟩ := hr.shape
  obtain ⟨b, off, n', c', hv, hb, hc⟩ := hr.cells hne
  have hv2 := hv
  rw [hsh] at hv2
  simp at hv2
  obtain ⟨rfl, rfl, rfl⟩ := hv2
  have hcell : ∀ j u, vs[j]? = some u → w.cell? ⟨b, off + q * s + j, none⟩ = some u := fun j u hu => by rw [Nat.add_assoc]; exact hc _ u (h5 j u hu)
  have hbl : b < w.heap.size := by
    cases vs with
    | nil => simp at h3; omega
    | cons u vs => exact block_lt_of_cell (hcell 0 u rfl)
  exact ⟨b, off, _, hsh, hbl, vs, h3, h4, hcell⟩
/-- The address of an element. -/
theorem Val.indexOwn (hT : TabOk P tab) {j : TI} (hu : P.underlying t = some (.slice e)) (hj : ti tab e = some j) (hx : look l x = some (.v v)) (hb : isOwn σ e' s v xs) {r : Int} (hy : look l y = some (.v (.int k r))) (hr : r = (q : Nat)) (hq : q < xs.length) (hsz : Nat.beq s j.size = true) (hpos : Nat.blt 0 s = true) :
    Val P n W σ l X ⟨d, .indexAddr t x y, ty, pos, aft, g⟩ (.v (eptr v (q * s))) := Val.mk' fun a w hs hX => by
  subst hr
  have hsz := Nat.eq_of_beq_eq_true hsz
  have hpos : 0 < s := by simpa [Nat.blt_eq] using hpos
  obtain ⟨us, h1, h2⟩ := hs.mem.ownR hb
  obtain ⟨b, off, c, hv, _⟩ := own_at h1 h2 hpos (List.getElem?_eq_getElem hq)
  refine ⟨_, rfl, fun w' _ => ?_⟩
  rw [hv]
  show Proofs.Ytpgffckfbgfgcaa.Val _ _ _ _ _ (.pointer (some ⟨b, off + q * s, none⟩))
  rw [hsz]
  exact Proofs.Ytpgffckfbgfgcaa.Val.indexSlN hT hu hj (by rw [hs.at2 hx, hs.plain hx, hv]) (by rw [hs.at2 hy, hs.plain hy]) hq
theorem Val.loadOwn1 (hT : TabOk P tab) {sz : Nat} {zs : List Value} (ht : ti tab t = some ⟨sz, .one, zs⟩) (hx : look l x = some (.v (eptr v (q * s)))) (hb : isOwn σ e' s v xs) (hpos : Nat.blt 0 s = true) (hq : xs[q]? = some cs) (hv : cs[0]? = some A) : Val P n W σ l [] ⟨d, .load t x, ty, pos, aft, g⟩ A := Val.mk' fun a w hs hX => by
  have hpos : 0 < s := by simpa [Nat.blt_eq] using hpos
  obtain ⟨us, h1, h2⟩ := hs.mem.ownR hb
  obtain ⟨b, off, c, hvv, hbl, vs, h3, h4, h5⟩ := own_at h1 h2 hpos hq
  obtain ⟨u, h6, h7⟩ := reps_get h4 hv
  refine ⟨u, h7, fun w' hw' => Proofs.Ytpgffckfbgfgcaa.Val.load1C (b := b) (o := off + q * s) hT ht (by rw [hs.at2 hx, hs.plain hx, hvv]; rfl) fun w1 e => by subst e; exact cell_later hw' (by simp) (h5 0 u h6)⟩
theorem Val.loadOwnA (hT : TabOk P tab) {i : TI} (ht : ti tab t = some i) (hk : (match i.k with | .one => false | _ => true) = true) (hx : look l x = some (.v (eptr v (q * s)))) (hb : isOwn σ e' s v xs) (hpos : Nat.blt 0 s = true) (hq : xs[q]? = some cs) (hs0 : Nat.beq s i.size = true) : Val P n W σ l [] ⟨d, .load t x, ty, pos, aft, g⟩ (.agg cs) := Val.mk' fun a w hs hX => by
  have hpos : 0 < s := by simpa [Nat.blt_eq] using hpos
  have hs0 := Nat.eq_of_beq_eq_true hs0
  obtain ⟨us, h1, h2⟩ := hs.mem.ownR hb
  obtain ⟨b, off, c, hvv, hbl, vs, h3, h4, h5⟩ := own_at h1 h2 hpos hq
  exact ⟨_, ⟨vs, rfl, h4⟩, fun w' hw' => Proofs.Ytpgffckfbgfgcaa.Val.loadAC (b := b) (o := off + q * s) hT ht hk (by rw [hs.at2 hx, hs.plain hx, hvv]; rfl) (by omega) fun w1 e j u hu => by subst e; exact cell_later hw' (by simp) (h5 j u hu)⟩
/-- It changes pieces that lie side by side. -/
theorem After.mid {ι : Type} {σ1 : Blks} {τ' : ι → Blks} {K : Blks → ι → Prop} (α : Blks) {β : Blks} (hσ : σ = α ++ (σ1 ++ β)) (hr : ∀ x ∈ σ1, x.rids = []) (k : ∀ z, K (α ++ (τ' z ++ β)) z) : After σ σ1 τ' K := by
  subst hσ
  refine ⟨α ++ β, ⟨?_, fun x hx => .inl ⟨by simp [hx], hr x hx⟩, fun x hx => ?_⟩, fun z => ⟨_, ?_, k z⟩⟩
  · simp only [mids_append]
    exact List.perm_append_comm_assoc _ _ _
  · rcases List.mem_append.1 hx with h | h <;> simp [h]
  · exact List.perm_append_comm_assoc _ _ _
end
/-- A cut, from a known state. -/
theorem SC.cutS {P : Program} {n : Nat} {W : Wd} {σ : Blks} {l : Slots} {Q : Exit → Act → World → Prop} {x y : Code} {ι : Type} (H : ι → Blks) (L : ι → Slots) (Φ : ι → Prop) (h : SC P x (St n W σ l) (Exit.then (fun a w => ∃ z, Head n W H L Φ z a w) Q)) (k : ∀ z, Φ z → SC P y (St n W (H z) (L z)) Q) : SC P (.seq x y) (St n W σ l) Q := SC.cut H L Φ h k
section
variable {P : Program} {n : Nat} {W : Wd} {ops : Array Oper} {l : Slots} {σ : Blks} {X : List Nat} {Q : Exit → Act → World → Prop} {ix : Plan} {f : FuncId} {args args' : List Abs} {σ1 : Blks} {ι : Type} {τ' : ι → Blks} {res : ι → Abs} {xs : List Operand} {ats : Array TypeId} {d : Option Nat} {ty : TypeId} {pos : String} {aft : Array Edge} {g : Option (Nat × Bool)} {i : Nat}
/-- A call; from then on only the blocks X' may be changed. -/
theorem SX.callX (X' : List Nat) (hi : ops[i]? = some ⟨d, .call { callee := .value (.func f), args := xs.toArray, argTypes := ats }, ty, pos, aft, g⟩) (hs : Spec P f args' σ1 τ' res) (hX : ∀ k ∈ mids σ1, k ∈ X) (hX' : ∀ k ∈ X', k ∈ X) (hca : Casts args args') (hb : goesIn P f = true) (hv : looks l xs = some args)
    (hg : gd ops l ⟨d, .call { callee := .value (.func f), args := xs.toArray, argTypes := ats }, ty, pos, aft, g⟩ = some true) (hd : lt? d n = true)
    (k : After σ σ1 τ' fun ν z => SX P ops ix X' (St n W ν (put? l d (res z))) Q) : SX P ops (.e i ix) X (St n W σ l) Q := fun a w h => by
  unfold planW wpOp
  simp only [hi, h.wanted hg, if_true]
  refine .inl ?_
  unfold Oper.wp
  rw [run_call hb rfl, Oper.upon_enter]
  refine (hs.after h.mem (hca _ _ _ (h.evals hv)) k).mono fun e w' ⟨z, r, ν, he, hx, _, hm, hc, hr, hk⟩ => ?_
  subst he
  exact ⟨fun w2 => Ext X' w' w2, fun w2 h2 => (hx.mono (fun k hk => .inl (hX k hk))).trans h2 fun k hk => .inl (hX' k hk), Ext.refl w', hk _ _ ((h.to hm hc).put hd hr)⟩
end
/-- 'max' of two numbers. -/
theorem Val.maxI {P : Program} {n : Nat} {W : Wd} {σ : Blks} {l : Slots} {X : List Nat} {x y : Operand} {d : Option Nat} {ty t t' : TypeId} {pos : String} {aft : Array Edge} {gq : Option (Nat × Bool)} {k : IntKind} {a b : Int} (hx : look l x = some (.v (.int k a))) (hy : look l y = some (.v (.int k b))) :
    Val P n W σ l X ⟨d, .call { callee := .builtin .max, args := #[x, y], argTypes := #[t, t'] }, ty, pos, aft, gq⟩ (.v (.int k (max a b))) := fun ac w hs _ => ⟨_, rfl, fun w' _ => by
  have hm : (if a < b then b else a) = max a b := by omega
  simp [execOp, resolve, invoke, builtin, Builtin.max_, Builtin.max2, hs.plain hx, hs.plain hy, List.foldlM, hm]⟩
end Go.Proofs.Ytpgffckfbgfgcaa.A
/-
  Messages: texts, and all.
-/
set_option maxRecDepth 100000
set_option linter.unusedSimpArgs false
set_option linter.unusedVariables false
namespace Go.Proofs.Ytpgffckfbgfgcaa.A
open Go.RowKit

section
variable {P : Program} {n : Nat} {W : Wd} {σ : Blks} {l : Slots} {X : List Nat} {x : Operand} {d : Option Nat} {ty t t' e tp : TypeId} {pos : String} {aft : Array Edge} {gq : Option (Nat × Bool)} {A : Abs} {ms : Array (String × TypeId)} {ops : Array Oper} {rest : List Oper} {Q : Exit → Act → World → Prop} {s : Nat} {xs : List (List Abs)}
/-- Is an interface's value nil? -/
theorem Val.ifaceNil (hi : P.underlying t = some (.interface ms)) (hx : look l x = some (.ifc tp A)) : Val P n W σ l X ⟨d, .binOp .eql t x (.const .nilIface) t', ty, pos, aft, gq⟩ (.v (.bool false)) := fun a w hs _ => by
  obtain ⟨u, h1, h2⟩ := hs.eval hx
  refine ⟨_, rfl, fun w' _ => ?_⟩
  have h : ∀ d : Nat, (Op.equalIn (d + 1) t (.iface tp u) .nilIface).run P w' = .ok false w' := fun d => by simp [Op.equalIn, run_underlying hi]
  have h3 : (binOp .eql t (.iface tp u) .nilIface).run P w' = .ok (.bool false) w' := by
    simp only [binOp]
    simp [Op.equal, Op.maxDepth, h 9999]
  have e : a.eval (.const .nilIface) = .nilIface := rfl
  simp [execOp, h1, e, eqGuard, h3]
theorem Val.nilNil (hi : P.underlying t = some (.interface ms)) (hx : look l x = some (.v .nilIface)) : Val P n W σ l X ⟨d, .binOp .eql t x (.const .nilIface) t', ty, pos, aft, gq⟩ (.v (.bool true)) := fun a w hs _ => by
  refine ⟨_, rfl, fun w' _ => ?_⟩
  have h : ∀ d : Nat, (Op.equalIn (d + 1) t .nilIface .nilIface).run P w' = .ok true w' := fun d => by simp [Op.equalIn, run_underlying hi]
  have h3 : (binOp .eql t .nilIface .nilIface).run P w' = .ok (.bool true) w' := by
    simp only [binOp]
    simp [Op.equal, Op.maxDepth, h 9999]
  have e : a.eval (.const .nilIface) = .nilIface := rfl
  simp [execOp, hs.plain hx, e, eqGuard, h3]
/-- Is a slice nil? Then it is empty. -/
theorem SL.eqNil (ht : P.underlying t = some (.slice e)) (hx : look l x = some (.sl s xs)) (hg : gd ops l ⟨d, .binOp .eql t x (.const (.slice none 0 0)) t', ty, pos, aft, gq⟩ = some true) (hd : lt? d n = true)
    (k : ∀ b : Bool, (b = true → xs = []) → SL P ops rest (St n W σ (put? l d (.v (.bool b)))) Q) : SL P ops (⟨d, .binOp .eql t x (.const (.slice none 0 0)) t', ty, pos, aft, gq⟩ :: rest) (St n W σ l) Q := fun a w hs =>
  wpList_step fun K hK => by
    rw [if_pos (hs.wanted hg)]
    unfold Oper.wp
    obtain ⟨us, hr, h2⟩ := hs.eval hx
    obtain ⟨A', c, h1, h3, h4, h5⟩ := hr.shape
    have e1 : a.eval (.const (.slice none 0 0)) = .slice none 0 0 := rfl
    have hrun : (binOp .eql t (.slice A' xs.length c) (.slice none 0 0)).run P w = .ok (.bool A'.isNone) w := by
      have h : ∀ d : Nat, (Op.equalIn (d + 1) t (.slice A' xs.length c) (.slice none 0 0)).run P w = .ok A'.isNone w := fun d => by cases A' <;> simp [Op.equalIn, run_underlying ht]
      simp only [binOp]
      simp [Op.equal, Op.maxDepth, h 9999]
    have hrun2 : (execOp a.eval ⟨d, .binOp .eql t x (.const (.slice none 0 0)) t', ty, pos, aft, gq⟩).run P w = .ok (.value (.bool A'.isNone)) w := by simp [execOp, h1, e1, eqGuard, hrun]
    rw [hrun2]
    refine hK _ _ (k A'.isNone (fun hb => ?_) _ _ (hs.put hd (show rep _ _ (.v (.bool A'.isNone)) _ from rfl)))
    cases A' with
    | none =>
      have := h5 rfl
      exact List.length_eq_zero_iff.1 (by omega)
    | some A' => cases hb
end
section
variable {l : List UInt8} {n : Int} {k f place who : Int} {to : List Int} {p bd bt : Nat} {Dm : DMap} {T : TMap}
theorem wrap_u8 (k : Int) : (Value.int .u8 (IntKind.u8.wrap k)) = .int .u8 (k8 k : Nat) := by
  simp [IntKind.wrap, IntKind.bits, IntKind.signed, k8]
  omega
theorem wrap_bc (k : Int) : (Value.int .u8 (IntKind.u8.wrap k)) = bc (UInt8.ofNat (k8 k)) := by
  rw [wrap_u8]
  simp [bc, k8]
  omega
theorem k8_lt (k : Int) : k8 k < 256 := by unfold k8; omega
def textV (k : Int) (l : List UInt8) : List UInt8 := UInt8.ofNat (k8 k) :: l
def allN (n : Int) : List Int := if 7 < n then [] else (List.range n.toNat).map fun i => (i : Nat)
theorem clone_s (hl : l.length ≤ 1000000) : Spec Try.prog 107 [byt l] [] (fun _ : Unit => []) (fun _ => byt l) := by
  refine spec_of Try.func107 rfl Try.ntmps107 rfl fun G w => ?_
  refine SC.seq (SC.region ?_)
  refine SL.val (Val.assign rfl) rfl rfl ?_
  refine SL.nil (SE.seq ?_)
  refine SC.seq ?_
  refine SC.seq (SC.region ?_)
  refine SL.val (Val.move rfl) rfl rfl ?_
  refine SL.eqNil Try.underlying34 rfl rfl rfl ?_
  intro b hb
  refine SL.nil (SE.seq ?_)
  refine SC.cond rfl ?_ ?_
  · intro hc4
    have hnil : l = [] := List.map_eq_nil_iff.1 (hb hc4)
    refine SC.seq (SC.region ?_)
    refine SL.val (Val.assign rfl) rfl rfl ?_
    refine SL.nil (SE.seq ?_)
    refine SC.ret ?_
    refine SE.then_ (by intro h; cases h) ?_
    subst hnil
    refine SE.finC (rs := [.tmp 2]) rfl (RV.tmp rfl RV.nil) (Casts.nils (s := 1) Casts.refl) () (by repeat first|exact s0 _|exact s1 _|apply s2|apply s3) (by simp [It.rids]) rfl
  intro hc4
  refine SC.skip ?_
  refine SE.seq ?_
  refine SC.seq (SC.region ?_)
  refine SL.eff (Eff.buildOwn tabOk Try.underlying34 rfl rfl rfl rfl rfl rfl rfl) rfl rfl ?_
  rintro _ _ ⟨r5, rfl, rfl⟩
  refine SL.val (Val.move rfl) rfl rfl ?_
  refine SL.eff (Eff.appendE (zs := bys l) tabOk [] (rfl) Try.underlying34 rfl rfl rfl rfl rfl rfl (bys_ones _) (by unfold maxLen; simp only [bys, List.length_map, List.length_cons, List.length_nil]; omega) (by rw [show Try.prog.bytesOf 5 = 1 by kernel_rfl]; simp only [List.length_map, List.length_cons, List.length_nil]; omega)) rfl rfl ?_
  rintro _ _ ⟨r7, rfl, rfl⟩
  refine SL.val (Val.assign rfl) rfl rfl ?_
  refine SL.nil (SE.seq ?_)
  refine SC.ret ?_
  refine SE.freeze [] (t := 2) rfl rfl ?_
  refine SE.fin (rs := [.tmp 2]) rfl (RV.tmp rfl RV.nil) (()) (by repeat first|exact s0 _|exact s1 _|apply s2|apply s3) (by simp [It.rids]) ?_
  exact rfl
theorem text_s (hl : l.length ≤ 1000000) : Spec Try.prog 167 [int k, byt l] [] (fun _ : Unit => []) (fun _ => byt (textV k l)) := by
  refine spec_of Try.func167 rfl Try.ntmps167 rfl fun G w => ?_
  refine SC.seq (SC.region ?_)
  refine SL.val (Val.assign rfl) rfl rfl ?_
  refine SL.nil (SE.seq ?_)
  refine SC.seq (SC.region ?_)
  refine SL.val (Val.move rfl) rfl rfl ?_
  refine SL.val (Val.to (C := .v (.int .u8 (k8 k : Nat))) (Val.convW rfl Try.underlying5 (by kernel_rfl)) (congrArg Abs.v (wrap_u8 k))) rfl rfl ?_
  refine SL.eff (Eff.buildOwn tabOk Try.underlying34 rfl rfl rfl rfl rfl rfl rfl) rfl rfl ?_
  rintro _ _ ⟨r7, rfl, rfl⟩
  refine SL.val (Val.move rfl) rfl rfl ?_
  refine SL.eff (Eff.appendE (zs := bys (textV k l)) tabOk [] (by
      show [[Abs.v (Value.int .u8 (k8 k : Nat))]] ++ bys l = _
      rw [← wrap_u8, wrap_bc]
      rfl) Try.underlying34 rfl rfl rfl rfl rfl rfl (bys_ones _) (by unfold maxLen; simp only [bys, List.length_map, List.length_cons, List.length_nil]; omega) (by rw [show Try.prog.bytesOf 5 = 1 by kernel_rfl]; simp only [List.length_map, List.length_cons, List.length_nil]; omega)) rfl rfl ?_
  rintro _ _ ⟨r9, rfl, rfl⟩
  refine SL.val (Val.assign rfl) rfl rfl ?_
  refine SL.nil (SE.seq ?_)
  refine SC.ret ?_
  refine SE.freeze [] (t := 4) rfl rfl ?_
  refine SE.fin (rs := [.tmp 4]) rfl (RV.tmp rfl RV.nil) (()) (by repeat first|exact s0 _|exact s1 _|apply s2|apply s3) (by simp [It.rids]) ?_
  exact rfl
theorem ints_all (n : Int) (h : ¬ 7 < n) : (Abs.sl 1 ((List.range n.toNat).map fun i : Nat => [int (i : Nat)])) = ints (allN n) := by
  unfold allN
  rw [if_neg h]
  show _ = Abs.sl 1 (((List.range n.toNat).map fun i : Nat => (i : Int)).map fun x => [int x])
  rw [List.map_map]
  rfl
theorem ints_none (n : Int) (h : 7 < n) : (Abs.sl 1 []) = ints (allN n) := by
  unfold allN
  rw [if_pos h]
  rfl
theorem range_snoc (k : Nat) : (List.range k).map (fun i : Nat => [int (i : Nat)]) ++ [[int (k : Nat)]] = (List.range (k + 1)).map fun i : Nat => [int (i : Nat)] := by
  rw [List.range_succ, List.map_append]
  rfl
set_option maxHeartbeats 2000000 in
theorem all_s  : Spec Try.prog 100 [int n] [] (fun _ : Unit => []) (fun _ => ints (allN n)) := by
  refine spec_of Try.func100 rfl Try.ntmps100 rfl fun G w => ?_
  refine SC.seq (SC.region ?_)
  refine SL.val (Val.assign rfl) rfl rfl ?_
  refine SL.nil (SE.seq ?_)
  refine SC.seq ?_
  refine SC.seq (SC.region ?_)
  refine SL.val (Val.move rfl) rfl rfl ?_
  refine SL.val (Val.gtI rfl rfl) rfl rfl ?_
  refine SL.nil (SE.seq ?_)
  refine SC.condP rfl ?_ ?_
  · intro hc6
    refine SC.seq (SC.region ?_)
    refine SL.val (Val.assign rfl) rfl rfl ?_
    refine SL.nil (SE.seq ?_)
    refine SC.ret ?_
    refine SE.then_ (by intro h; cases h) ?_
    refine SE.finC (rs := [.tmp 2]) rfl (RV.tmp rfl RV.nil) (Casts.nils (s := 1) Casts.refl) () (by repeat first|exact s0 _|exact s1 _|apply s2|apply s3) (by simp [It.rids]) (ints_none n (by omega))
  intro hc6
  refine SC.skip ?_
  refine SE.seq ?_
  refine SC.seq (SC.region ?_)
  refine SL.val (Val.assign rfl) rfl rfl ?_
  refine SL.nil (SE.seq ?_)
  refine SC.seq ?_
  refine SC.seq (SC.region ?_)
  refine SL.val (Val.move rfl) rfl rfl ?_
  refine SL.val (Val.maxI rfl rfl) rfl rfl ?_
  refine SL.val (Val.move rfl) rfl rfl ?_
  refine SL.nil (SE.seq ?_)
  refine SC.block ?_
  refine SC.own0 3 1 ?_
  refine SC.loop (ι := Nat × Value) (fun z => [own 3 1 z.2 ((List.range z.1).map fun i : Nat => [int (i : Nat)])]) (fun z => [(3, .v z.2), (8, int (max n 0)), (9, int (z.1 : Nat))]) (fun z => z.1 ≤ n.toNat) (fun z => n.toNat - z.1) (0, .slice none 0 0) (Nat.zero_le _) (by exact ⟨rfl, rfl, rfl, trivial⟩) (by repeat first|exact s0 _|exact s1 _|apply s2|apply s3) ?_
  intro z hz
  refine SC.seq (SC.region ?_)
  refine SL.val (Val.ltI rfl rfl) rfl rfl ?_
  refine SL.nil (SE.seq ?_)
  refine SC.seq ?_
  refine SC.condP rfl ?_ ?_
  rotate_left
  · intro hc10
    refine SC.exit ?_
    refine SE.then_ (by intro h; cases h) ?_
    refine SE.then_ (by intro h; cases h) ?_
    refine SE.exit ?_
    refine SE.seq ?_
    refine SC.seq (SC.region ?_)
    refine SL.val (Val.move rfl) rfl rfl ?_
    refine SL.val (Val.assign rfl) rfl rfl ?_
    refine SL.nil (SE.seq ?_)
    refine SC.ret ?_
    have hz1 : z.1 = n.toNat := by omega
    refine SE.freeze [] (t := 2) rfl rfl ?_
    rw [hz1]
    refine SE.fin (rs := [.tmp 2]) rfl (RV.tmp rfl RV.nil) (()) (by repeat first|exact s0 _|exact s1 _|apply s2|apply s3) (by simp [It.rids]) ?_
    exact ints_all n (by omega)
  intro hc10
  refine SC.skip ?_
  refine SE.seq ?_
  refine SC.seq ?_
  refine SC.block ?_
  refine SC.seq (SC.region ?_)
  refine SL.val (Val.move rfl) rfl rfl ?_
  refine SL.val (Val.assign rfl) rfl rfl ?_
  refine SL.nil (SE.seq ?_)
  refine SC.region ?_
  refine SL.val (Val.move rfl) rfl rfl ?_
  refine SL.val (Val.move rfl) rfl rfl ?_
  refine SL.eff (Eff.buildSl tabOk Try.underlying81 rfl rfl rfl rfl rfl rfl rfl) rfl rfl ?_
  rintro _ _ ⟨rfl, rfl⟩
  refine SL.eff (Eff.appendE (zs := ((List.range (z.1 + 1)).map fun i : Nat => [int (i : Nat)])) tabOk [] (range_snoc z.1) Try.underlying81 rfl rfl rfl rfl rfl rfl (by intro c hc; rw [List.mem_singleton] at hc; subst hc; rfl) (by unfold maxLen; simp only [List.length_map, List.length_range, List.length_cons, List.length_nil]; omega) (by rw [show Try.prog.bytesOf 3 = 8 by kernel_rfl]; simp only [List.length_map, List.length_range, List.length_cons, List.length_nil]; omega)) rfl rfl ?_
  rintro _ _ ⟨r15, rfl, rfl⟩
  refine SL.val (Val.assign rfl) rfl rfl ?_
  refine SL.nil ?_
  refine SE.inBlock ?_
  refine SE.seq ?_
  refine SC.region ?_
  first
    | refine SL.val (Val.addI rfl rfl (by simp only [InR, lo, hi]; omega)) rfl rfl ?_
    | refine SL.val (Val.addW rfl rfl) rfl rfl ?_
  refine SL.val (Val.move rfl) rfl rfl ?_
  refine SL.nil ?_
  refine SE.round (z.1 + 1, r15) (by first | omega | (dsimp only; omega)) (by dsimp only; omega) (by exact ⟨rfl, rfl, rfl, trivial⟩) (by repeat first|exact s0 _|exact s1 _|apply s2|apply s3)
set_option maxHeartbeats 2000000 in
theorem rall_s  : Spec Try.prog 101 [int n] [] (fun _ : Unit => []) (fun _ => ints (allN n)) := by
  refine spec_of Try.func101 rfl Try.ntmps101 rfl fun G w => ?_
  refine SC.seq (SC.region ?_)
  refine SL.val (Val.assign rfl) rfl rfl ?_
  refine SL.nil (SE.seq ?_)
  refine SC.seq (SC.region ?_)
  refine SL.val (Val.assign rfl) rfl rfl ?_
  refine SL.nil (SE.seq ?_)
  refine SC.seq ?_
  refine SC.seq (SC.region ?_)
  refine SL.val (Val.assign rfl) rfl rfl ?_
  refine SL.nil (SE.seq ?_)
  refine SC.block ?_
  refine SC.own0 3 1 ?_
  refine SC.loop (ι := Nat × Value) (fun z => [own 3 1 z.2 ((List.range z.1).map fun i : Nat => [int (i : Nat)])]) (fun z => [(0, int n), (3, .v z.2), (4, int (z.1 : Nat))]) (fun z => z.1 ≤ n.toNat ∧ (7 < n → z.1 = 0)) (fun z => n.toNat - z.1) (0, .slice none 0 0) (⟨Nat.zero_le _, fun _ => rfl⟩) (by exact ⟨rfl, rfl, rfl, trivial⟩) (by repeat first|exact s0 _|exact s1 _|apply s2|apply s3) ?_
  intro z hz
  refine SC.seq ?_
  refine SC.seq (SC.region ?_)
  refine SL.val (Val.move rfl) rfl rfl ?_
  refine SL.val (Val.move rfl) rfl rfl ?_
  refine SL.val (Val.ltI rfl rfl) rfl rfl ?_
  refine SL.val (Val.move rfl) rfl rfl ?_
  refine SL.bothP (t := 8) rfl ?_ ?_
  rotate_left
  · intro hc8
    iterate 2 refine SL.skip rfl rfl ?_
    refine SL.val (Val.pickF rfl rfl) rfl rfl ?_
    refine SL.nil (SE.seq ?_)
    refine SC.condF rfl ?_
    refine SC.exit ?_
    refine SE.then_ (by intro h; cases h) ?_
    refine SE.then_ (by intro h; cases h) ?_
    refine SE.exit ?_
    refine SE.seq ?_
    refine SC.seq (SC.region ?_)
    refine SL.val (Val.move rfl) rfl rfl ?_
    refine SL.val (Val.assign rfl) rfl rfl ?_
    refine SL.nil (SE.seq ?_)
    refine SC.ret ?_
    refine SE.freeze [] (t := 2) rfl rfl ?_
    refine SE.fin (rs := [.tmp 2]) rfl (RV.tmp rfl RV.nil) (()) (by repeat first|exact s0 _|exact s1 _|apply s2|apply s3) (by simp [It.rids]) ?_
    by_cases h7 : 7 < n
    · rw [show z.1 = 0 by omega]
      exact ints_none n h7
    · rw [show z.1 = n.toNat by omega]
      exact ints_all n h7
  intro hc8
  refine SL.val (Val.move rfl) rfl rfl ?_
  refine SL.val (Val.leI rfl rfl) rfl rfl ?_
  refine SL.val (Val.pickT rfl rfl) rfl rfl ?_
  refine SL.nil (SE.seq ?_)
  refine SC.condP rfl ?_ ?_
  rotate_left
  · intro hc11
    refine SC.exit ?_
    refine SE.then_ (by intro h; cases h) ?_
    refine SE.then_ (by intro h; cases h) ?_
    refine SE.exit ?_
    refine SE.seq ?_
    refine SC.seq (SC.region ?_)
    refine SL.val (Val.move rfl) rfl rfl ?_
    refine SL.val (Val.assign rfl) rfl rfl ?_
    refine SL.nil (SE.seq ?_)
    refine SC.ret ?_
    refine SE.freeze [] (t := 2) rfl rfl ?_
    refine SE.fin (rs := [.tmp 2]) rfl (RV.tmp rfl RV.nil) (()) (by repeat first|exact s0 _|exact s1 _|apply s2|apply s3) (by simp [It.rids]) ?_
    by_cases h7 : 7 < n
    · rw [show z.1 = 0 by omega]
      exact ints_none n h7
    · rw [show z.1 = n.toNat by omega]
      exact ints_all n h7
  intro hc11
  refine SC.skip ?_
  refine SE.seq ?_
  refine SC.seq ?_
  refine SC.block ?_
  refine SC.region ?_
  refine SL.val (Val.move rfl) rfl rfl ?_
  refine SL.val (Val.move rfl) rfl rfl ?_
  refine SL.eff (Eff.buildSl tabOk Try.underlying81 rfl rfl rfl rfl rfl rfl rfl) rfl rfl ?_
  rintro _ _ ⟨rfl, rfl⟩
  refine SL.eff (Eff.appendE (zs := ((List.range (z.1 + 1)).map fun i : Nat => [int (i : Nat)])) tabOk [] (range_snoc z.1) Try.underlying81 rfl rfl rfl rfl rfl rfl (by intro c hc; rw [List.mem_singleton] at hc; subst hc; rfl) (by unfold maxLen; simp only [List.length_map, List.length_range, List.length_cons, List.length_nil]; omega) (by rw [show Try.prog.bytesOf 3 = 8 by kernel_rfl]; simp only [List.length_map, List.length_range, List.length_cons, List.length_nil]; omega)) rfl rfl ?_
  rintro _ _ ⟨r17, rfl, rfl⟩
  refine SL.val (Val.assign rfl) rfl rfl ?_
  refine SL.nil ?_
  refine SE.inBlock ?_
  refine SE.seq ?_
  refine SC.region ?_
  refine SL.val (Val.move rfl) rfl rfl ?_
  first
    | refine SL.val (Val.addI rfl rfl (by simp only [InR, lo, hi]; omega)) rfl rfl ?_
    | refine SL.val (Val.addW rfl rfl) rfl rfl ?_
  refine SL.val (Val.assign rfl) rfl rfl ?_
  refine SL.nil ?_
  refine SE.round (z.1 + 1, r17) (by first | omega | (dsimp only; omega)) (⟨by dsimp only; omega, by dsimp only; omega⟩) (by exact ⟨rfl, rfl, rfl, trivial⟩) (by repeat first|exact s0 _|exact s1 _|apply s2|apply s3)
end
end Go.Proofs.Ytpgffckfbgfgcaa.A
