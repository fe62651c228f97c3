/-
  Packed out of the texts: Maps, A9, A15, Y0, A13, Book, BookDo, BookSee, Arr32, BookCheck, BookLaw, BookInv, StrK, Cry, Rds.
-/
import Derived.Test.YtmkijjmbiiiicaaL06
import Derived.Maps.Keyed
import Derived.Maps.OwnSet
import Derived.DeepKeys4
import Derived.Laws.BytesArg
import Derived.Laws.CopyOwn
import Derived.DataShut
import Derived.Lib.SlBytesConst
/-
  Maps of the program's own, as lists of pairs: look up, store, delete, length.
-/
set_option maxRecDepth 100000
namespace Go.Proofs.Ytmkijjmbiiiicaa
open Go.RowKit

section
variable {α β : Type} [DecidableEq α]
def aget (m : List (α × β)) (a : α) : Option β := (m.find? fun p => decide (p.1 = a)).map (·.2)
def aput (m : List (α × β)) (a : α) (b : β) : List (α × β) := if (aget m a).isSome then m.map fun p => if p.1 = a then (a, b) else p else m ++ [(a, b)]
def adel (m : List (α × β)) (a : α) : List (α × β) := m.filter fun p => decide (p.1 ≠ a)
theorem aget_nil (a : α) : aget ([] : List (α × β)) a = none := rfl
theorem aget_isSome (m : List (α × β)) (a : α) : (aget m a).isSome = true ↔ a ∈ m.map (·.1) := by
  unfold aget
  rw [Option.isSome_map, List.find?_isSome]
  simp
theorem aget_none (m : List (α × β)) (a : α) : aget m a = none ↔ a ∉ m.map (·.1) := by
  rw [← aget_isSome]
  cases aget m a <;> simp
theorem aput_keys (m : List (α × β)) (a : α) (b : β) : (aput m a b).map (·.1) = if a ∈ m.map (·.1) then m.map (·.1) else m.map (·.1) ++ [a] := by
  unfold aput
  by_cases h : a ∈ m.map (·.1)
  · rw [if_pos ((aget_isSome m a).2 h), if_pos h, List.map_map]
    apply List.map_congr_left
    intro p _
    simp only [Function.comp]
    split
    · rename_i h1; exact h1.symm
    · rfl
  · rw [if_neg (fun hc => h ((aget_isSome m a).1 hc)), if_neg h]
    simp
theorem aput_nodup {m : List (α × β)} (hm : (m.map (·.1)).Nodup) (a : α) (b : β) : ((aput m a b).map (·.1)).Nodup := by
  rw [aput_keys]
  split
  · exact hm
  · rename_i h
    rw [List.nodup_append]
    exact ⟨hm, by simp, by intro x hx y hy; simp at hy; subst hy; rintro rfl; exact h hx⟩
theorem aget_aput (m : List (α × β)) (a c : α) (b : β) : aget (aput m a b) c = if c = a then some b else aget m c := by
  unfold aput
  by_cases h : (aget m a).isSome = true
  · rw [if_pos h]
    have hmap : ∀ (m : List (α × β)), ((m.map fun p => if p.1 = a then (a, b) else p).find? fun p => decide (p.1 = c)).map (·.2) = if c = a then (if a ∈ m.map (·.1) then some b else none) else aget m c := by
      intro m
      induction m with
      | nil => simp [aget]
      | cons p m ih =>
        simp only [List.map_cons, List.find?_cons]
        by_cases hp : p.1 = a
        · rw [if_pos hp]
          by_cases hc : c = a
          · subst hc; simp [hp]
          · have hac : ¬ a = c := fun h => hc h.symm
            simp only [hac, decide_false, if_neg hc]
            rw [ih, if_neg hc]
            unfold aget
            simp [hp, hac]
        · rw [if_neg hp]
          by_cases hpc : p.1 = c
          · have hca : ¬ c = a := fun h => hp (hpc.trans h)
            simp [hpc, hca, aget]
          · simp only [hpc, decide_false]
            rw [ih]
            by_cases hca : c = a
            · subst hca
              rw [if_pos rfl, if_pos rfl]
              have : (c ∈ p.1 :: m.map (·.1)) ↔ c ∈ m.map (·.1) := by
                simp only [List.mem_cons]
                constructor
                · rintro (h1 | h1)
                  · exact absurd h1.symm hp
                  · exact h1
                · exact Or.inr
              by_cases hin : c ∈ m.map (·.1)
              · rw [if_pos hin, if_pos (this.2 hin)]
              · rw [if_neg hin, if_neg (fun hh => hin (this.1 hh))]
            · rw [if_neg hca, if_neg hca]
              unfold aget
              simp [hpc]
    have h0 := hmap m
    rw [if_pos ((aget_isSome m a).1 h)] at h0
    exact h0
  · rw [if_neg h]
    unfold aget
    rw [List.find?_append]
    by_cases hc : c = a
    · subst hc
      have hn : aget m c = none := by cases hg : aget m c <;> simp_all
      have hf : (m.find? fun p => decide (p.1 = c)) = none := by
        unfold aget at hn
        simpa using hn
      rw [hf]
      simp
    · have hac : ¬ a = c := fun h => hc h.symm
      simp [hac, hc]
theorem aput_length (m : List (α × β)) (a : α) (b : β) : (aput m a b).length = if (aget m a).isSome then m.length else m.length + 1 := by
  unfold aput
  split <;> simp
theorem adel_nodup {m : List (α × β)} (hm : (m.map (·.1)).Nodup) (a : α) : ((adel m a).map (·.1)).Nodup :=
  hm.sublist ((List.filter_sublist).map _)
theorem aget_adel (m : List (α × β)) (a c : α) : aget (adel m a) c = if c = a then none else aget m c := by
  unfold aget adel
  induction m with
  | nil => simp
  | cons p m ih =>
    rw [List.filter_cons]
    by_cases hp : p.1 = a
    · simp only [hp, ne_eq, not_true_eq_false, decide_false, Bool.false_eq_true, if_false]
      rw [ih]
      by_cases hc : c = a
      · simp [hc]
      · rw [if_neg hc, if_neg hc]
        have : ¬ p.1 = c := fun h => hc (h.symm.trans hp)
        simp [this]
    · simp only [hp, ne_eq, not_false_eq_true, decide_true, if_true]
      rw [List.find?_cons, List.find?_cons]
      by_cases hpc : p.1 = c
      · have : ¬ c = a := fun h => hp (hpc.trans h)
        simp [hpc, this]
      · simp only [hpc, decide_false]
        exact ih
end

/-- What the laws ask of a key type and of how keys stand in it. -/
structure KeyFit {α : Type} (P : Program) (k : TypeId) (K : α → Value) (Good : α → Prop) : Prop where
  keyed : Maps.Keyed P k
  lit : ∀ a, Good a → ∃ l, keyOf P k (K a) = some l
  inj : ∀ a b, Good a → Good b → K a = K b → a = b

/-- Block b is a map that holds the pairs m. -/
def MapOf {α β : Type} (w : World) (b : Nat) (K : α → Value) (V : β → Value) (Good : α → Prop) (m : List (α × β)) : Prop :=
  ∃ es clock, w.heap[b]? = some (.map es clock) ∧ es.toList.map (fun e => (e.key, e.val)) = m.map (fun p => (K p.1, V p.2)) ∧ (m.map (·.1)).Nodup ∧ (∀ p ∈ m, Good p.1) ∧
    (∀ e ∈ es.toList, e.born < clock) ∧ (es.toList.map (·.born)).Nodup

section
variable {α β : Type} {P : Program} {w w' : World} {b : Nat} {k e t : TypeId} {K : α → Value} {V : β → Value} {Good : α → Prop} {m : List (α × β)}

theorem MapOf.lt (h : MapOf w b K V Good m) : b < w.heap.size := by
  obtain ⟨es, clock, hb, _⟩ := h
  rcases Nat.lt_or_ge b w.heap.size with hlt | hge
  · exact hlt
  · rw [Array.getElem?_eq_none hge] at hb; cases hb
theorem MapOf.ext {F : List Nat} (h : MapOf w b K V Good m) (hx : Ext F w w') (hb : b ∉ F) : MapOf w' b K V Good m := by
  have hl := h.lt
  obtain ⟨es, clock, h1, h2⟩ := h
  exact ⟨es, clock, (hx.block b hl hb).trans h1, h2⟩
theorem MapOf.new (w : World) : MapOf (w.alloc (.map #[] 0)) w.heap.size K V Good [] :=
  ⟨#[], 0, heap_alloc_new w _, rfl, by simp, by simp, by simp, by simp⟩
theorem MapOf.alloc (h : MapOf w b K V Good m) (o : Obj) : MapOf (w.alloc o) b K V Good m := h.ext ((Ext.refl (F := []) _).alloc _) (by simp)
theorem MapOf.nodup (h : MapOf w b K V Good m) : (m.map (·.1)).Nodup := by obtain ⟨_, _, _, _, h, _⟩ := h; exact h
theorem MapOf.good (h : MapOf w b K V Good m) : ∀ p ∈ m, Good p.1 := by obtain ⟨_, _, _, _, _, h, _⟩ := h; exact h

theorem map_entry {es : List MapEntry} (he : es.map (fun e => (e.key, e.val)) = m.map (fun p => (K p.1, V p.2))) {j : Nat} {x : MapEntry} (hx : es[j]? = some x) : ∃ p, m[j]? = some p ∧ x.key = K p.1 ∧ x.val = V p.2 := by
  have h1 : (es.map (fun e => (e.key, e.val)))[j]? = some (x.key, x.val) := by rw [List.getElem?_map, hx]; rfl
  rw [he, List.getElem?_map] at h1
  cases hm : m[j]? with
  | none => rw [hm] at h1; cases h1
  | some p =>
    rw [hm] at h1
    simp at h1
    exact ⟨p, rfl, h1.1.symm, h1.2.symm⟩

variable [DecidableEq α]
/-- Where the key is found. -/
theorem find_run (kf : KeyFit P k K Good) {es : List MapEntry} (he : es.map (fun e => (e.key, e.val)) = m.map (fun p => (K p.1, V p.2))) (hg : ∀ p ∈ m, Good p.1) (hnd : (m.map (·.1)).Nodup) {a : α} (ha : Good a) (w : World) :
    (aget m a = none ∧ (Instr.findKey k (K a) es).run P w = .ok none w) ∨
    ∃ j v, m[j]? = some (a, v) ∧ aget m a = some v ∧ (Instr.findKey k (K a) es).run P w = .ok (some (j, V v)) w := by
  obtain ⟨l, hl⟩ := kf.lit a ha
  have hall : ∀ x ∈ es, ∃ l, keyOf P k x.key = some l := by
    intro x hx
    obtain ⟨j, hj⟩ := List.getElem?_of_mem hx
    obtain ⟨p, hp, hk, _⟩ := map_entry he hj
    rw [hk]
    exact kf.lit _ (hg p (List.mem_of_getElem? hp))
  rcases kf.keyed.find w hl es hall with ⟨hrun, hne⟩ | ⟨j, x, hrun, hj, hk⟩
  · refine .inl ⟨?_, hrun⟩
    rw [aget_none]
    intro hin
    simp only [List.mem_map] at hin
    obtain ⟨p, hp, rfl⟩ := hin
    obtain ⟨j, hj⟩ := List.getElem?_of_mem hp
    have h1 : (m.map (fun p => (K p.1, V p.2)))[j]? = some (K p.1, V p.2) := by rw [List.getElem?_map, hj]; rfl
    rw [← he, List.getElem?_map] at h1
    cases hx : es[j]? with
    | none => rw [hx] at h1; cases h1
    | some x =>
      rw [hx] at h1
      simp at h1
      exact hne x (List.mem_of_getElem? hx) h1.1
  · obtain ⟨p, hp, hk2, hv⟩ := map_entry he hj
    have hpa : p.1 = a := kf.inj _ _ (hg p (List.mem_of_getElem? hp)) ha (hk2.symm.trans hk)
    obtain ⟨pa, pv⟩ := p
    dsimp only at hpa hv
    subst hpa
    refine .inr ⟨j, pv, hp, ?_, by rw [← hv]; exact hrun⟩
    unfold aget
    have hfind : m.find? (fun p => decide (p.1 = pa)) = some (pa, pv) := by
      rw [List.find?_eq_some_iff_append]
      refine ⟨by simp, ?_⟩
      have hjl := (List.getElem?_eq_some_iff.1 hp)
      obtain ⟨hjl, hje⟩ := hjl
      refine ⟨m.take j, m.drop (j + 1), ?_, ?_⟩
      · rw [← hje, List.getElem_cons_drop, List.take_append_drop]
      · intro q hq
        simp only [Bool.not_eq_true', decide_eq_false_iff_not]
        intro hqa
        obtain ⟨i, hi⟩ := List.getElem?_of_mem hq
        rw [List.getElem?_take] at hi
        split at hi
        · rename_i hij
          have h1 : (m.map (·.1))[i]? = some pa := by rw [List.getElem?_map, hi]; simp [hqa]
          have h2 : (m.map (·.1))[j]? = some pa := by rw [List.getElem?_map, hp]; rfl
          have hil : i < (m.map (·.1)).length := (List.getElem?_eq_some_iff.1 h1).1
          have := (List.getElem?_inj hil hnd).1 (h1.trans h2.symm)
          omega
        · cases hi
    rw [hfind]
    rfl

theorem MapOf.look_run (h : MapOf w b K V Good m) (kf : KeyFit P k K Good) (ht : P.underlying t = some (.map k e)) {z : Value} (hz : (zeroValue e).run P w = .ok z w) {a : α} (ha : Good a) (c : Bool) :
    (Instr.lookup t (.map (some b)) (K a) c).run P w = .ok (if c then .tuple #[((aget m a).map V).getD z, .bool (aget m a).isSome] else ((aget m a).map V).getD z) w := by
  obtain ⟨es, clock, hb, he, hnd, hg, _⟩ := h
  obtain ⟨l, hl⟩ := kf.lit a ha
  have hgo : (getObj b).run P w = .ok (.map es clock) w := by simp [getObj, Sem.run, hb]
  simp only [Instr.lookup, Sem.run_bind, run_underlying ht, Result.andThen_ok, Sem.run_pure, hgo, kf.keyed.check w es.isEmpty hl]
  rcases find_run kf he hg hnd ha w with ⟨h1, h2⟩ | ⟨j, v, _, h1, h2⟩
  · rw [h1, h2]
    cases c <;> simp [hz]
  · rw [h1, h2]
    cases c <;> simp

theorem Ext.setMap {b : Nat} {es es' : Array MapEntry} {clock clock' : Nat} (_hb : w.heap[b]? = some (.map es clock)) : Ext [b] w { w with heap := w.heap.setIfInBounds b (.map es' clock') } :=
  ⟨rfl, rfl, rfl, by simp, fun k _ hn => by
    have : b ≠ k := fun h => hn (by simp [h])
    simp [this]⟩
theorem heap_setMap {b : Nat} {es es' : Array MapEntry} {clock clock' : Nat} (hb : w.heap[b]? = some (.map es clock)) : ({ w with heap := w.heap.setIfInBounds b (.map es' clock') } : World).heap[b]? = some (.map es' clock') := by
  have hlt : b < w.heap.size := by
    rcases Nat.lt_or_ge b w.heap.size with hlt | hge
    · exact hlt
    · rw [Array.getElem?_eq_none hge] at hb; cases hb
  simp [hlt]
theorem run_getMap {b : Nat} {es : Array MapEntry} {clock : Nat} (hb : w.heap[b]? = some (.map es clock)) : (getObj b).run P w = .ok (.map es clock) w := by simp [getObj, Sem.run, hb]
theorem run_setMap {b : Nat} {es es' : Array MapEntry} {clock clock' : Nat} (hb : w.heap[b]? = some (.map es clock)) : (setObj b (.map es' clock')).run P w = .ok () { w with heap := w.heap.setIfInBounds b (.map es' clock') } := by simp [setObj, Sem.run, hb]

theorem aput_at {m : List (α × β)} (hnd : (m.map (·.1)).Nodup) {j : Nat} {a : α} {v v' : β} (hj : m[j]? = some (a, v)) : aput m a v' = m.set j (a, v') := by
  have hin : (aget m a).isSome = true := (aget_isSome m a).2 (List.mem_map.2 ⟨_, List.mem_of_getElem? hj, rfl⟩)
  unfold aput
  rw [if_pos hin]
  apply List.ext_getElem?
  intro i
  rw [List.getElem?_map, List.getElem?_set]
  have hjl : j < m.length := (List.getElem?_eq_some_iff.1 hj).1
  by_cases hij : j = i
  · subst hij
    rw [if_pos rfl, if_pos hjl, hj]
    simp
  · rw [if_neg hij]
    cases hi : m[i]? with
    | none => rfl
    | some p =>
      simp only [Option.map_some, Option.some.injEq]
      rw [if_neg]
      intro hpa
      have h1 : (m.map (·.1))[i]? = some a := by rw [List.getElem?_map, hi]; simp [hpa]
      have h2 : (m.map (·.1))[j]? = some a := by rw [List.getElem?_map, hj]; rfl
      have hil : i < (m.map (·.1)).length := (List.getElem?_eq_some_iff.1 h1).1
      exact hij ((List.getElem?_inj hil hnd).1 (h1.trans h2.symm)).symm

theorem MapOf.put_run (h : MapOf w b K V Good m) (kf : KeyFit P k K Good) (ht : P.underlying t = some (.map k e)) {a : α} (ha : Good a) (v : β) :
    ∃ w', (Instr.mapUpdate t (.map (some b)) (K a) (V v)).run P w = .ok () w' ∧ MapOf w' b K V Good (aput m a v) ∧ Ext [b] w w' := by
  obtain ⟨es, clock, hb, he, hnd, hg, hborn, hbnd⟩ := h
  obtain ⟨l, hl⟩ := kf.lit a ha
  rcases find_run kf he hg hnd ha w with ⟨h1, h2⟩ | ⟨j, u, hj, h1, h2⟩
  · refine ⟨{ w with heap := w.heap.setIfInBounds b (.map (es.push { key := K a, val := V v, born := clock }) (clock + 1)) }, ?_, ⟨_, _, heap_setMap hb, ?_, aput_nodup hnd a v, ?_, ?_, ?_⟩, Ext.setMap hb⟩
    · simp only [Instr.mapUpdate, Sem.run_bind, run_underlying ht, Result.andThen_ok, run_getMap hb, kf.keyed.check w false hl, h2, run_setMap hb]
    · rw [Array.toList_push, List.map_append, he]
      unfold aput
      rw [if_neg (by rw [h1]; simp)]
      simp
    · intro p hp
      unfold aput at hp
      rw [if_neg (by rw [h1]; simp)] at hp
      simp only [List.mem_append, List.mem_singleton] at hp
      rcases hp with hp | rfl
      · exact hg p hp
      · exact ha
    · intro x hx
      rw [Array.toList_push, List.mem_append, List.mem_singleton] at hx
      rcases hx with hx | rfl
      · have := hborn x hx; omega
      · exact Nat.lt_succ_self _
    · rw [Array.toList_push, List.map_append, List.nodup_append]
      refine ⟨hbnd, by simp, ?_⟩
      intro x hx y hy
      simp at hy
      subst hy
      simp only [List.mem_map] at hx
      obtain ⟨z, hz, rfl⟩ := hx
      have := hborn z hz
      omega
  · have hjl : j < es.toList.length := by
      have h3 := congrArg List.length he
      simp only [List.length_map] at h3
      rw [h3]
      exact (List.getElem?_eq_some_iff.1 hj).1
    have hk : (es[j]?).map (·.key) = some (K a) := by
      rw [← Array.getElem?_toList]
      have h3 : (es.toList.map (fun e => (e.key, e.val)))[j]? = some (K a, V u) := by rw [he, List.getElem?_map, hj]; rfl
      rw [List.getElem?_map] at h3
      cases hx : es.toList[j]? with
      | none => rw [hx] at h3; cases h3
      | some x => rw [hx] at h3; simp at h3; simp [h3.1]
    have hmod : (es.modify j fun e => { e with key := K a, val := V v }).toList = es.toList.modify j fun e => { e with key := K a, val := V v } := by simp
    refine ⟨{ w with heap := w.heap.setIfInBounds b (.map (es.modify j fun e => { e with key := K a, val := V v }) clock) }, ?_, ⟨_, _, heap_setMap hb, ?_, aput_nodup hnd a v, ?_, ?_, ?_⟩, Ext.setMap hb⟩
    · simp only [Instr.mapUpdate, Sem.run_bind, run_underlying ht, Result.andThen_ok, run_getMap hb, kf.keyed.check w false hl, h2, hk, Option.getD_some, kf.keyed.stays w hl, run_setMap hb]
    · rw [hmod, aput_at hnd hj]
      apply List.ext_getElem?
      intro i
      have hei : (es.toList.map (fun e => (e.key, e.val)))[i]? = (m.map (fun p => (K p.1, V p.2)))[i]? := by rw [he]
      rw [List.getElem?_map, List.getElem?_map] at hei
      rw [List.getElem?_map, List.getElem?_map, List.getElem?_modify, List.getElem?_set]
      have hml : j < m.length := (List.getElem?_eq_some_iff.1 hj).1
      by_cases hij : j = i
      · subst hij
        rw [if_pos rfl, if_pos hml, List.getElem?_eq_getElem hjl]
        simp
      · rw [if_neg hij]
        simp only [if_neg hij]
        rw [← hei]
        cases es.toList[i]? <;> rfl
    · intro p hp
      have h4 : p.1 ∈ (aput m a v).map (·.1) := List.mem_map.2 ⟨p, hp, rfl⟩
      rw [aput_keys, if_pos (by rw [← aget_isSome, h1]; rfl)] at h4
      simp only [List.mem_map] at h4
      obtain ⟨q, hq, hqe⟩ := h4
      rw [← hqe]
      exact hg q hq
    · intro x hx
      rw [hmod] at hx
      obtain ⟨i, hi⟩ := List.getElem?_of_mem hx
      rw [List.getElem?_modify] at hi
      cases hx2 : es.toList[i]? with
      | none => rw [hx2] at hi; simp at hi
      | some y =>
        rw [hx2] at hi
        have := hborn y (List.mem_of_getElem? hx2)
        simp at hi
        rw [← hi]
        split <;> exact this
    · have hb2 : (es.toList.modify j fun e => { e with key := K a, val := V v }).map (·.born) = es.toList.map (·.born) := by
        apply List.ext_getElem?
        intro i
        rw [List.getElem?_map, List.getElem?_modify, List.getElem?_map]
        cases es.toList[i]? with
        | none => simp
        | some y => simp only [Option.map_eq_map, Option.map_some]; split <;> rfl
      rw [hmod, hb2]
      exact hbnd

omit [DecidableEq α] in
theorem MapOf.len_run (h : MapOf w b K V Good m) (ht : P.underlying t = some (.map k e)) (ty : TypeId) : (Builtin.len_ #[t] ty #[.map (some b)]).run P w = .ok (.int .i64 m.length) w := by
  obtain ⟨es, clock, hb, he, _⟩ := h
  have h3 := congrArg List.length he
  simp only [List.length_map, Array.length_toList] at h3
  simp [Builtin.len_, Sem.run_bind, run_underlying ht, Result.andThen_ok, run_getMap hb, goInt, h3]
end

section
variable {α β : Type} [DecidableEq α] {P : Program} {w : World} {b : Nat} {k e : TypeId} {K : α → Value} {V : β → Value} {Good : α → Prop} {m : List (α × β)}
variable {ops : Array Oper} {rest : List Oper} {o : Oper} {a : Act} {Q : Exit → Act → World → Prop}
/-- 'v, ok := m[k]'. -/
theorem wpList_mapGetOk (h : MapOf w b K V Good m) (kf : KeyFit P k K Good) (t : TypeId) (ht : P.underlying t = some (.map k e)) (z : Value) (hz : (zeroValue e).run P w = .ok z w) (c : α) (hc : Good c)
    (hg : o.guard = none) (x y : Operand) (ho : o.op = .lookup t x y true) (hx : a.eval x = .map (some b)) (hy : a.eval y = K c)
    (hk : wpList P ops Q rest (a.put o.dst (.tuple #[((aget m c).map V).getD z, .bool (aget m c).isSome])) w) : wpList P ops Q (o :: rest) a w := by
  refine wpList_plain hg fun K' hK' => ?_
  unfold Oper.wp
  simp only [execOp, ho, hx, hy, Sem.run_bind, h.look_run kf ht hz hc true, if_true, Result.andThen_ok, Sem.run_pure]
  exact hK' _ _ hk
/-- 'm[k]'. -/
theorem wpList_mapGet (h : MapOf w b K V Good m) (kf : KeyFit P k K Good) (t : TypeId) (ht : P.underlying t = some (.map k e)) (z : Value) (hz : (zeroValue e).run P w = .ok z w) (c : α) (hc : Good c)
    (hg : o.guard = none) (x y : Operand) (ho : o.op = .lookup t x y false) (hx : a.eval x = .map (some b)) (hy : a.eval y = K c)
    (hk : wpList P ops Q rest (a.put o.dst (((aget m c).map V).getD z)) w) : wpList P ops Q (o :: rest) a w := by
  refine wpList_plain hg fun K' hK' => ?_
  unfold Oper.wp
  simp only [execOp, ho, hx, hy, Sem.run_bind, h.look_run kf ht hz hc false, Bool.false_eq_true, if_false, Result.andThen_ok, Sem.run_pure]
  exact hK' _ _ hk
/-- 'm[k] = v'. -/
theorem wpList_mapPut (h : MapOf w b K V Good m) (kf : KeyFit P k K Good) (t : TypeId) (ht : P.underlying t = some (.map k e)) (c : α) (hc : Good c) (v : β)
    (hg : o.guard = none) (x y z : Operand) (ho : o.op = .mapUpdate t x y z) (hx : a.eval x = .map (some b)) (hy : a.eval y = K c) (hz : a.eval z = V v)
    (hk : ∀ w', MapOf w' b K V Good (aput m c v) → Ext [b] w w' → wpList P ops Q rest (a.put o.dst undef) w') : wpList P ops Q (o :: rest) a w := by
  refine wpList_plain hg fun K' hK' => ?_
  obtain ⟨w', hr, h1, h2⟩ := h.put_run kf ht hc v
  unfold Oper.wp
  simp only [execOp, ho, hx, hy, hz, Sem.run_bind, hr, Result.andThen_ok, Sem.run_pure]
  exact hK' _ _ (hk w' h1 h2)
omit [DecidableEq α] in
/-- Length. -/
theorem wpList_mapLen (h : MapOf w b K V Good m) (t : TypeId) (ht : P.underlying t = some (.map k e))
    (hg : o.guard = none) (x : Operand) (ho : o.op = .call { callee := .builtin .len, args := #[x], argTypes := #[t] }) (hx : a.eval x = .map (some b))
    (hk : wpList P ops Q rest (a.put o.dst (.int .i64 m.length)) w) : wpList P ops Q (o :: rest) a w := by
  refine wpList_plain hg fun K' hK' => ?_
  unfold Oper.wp
  simp [execOp, ho, resolve, invoke, builtin, hx, h.len_run ht o.type, Result.andThen]
  exact hK' _ _ hk
end
theorem laid : laidOutB Try.prog = true := by kernel_rfl
theorem types_pos : ∃ m, Try.prog.types.size = m + 1 := by
  exact Nat.exists_eq_succ_of_ne_zero (by simp)
def k8 (k : Int) : Nat := (k % 256).toNat
end Go.Proofs.Ytmkijjmbiiiicaa
/-
  The second engine: maps of plain keys and values as pieces of memory.
-/
set_option maxRecDepth 100000
set_option linter.unusedSimpArgs false
set_option linter.unusedVariables false
namespace Go.Proofs.Ytmkijjmbiiiicaa.A
open Go.RowKit

theorem map_same {α β : Type} {w w' : World} {b : Nat} {K : α → Value} {V : β → Value} {Good : α → Prop} {m : List (α × β)} (h : MapOf w b K V Good m) (hb : w'.heap[b]? = w.heap[b]?) : MapOf w' b K V Good m := by
  obtain ⟨es, clock, h1, h2⟩ := h
  exact ⟨es, clock, hb.trans h1, h2⟩
/-- A map as a piece of memory. -/
def mapPc {α β : Type} (b : Nat) (K : α → Value) (V : β → Value) (Good : α → Prop) (m : List (α × β)) : Pc where
  ids := [b]
  p := fun _ w => MapOf w b K V Good m
  carry := fun _ _ _ _ _ hs h => map_same h (hs b (by simp))
  lt := fun _ _ h k hk => by simp at hk; subst hk; exact h.lt
abbrev mapV (b : Nat) : Abs := .v (.map (some b))
section
variable {P : Program} {n : Nat} {W : Wd} {σ τ : Blks} {l : Slots} {X : List Nat} {x y z : Operand} {d : Option Nat} {ty t k e : TypeId} {pos : String} {aft : Array Edge} {g : Option (Nat × Bool)} {b : Nat} {A B C : Abs}
variable {α β : Type} [DecidableEq α] {K : α → Value} {V : β → Value} {Good : α → Prop} {m : List (α × β)} {a : α} {v : β} {zv : Value}
/-- The tree stands for just this value. -/
def Abs.is (A : Abs) (u : Value) : Prop := (∀ K w x, rep K w A x → x = u) ∧ ∀ K w, rep K w A u
theorem is_v {u : Value} : (Abs.v u).is u := ⟨fun _ _ _ h => h, fun _ _ => rfl⟩
theorem is_agg {us : List Value} : (Abs.agg (us.map .v)).is (.agg us.toArray) := ⟨fun _ _ _ ⟨vs, h1, h2⟩ => by rw [h1, reps_plain.1 h2], fun _ _ => ⟨us, rfl, reps_plain.2 rfl⟩⟩
omit [DecidableEq α] in
theorem mem_map {w0 w : World} {F G : List Nat} {σ : Blks} (h : Mem w0 F G σ w) (hb : It.pc (mapPc b K V Good m) ∈ σ ∨ It.rdpc (mapPc b K V Good m) ∈ σ) : MapOf w b K V Good m := by
  rcases hb with hb | hb
  · exact h.hold _ hb
  · exact h.hold _ hb
omit [DecidableEq α] in
theorem map_later {w w' : World} (h : MapOf w b K V Good m) (hx : Ext X w w') (hb : b ∉ X) : MapOf w' b K V Good m := h.ext hx hb
/-- 'v, ok := m[k]'. -/
theorem Val.mapGetOk (kf : KeyFit P k K Good) (ht : P.underlying t = some (.map k e)) (hz : ∀ w, (zeroValue e).run P w = .ok zv w) (hx : look l x = some (mapV b)) (hb : It.pc (mapPc b K V Good m) ∈ σ ∨ It.rdpc (mapPc b K V Good m) ∈ σ) (hbX : b ∉ X)
    (hy : look l y = some A) (hA : A.is (K a)) (ha : Good a) (hC : C.is (((aget m a).map V).getD zv)) : Val P n W σ l X ⟨d, .lookup t x y true, ty, pos, aft, g⟩ (.tup [C, .v (.bool (aget m a).isSome)]) := fun ac w hs _ => by
  have h1 := mem_map hs.mem hb
  have e1 := hs.plain hx
  have e2 := hA.1 _ _ _ (hs.eval hy)
  refine ⟨.tuple #[((aget m a).map V).getD zv, .bool (aget m a).isSome], ⟨_, rfl, _, _, rfl, hC.2 _ _, _, _, rfl, rfl, rfl⟩, fun w' hw' => ?_⟩
  simp only [execOp, e1, e2, Sem.run_bind, (h1.ext hw' hbX).look_run kf ht (hz w') ha true, if_true, Result.andThen_ok, Sem.run_pure]
/-- 'm[k]'. -/
theorem Val.mapGet (kf : KeyFit P k K Good) (ht : P.underlying t = some (.map k e)) (hz : ∀ w, (zeroValue e).run P w = .ok zv w) (hx : look l x = some (mapV b)) (hb : It.pc (mapPc b K V Good m) ∈ σ ∨ It.rdpc (mapPc b K V Good m) ∈ σ) (hbX : b ∉ X)
    (hy : look l y = some A) (hA : A.is (K a)) (ha : Good a) (hC : C.is (((aget m a).map V).getD zv)) : Val P n W σ l X ⟨d, .lookup t x y false, ty, pos, aft, g⟩ C := fun ac w hs _ => by
  have h1 := mem_map hs.mem hb
  have e1 := hs.plain hx
  have e2 := hA.1 _ _ _ (hs.eval hy)
  refine ⟨((aget m a).map V).getD zv, hC.2 _ _, fun w' hw' => ?_⟩
  simp only [execOp, e1, e2, Sem.run_bind, (h1.ext hw' hbX).look_run kf ht (hz w') ha false, Bool.false_eq_true, if_false, Result.andThen_ok, Sem.run_pure]
omit [DecidableEq α] in
theorem Val.lenMap (ht : P.underlying t = some (.map k e)) (hx : look l x = some (mapV b)) (hb : It.pc (mapPc b K V Good m) ∈ σ ∨ It.rdpc (mapPc b K V Good m) ∈ σ) (hbX : b ∉ X) : Val P n W σ l X ⟨d, .call { callee := .builtin .len, args := #[x], argTypes := #[t] }, ty, pos, aft, g⟩ (.v (.int .i64 m.length)) := fun ac w hs _ => by
  have h1 : MapOf w b K V Good m := by
    rcases hb with hb | hb
    · exact hs.mem.hold _ hb
    · exact hs.mem.hold _ hb
  refine ⟨_, rfl, fun w' hw' => ?_⟩
  simp [execOp, resolve, invoke, builtin, hs.plain hx, (h1.ext hw' hbX).len_run ht ty, Result.andThen]
/-- 'm[k] = v'. -/
theorem Eff.mapPut {m' : List (α × β)} (kf : KeyFit P k K Good) (ht : P.underlying t = some (.map k e)) (hx : look l x = some (mapV b)) (hu : Upd (.pc (mapPc b K V Good m)) (.pc (mapPc b K V Good m')) σ τ) (hy : look l y = some A) (hA : A.is (K a)) (ha : Good a) (hz : look l z = some B) (hB : B.is (V v)) (hm : aput m a v = m') :
    Eff P n W σ l [b] ⟨d, .mapUpdate t x y z, ty, pos, aft, g⟩ fun u τ' => u = .v undef ∧ τ' = τ := fun ac w hs => by
  subst hm
  have h1 : MapOf w b K V Good m := hs.mem.hold _ hu.mem
  obtain ⟨w', hr, h2, h3⟩ := h1.put_run kf ht ha v
  have h4 := hs.mem.upd hu (h3.mono (by simp [It.mids, mapPc])) (by simp [It.mids, mapPc]) (fun k hk => .inl hk) rfl (fun _ => h2)
  refine ⟨_, w', _, _, ⟨rfl, rfl⟩, h3, rfl, h4.1, h4.2, .inr ⟨rfl, ?_⟩⟩
  simp only [execOp, hs.plain hx, hA.1 _ _ _ (hs.eval hy), hB.1 _ _ _ (hs.eval hz), Sem.run_bind, hr, Result.andThen_ok, Sem.run_pure]
omit [DecidableEq α] in
/-- 'map[K]V{}', 'make(map[K]V)'. -/
theorem Eff.makeMap {o : Op} (K : α → Value) (V : β → Value) (Good : α → Prop) (hrun : ∀ (ac : Act) (w : World), (execOp ac.eval ⟨d, o, ty, pos, aft, g⟩).run P w = .ok (.value (.map (some w.heap.size))) (w.alloc (.map #[] 0))) :
    Eff P n W σ l [] ⟨d, o, ty, pos, aft, g⟩ fun u τ' => ∃ b, u = mapV b ∧ τ' = .pc (mapPc b K V Good []) :: σ := fun ac w hs => by
  have hx : Ext [] w (w.alloc (.map #[] 0)) := (Ext.refl w).alloc _
  have h4 := hs.mem.new (y := .pc (mapPc w.heap.size K V Good [])) hx (by simp [It.mids, mapPc]) (by simp [It.mids, mapPc]) rfl (fun _ => MapOf.new w)
  exact ⟨_, _, _, _, ⟨w.heap.size, rfl, rfl⟩, hx, rfl, h4.1, h4.2, .inl (hrun ac w)⟩
end
end Go.Proofs.Ytmkijjmbiiiicaa.A
/-
  Maps of the program's own: an entry struck; an entry found or made, and then stored into; as pieces of memory.
-/
set_option maxRecDepth 100000
set_option linter.unusedSimpArgs false
set_option linter.unusedVariables false
namespace Go.Proofs.Ytmkijjmbiiiicaa
open Go.RowKit
section
variable {α β : Type} [DecidableEq α] {P : Program} {w w' : World} {b : Nat} {k e t : TypeId} {K : α → Value} {V : β → Value} {Good : α → Prop} {m : List (α × β)}
theorem erase_map {γ δ : Type} (f : γ → δ) : ∀ (l : List γ) (j : Nat), (l.eraseIdx j).map f = (l.map f).eraseIdx j
  | [], _ => rfl
  | _ :: _, 0 => rfl
  | x :: l, j + 1 => by simp [erase_map f l j]
theorem erase_adel : ∀ {m : List (α × β)} {j : Nat} {a : α} {v : β}, (m.map (·.1)).Nodup → m[j]? = some (a, v) → m.eraseIdx j = adel m a
  | [], j, a, v, _, h => by simp at h
  | p :: m, 0, a, v, hn, h => by
    simp only [List.getElem?_cons_zero, Option.some.injEq] at h
    subst h
    rw [List.map_cons, List.nodup_cons] at hn
    unfold adel
    rw [List.eraseIdx_cons_zero, List.filter_cons, if_neg (by simp)]
    symm
    rw [List.filter_eq_self]
    intro q hq
    simp only [decide_eq_true_eq]
    intro e
    exact hn.1 (e ▸ List.mem_map.2 ⟨q, hq, rfl⟩)
  | p :: m, j + 1, a, v, hn, h => by
    rw [List.map_cons, List.nodup_cons] at hn
    simp only [List.getElem?_cons_succ] at h
    have h1 := erase_adel hn.2 h
    have hne : p.1 ≠ a := fun e => hn.1 (by rw [e]; exact List.mem_map.2 ⟨_, List.mem_of_getElem? h, rfl⟩)
    unfold adel at h1 ⊢
    rw [List.eraseIdx_cons_succ, h1, List.filter_cons, if_pos (by simpa using hne)]
theorem adel_none {m : List (α × β)} {a : α} (h : aget m a = none) : adel m a = m := by
  unfold adel
  rw [List.filter_eq_self]
  intro q hq
  simp only [decide_eq_true_eq]
  intro e
  rw [aget_none] at h
  exact h (e ▸ List.mem_map.2 ⟨q, hq, rfl⟩)
omit [DecidableEq α] in
theorem setMap_same {b : Nat} {es : Array MapEntry} {clock : Nat} (hb : w.heap[b]? = some (.map es clock)) : MapOf w b K V Good m → MapOf ({ w with heap := w.heap.setIfInBounds b (.map es clock) } : World) b K V Good m := fun ⟨es', clock', h1, h2⟩ => by
  rw [hb] at h1
  obtain ⟨rfl, rfl⟩ : es = es' ∧ clock = clock' := by simpa using h1
  exact ⟨_, _, heap_setMap hb, h2⟩
/-- 'delete(m, a)'. -/
theorem MapOf.del_run (h : MapOf w b K V Good m) (kf : KeyFit P k K Good) (ht : P.underlying t = some (.map k e)) {a : α} (ha : Good a) (ty : TypeId) :
    ∃ w', (Builtin.delete_ #[t, k] ty #[.map (some b), K a]).run P w = .ok (.tuple #[]) w' ∧ MapOf w' b K V Good (adel m a) ∧ Ext [b] w w' := by
  have hh := h
  obtain ⟨es, clock, hb, he, hnd, hg, hborn, hbnd⟩ := h
  obtain ⟨l, hl⟩ := kf.lit a ha
  rcases find_run kf he hg hnd ha w with ⟨h1, h2⟩ | ⟨j, u, hj, h1, h2⟩
  · refine ⟨{ w with heap := w.heap.setIfInBounds b (.map es clock) }, ?_, ?_, Ext.setMap hb⟩
    · simp [Builtin.delete_, Sem.run_bind, run_underlying ht, Result.andThen, run_getMap hb, kf.keyed.check w _ hl, h2, run_setMap hb]
    · rw [adel_none h1]
      exact setMap_same hb hh
  · refine ⟨{ w with heap := w.heap.setIfInBounds b (.map (es.eraseIdxIfInBounds j) clock) }, ?_, ⟨_, _, heap_setMap hb, ?_, adel_nodup hnd a, ?_, ?_, ?_⟩, Ext.setMap hb⟩
    · simp [Builtin.delete_, Sem.run_bind, run_underlying ht, Result.andThen, run_getMap hb, kf.keyed.check w _ hl, h2, run_setMap hb]
    · have e1 : (es.eraseIdxIfInBounds j).toList = es.toList.eraseIdx j := by simp
      rw [e1, erase_map, he, ← erase_map, erase_adel hnd hj]
    · exact fun p hp => hg p ((List.mem_filter.1 hp).1)
    · intro x hx
      have e1 : (es.eraseIdxIfInBounds j).toList = es.toList.eraseIdx j := by simp
      rw [e1] at hx
      exact hborn x (List.mem_of_mem_eraseIdx hx)
    · have e1 : (es.eraseIdxIfInBounds j).toList = es.toList.eraseIdx j := by simp
      rw [e1, erase_map]
      exact hbnd.sublist (List.eraseIdx_sublist _ _)
/-- Block b is a map that holds the pairs m; the entry of a was born at s. -/
def MapAt (w : World) (b : Nat) (K : α → Value) (V : β → Value) (Good : α → Prop) (m : List (α × β)) (a : α) (s : Nat) : Prop :=
  ∃ es clock, w.heap[b]? = some (.map es clock) ∧ es.toList.map (fun e => (e.key, e.val)) = m.map (fun p => (K p.1, V p.2)) ∧ (m.map (·.1)).Nodup ∧ (∀ p ∈ m, Good p.1) ∧
    (∀ e ∈ es.toList, e.born < clock) ∧ (es.toList.map (·.born)).Nodup ∧ ∃ j : Nat, (es.toList[j]?).map (fun x : MapEntry => x.born) = some s ∧ (m[j]?).map (fun p : α × β => p.1) = some a
/-- A map with an entry for a: the old one, or a new one. -/
def aent (m : List (α × β)) (a : α) (z : β) : List (α × β) := if (aget m a).isSome then m else aput m a z
theorem MapOf.entry_run (h : MapOf w b K V Good m) (kf : KeyFit P k K Good) (ht : P.underlying t = some (.map k e)) {z : β} (hz : (zeroValue e).run P w = .ok (V z) w) {a : α} (ha : Good a) :
    ∃ w' s, (Instr.mapEntry t (.map (some b)) (K a)).run P w = .ok (.tuple #[((aget m a).map V).getD (V z), .int .i64 (s : Nat)]) w' ∧ MapAt w' b K V Good (aent m a z) a s ∧ Ext [b] w w' := by
  obtain ⟨es, clock, hb, he, hnd, hg, hborn, hbnd⟩ := h
  obtain ⟨l, hl⟩ := kf.lit a ha
  have hlen : es.toList.length = m.length := by
    have h3 := congrArg List.length he
    simpa using h3
  rcases find_run kf he hg hnd ha w with ⟨h1, h2⟩ | ⟨j, u, hj, h1, h2⟩
  · have hen : aent m a z = m ++ [(a, z)] := by
      unfold aent aput
      rw [if_neg (by rw [h1]; simp), if_neg (by rw [h1]; simp)]
    refine ⟨{ w with heap := w.heap.setIfInBounds b (.map (es.push { key := K a, val := V z, born := clock }) (clock + 1)) }, clock, ?_, ⟨_, _, heap_setMap hb, ?_, ?_, ?_, ?_, ?_, m.length, ?_, ?_⟩, Ext.setMap hb⟩
    · simp only [Instr.mapEntry, Sem.run_bind, run_underlying ht, Result.andThen_ok, run_getMap hb, kf.keyed.check w false hl, h2, hz, run_setMap hb, Sem.run_pure, h1]
      try rfl
    · rw [Array.toList_push, List.map_append, he, hen, List.map_append]
      rfl
    · rw [hen, List.map_append, List.nodup_append]
      refine ⟨hnd, by simp, ?_⟩
      intro x hx y hy
      simp at hy
      subst hy
      intro e
      subst e
      rw [aget_none] at h1
      exact h1 hx
    · intro p hp
      rw [hen, List.mem_append, List.mem_singleton] at hp
      rcases hp with hp | rfl
      · exact hg p hp
      · exact ha
    · intro x hx
      rw [Array.toList_push, List.mem_append, List.mem_singleton] at hx
      rcases hx with hx | rfl
      · have := hborn x hx; omega
      · exact Nat.lt_succ_self _
    · rw [Array.toList_push, List.map_append, List.nodup_append]
      refine ⟨hbnd, by simp, ?_⟩
      intro x hx y hy
      simp at hy
      subst hy
      simp only [List.mem_map] at hx
      obtain ⟨q, hq, rfl⟩ := hx
      have := hborn q hq
      omega
    · rw [Array.toList_push, List.getElem?_append_right (by omega), hlen, Nat.sub_self]
      rfl
    · rw [hen, List.getElem?_append_right (by omega), Nat.sub_self]
      rfl
  · have hjl : j < es.toList.length := by rw [hlen]; exact (List.getElem?_eq_some_iff.1 hj).1
    have hk : (es[j]?).map (·.key) = some (K a) := by
      rw [← Array.getElem?_toList]
      have h3 : (es.toList.map (fun e => (e.key, e.val)))[j]? = some (K a, V u) := by rw [he, List.getElem?_map, hj]; rfl
      rw [List.getElem?_map] at h3
      cases hx : es.toList[j]? with
      | none => rw [hx] at h3; cases h3
      | some x => rw [hx] at h3; simp at h3; simp [h3.1]
    have hen : aent m a z = m := by
      unfold aent
      rw [if_pos (by rw [h1]; rfl)]
    obtain ⟨x, hx⟩ : ∃ x, es.toList[j]? = some x := ⟨_, List.getElem?_eq_getElem hjl⟩
    have hxk : x.key = K a := by
      rw [← Array.getElem?_toList, hx] at hk
      simpa using hk
    have hmod : (es.modify j fun e => { e with key := K a }).toList = es.toList := by
      rw [Array.toList_modify]
      apply List.ext_getElem?
      intro i
      rw [List.getElem?_modify]
      by_cases hij : j = i
      · subst hij
        rw [hx]
        simp [← hxk]
      · simp [hij]
    have hb2 : (es[j]?).map (fun x : MapEntry => ((x.born : Nat) : Int)) = some ((x.born : Nat) : Int) := by rw [← Array.getElem?_toList, hx]; rfl
    refine ⟨{ w with heap := w.heap.setIfInBounds b (.map (es.modify j fun e => { e with key := K a }) clock) }, x.born, ?_, ⟨_, _, heap_setMap hb, ?_, ?_, ?_, ?_, ?_, j, ?_, ?_⟩, Ext.setMap hb⟩
    · simp only [Instr.mapEntry, Sem.run_bind, run_underlying ht, Result.andThen_ok, run_getMap hb, kf.keyed.check w false hl, h2, hk, hb2, Option.getD_some, kf.keyed.stays w hl, run_setMap hb, Sem.run_pure, h1]
      rfl
    · rw [hmod, hen]; exact he
    · rw [hen]; exact hnd
    · rw [hen]; exact hg
    · rw [hmod]; exact hborn
    · rw [hmod]; exact hbnd
    · rw [hmod, hx]; rfl
    · rw [hen, hj]; rfl
theorem MapAt.store_run {a : α} {s : Nat} (h : MapAt w b K V Good m a s) (v : β) :
    ∃ w', (Instr.entryStore t (.map (some b)) (.int .i64 (s : Nat)) (V v)).run P w = .ok () w' ∧ MapOf w' b K V Good (aput m a v) ∧ Ext [b] w w' := by
  obtain ⟨es, clock, hb, he, hnd, hg, hborn, hbnd, j, hs, ha⟩ := h
  obtain ⟨x, hx, hxs⟩ : ∃ x, es.toList[j]? = some x ∧ x.born = s := by
    cases hx : es.toList[j]? with
    | none => rw [hx] at hs; cases hs
    | some x => rw [hx] at hs; exact ⟨x, rfl, by simpa using hs⟩
  obtain ⟨u, hj⟩ : ∃ u, m[j]? = some (a, u) := by
    cases hm : m[j]? with
    | none => rw [hm] at ha; cases ha
    | some p => rw [hm] at ha; exact ⟨p.2, by have h : p.1 = a := (by simpa using ha); subst h; rfl⟩
  have hjl : j < es.toList.length := (List.getElem?_eq_some_iff.1 hx).1
  have hfind : es.findIdx? (fun e => ((e.born : Nat) : Int) == ((s : Nat) : Int)) = some j := by
    rw [Array.findIdx?_eq_some_iff_getElem]
    refine ⟨by simpa using hjl, ?_, fun i hi => ?_⟩
    · have : es.toList[j] = x := (List.getElem?_eq_some_iff.1 hx).2
      rw [Array.getElem_toList] at this
      rw [this, hxs]
      simp
    · simp only [beq_iff_eq, Int.natCast_inj]
      intro e
      have h1 : (es.toList.map (·.born))[i]? = some s := by rw [List.getElem?_map, List.getElem?_eq_getElem (by omega), Array.getElem_toList]; simp [e]
      have h2 : (es.toList.map (·.born))[j]? = some s := by rw [List.getElem?_map, hx]; simp [hxs]
      have := (List.getElem?_inj (by rw [List.length_map]; omega) hbnd).1 (h1.trans h2.symm)
      omega
  have hmod : (es.modify j fun e => { e with val := V v }).toList = es.toList.modify j fun e => { e with val := V v } := by simp
  refine ⟨{ w with heap := w.heap.setIfInBounds b (.map (es.modify j fun e => { e with val := V v }) clock) }, ?_, ⟨_, _, heap_setMap hb, ?_, aput_nodup hnd a v, ?_, ?_, ?_⟩, Ext.setMap hb⟩
  · have hi : (asInt (.int .i64 ((s : Nat) : Int))).run P w = .ok ((s : Nat) : Int) w := by simp [asInt, asIntOf]
    simp only [Instr.entryStore, Sem.run_bind, Result.andThen_ok, run_getMap hb, hi, hfind, run_setMap hb]
  · rw [hmod, aput_at hnd hj]
    apply List.ext_getElem?
    intro i
    have hei : (es.toList.map (fun e => (e.key, e.val)))[i]? = (m.map (fun p => (K p.1, V p.2)))[i]? := by rw [he]
    rw [List.getElem?_map, List.getElem?_map] at hei
    rw [List.getElem?_map, List.getElem?_map, List.getElem?_modify, List.getElem?_set]
    have hml : j < m.length := (List.getElem?_eq_some_iff.1 hj).1
    by_cases hij : j = i
    · subst hij
      rw [if_pos rfl, if_pos hml, hx]
      rw [hx, hj] at hei
      simp at hei
      simp [hei.1]
    · rw [if_neg hij]
      simpa [hij] using hei
  · intro p hp
    rw [aput_at hnd hj] at hp
    rcases List.mem_or_eq_of_mem_set hp with hp | rfl
    · exact hg p hp
    · exact hg (a, u) (List.mem_of_getElem? hj)
  · intro y hy
    rw [hmod] at hy
    obtain ⟨i, hi⟩ := List.getElem?_of_mem hy
    rw [List.getElem?_modify] at hi
    cases he2 : es.toList[i]? with
    | none => rw [he2] at hi; simp at hi
    | some y2 =>
      rw [he2] at hi
      have := hborn y2 (List.mem_of_getElem? he2)
      split at hi
      · simp at hi; rw [← hi]; exact this
      · simp at hi; rw [← hi]; exact this
  · rw [hmod]
    have : (es.toList.modify j fun e => { e with val := V v }).map (·.born) = es.toList.map (·.born) := by
      apply List.ext_getElem?
      intro i
      rw [List.getElem?_map, List.getElem?_map, List.getElem?_modify]
      cases es.toList[i]? with
      | none => simp
      | some y => by_cases hij : j = i <;> simp [hij]
    rw [this]
    exact hbnd
theorem aput_aent (m : List (α × β)) (a : α) (z v : β) : aput (aent m a z) a v = aput m a v := by
  unfold aent
  split
  · rfl
  · next h =>
    have h0 : aget m a = none := by simpa using h
    have h1 : (aget (aput m a z) a).isSome = true := by rw [aget_aput, if_pos rfl]; rfl
    have h2 : aput m a z = m ++ [(a, z)] := by unfold aput; rw [if_neg h]
    unfold aput at h1 ⊢
    rw [if_neg h] at h1 ⊢
    rw [if_pos h1, if_neg h, List.map_append]
    congr 1
    · rw [List.map_congr_left (g := id)]
      · simp
      · intro p hp
        rw [aget_none] at h0
        have : p.1 ≠ a := fun e => h0 (e ▸ List.mem_map.2 ⟨p, hp, rfl⟩)
        simp [this]
    · simp
end
end Go.Proofs.Ytmkijjmbiiiicaa
namespace Go.Proofs.Ytmkijjmbiiiicaa.A
open Go.RowKit
/-- A map as a piece of memory; the entry of a was born at s. -/
def mapAtPc {α β : Type} (b : Nat) (K : α → Value) (V : β → Value) (Good : α → Prop) (m : List (α × β)) (a : α) (s : Nat) : Pc where
  ids := [b]
  p := fun _ w => MapAt w b K V Good m a s
  carry := fun _ _ _ _ _ hs h => by
    obtain ⟨es, clock, h1, h2⟩ := h
    exact ⟨es, clock, (hs b (by simp)).trans h1, h2⟩
  lt := fun _ w h k hk => by
    simp at hk
    subst hk
    obtain ⟨es, clock, h1, _⟩ := h
    exact heap_lt h1
section
variable {P : Program} {n : Nat} {W : Wd} {σ τ : Blks} {l : Slots} {X : List Nat} {x y z : Operand} {d : Option Nat} {ty t k e : TypeId} {pos : String} {aft : Array Edge} {g : Option (Nat × Bool)} {b s : Nat} {A B C : Abs}
variable {α β : Type} [DecidableEq α] {K : α → Value} {V : β → Value} {Good : α → Prop} {m : List (α × β)} {a : α} {v zv : β}
/-- 'delete(m, k)'. -/
theorem Eff.mapDel {m' : List (α × β)} (kf : KeyFit P k K Good) (ht : P.underlying t = some (.map k e)) (hx : look l x = some (mapV b)) (hu : Upd (.pc (mapPc b K V Good m)) (.pc (mapPc b K V Good m')) σ τ) (hy : look l y = some A) (hA : A.is (K a)) (ha : Good a) (hm : adel m a = m') :
    Eff P n W σ l [b] ⟨d, .call { callee := .builtin .delete, args := #[x, y], argTypes := #[t, k] }, ty, pos, aft, g⟩ fun u τ' => u = .tup [] ∧ τ' = τ := fun ac w hs => by
  subst hm
  have h1 : MapOf w b K V Good m := hs.mem.hold _ hu.mem
  obtain ⟨w', hr, h2, h3⟩ := h1.del_run kf ht ha ty
  have h4 := hs.mem.upd hu (h3.mono (by simp [It.mids, mapPc])) (by simp [It.mids, mapPc]) (fun k hk => .inl hk) rfl (fun _ => h2)
  refine ⟨.tuple #[], w', _, _, ⟨rfl, rfl⟩, h3, ⟨[], rfl, rfl⟩, h4.1, h4.2, .inl ?_⟩
  simp [execOp, resolve, invoke, builtin, hs.plain hx, hA.1 _ _ _ (hs.eval hy), hr, Result.andThen]
/-- The entry of a key: the old one, or a new one. -/
theorem Eff.mapEntry {τ : Nat → Blks} (kf : KeyFit P k K Good) (ht : P.underlying t = some (.map k e)) (hz : ∀ w, (zeroValue e).run P w = .ok (V zv) w) (hx : look l x = some (mapV b)) (hu : ∀ s, Upd (.pc (mapPc b K V Good m)) (.pc (mapAtPc b K V Good (aent m a zv) a s)) σ (τ s))
    (hy : look l y = some A) (hA : A.is (K a)) (ha : Good a) (hC : C.is (((aget m a).map V).getD (V zv))) :
    Eff P n W σ l [b] ⟨d, .mapEntry t x y, ty, pos, aft, g⟩ fun u τ' => ∃ s : Nat, u = .tup [C, .v (.int .i64 (s : Nat))] ∧ τ' = τ s := fun ac w hs => by
  have h1 : MapOf w b K V Good m := hs.mem.hold _ (hu 0).mem
  obtain ⟨w', s, hr, h2, h3⟩ := h1.entry_run kf ht (hz w) ha
  have h4 := hs.mem.upd (hu s) (h3.mono (by simp [It.mids, mapPc])) (by simp [It.mids, mapAtPc]) (fun k hk => .inl (by simpa [It.mids, mapPc, mapAtPc] using hk)) rfl (fun _ => h2)
  refine ⟨.tuple #[((aget m a).map V).getD (V zv), .int .i64 (s : Nat)], w', _, _, ⟨s, rfl, rfl⟩, h3, ⟨_, rfl, _, _, rfl, hC.2 _ _, _, _, rfl, rfl, rfl⟩, h4.1, h4.2, .inl ?_⟩
  simp only [execOp, hs.plain hx, hA.1 _ _ _ (hs.eval hy), Sem.run_bind, hr, Result.andThen_ok, Sem.run_pure]
/-- .. and stored into. -/
theorem Eff.entryStore {m' : List (α × β)} (hx : look l x = some (mapV b)) (hu : Upd (.pc (mapAtPc b K V Good m a s)) (.pc (mapPc b K V Good m')) σ τ) (hy : look l y = some (.v (.int .i64 (s : Nat)))) (hz : look l z = some B) (hB : B.is (V v)) (hm : aput m a v = m') :
    Eff P n W σ l [b] ⟨d, .entryStore t x y z, ty, pos, aft, g⟩ fun u τ' => u = .v undef ∧ τ' = τ := fun ac w hs => by
  subst hm
  have h1 : MapAt w b K V Good m a s := hs.mem.hold _ hu.mem
  obtain ⟨w', hr, h2, h3⟩ := h1.store_run (P := P) (t := t) v
  have h4 := hs.mem.upd hu (h3.mono (by simp [It.mids, mapAtPc])) (by simp [It.mids, mapPc]) (fun k hk => .inl (by simpa [It.mids, mapPc, mapAtPc] using hk)) rfl (fun _ => h2)
  refine ⟨_, w', _, _, ⟨rfl, rfl⟩, h3, rfl, h4.1, h4.2, .inr ⟨rfl, ?_⟩⟩
  simp only [execOp, hs.plain hx, hs.plain hy, hB.1 _ _ _ (hs.eval hz), Sem.run_bind, hr, Result.andThen_ok, Sem.run_pure]
end
/-! ### Keys that are ints -/
abbrev intK (x : Int) : Value := .int .i64 x
abbrev intOk (x : Int) : Prop := InR .i64 x
theorem int_wf {x : Int} (h : intOk x) : (Lit.int .i64 x).wf = true := by
  simp only [InR, lo, hi] at h
  simp only [Lit.wf, Bool.and_eq_true, decide_eq_true_eq]
  exact ⟨by show (-9223372036854775808 : Int) ≤ _; omega, by show _ ≤ (9223372036854775807 : Int); omega⟩
theorem int_fit {P : Program} {k : TypeId} (hk : P.underlying k = some (.int .i64)) : KeyFit P k intK intOk where
  keyed := Maps.int_keyed hk
  lit a h := ⟨_, Maps.keyOf_int_mk hk (int_wf h)⟩
  inj a b _ _ h := by
    injection h
abbrev cntV (x : Nat) : Value := .int .i64 (x : Nat)
/-- Keys, rising. -/
def srt (ks : List Int) : List Int := ks.mergeSort fun x y => decide (x ≤ y)
theorem srt_perm (ks : List Int) : (srt ks).Perm ks := List.mergeSort_perm _ _
theorem srt_sorted (ks : List Int) : (srt ks).Pairwise (· ≤ ·) := by
  have h := List.pairwise_mergeSort (le := fun x y : Int => decide (x ≤ y)) (fun a b c h1 h2 => by simp only [decide_eq_true_eq] at *; omega) (fun a b => by simp only [Bool.or_eq_true, decide_eq_true_eq]; omega) ks
  exact h.imp fun h => by simpa using h
theorem sorted_unique : ∀ {l m : List Int}, l.Perm m → l.Pairwise (· ≤ ·) → m.Pairwise (· ≤ ·) → l = m
  | [], m, h, _, _ => (List.nil_perm.1 h).symm ▸ rfl
  | a :: l, [], h, _, _ => by have := h.length_eq; simp at this
  | a :: l, b :: m, h, h1, h2 => by
    rw [List.pairwise_cons] at h1 h2
    have hab : a = b := by
      have ha : a ∈ b :: m := h.mem_iff.1 List.mem_cons_self
      have hb : b ∈ a :: l := h.mem_iff.2 List.mem_cons_self
      rcases List.mem_cons.1 ha with e | ha
      · exact e
      · rcases List.mem_cons.1 hb with e | hb
        · exact e.symm
        · have := h1.1 b hb; have := h2.1 a ha; omega
    subst hab
    rw [sorted_unique (h.cons_inv) h1.2 h2.2]
theorem srt_congr {l m : List Int} (h : l.Perm m) : srt l = srt m := sorted_unique (((srt_perm l).trans h).trans (srt_perm m).symm) (srt_sorted l) (srt_sorted m)
theorem srt_length (ks : List Int) : (srt ks).length = ks.length := (srt_perm ks).length_eq
end Go.Proofs.Ytmkijjmbiiiicaa.A
/-
  Tallies, plain: who votes for what, and how many do.
-/
set_option maxRecDepth 100000
set_option linter.unusedSimpArgs false
set_option linter.unusedVariables false
namespace Go.Proofs.Ytmkijjmbiiiicaa.A
open Go.RowKit

section
variable {α : Type} [DecidableEq α] {m : List (Int × α)} {c : List (α × Nat)} {u v k : α} {w who : Int}
def cget (c : List (α × Nat)) (v : α) : Nat := (aget c v).getD 0
def cnt (m : List (Int × α)) (v : α) : Nat := (m.filter fun p => decide (p.2 = v)).length
/-- One vote less for something. -/
def decO (c : List (α × Nat)) : Option α → List (α × Nat)
  | none => c
  | some v => if cget (aput c v (cget c v - 1)) v = 0 then adel (aput c v (cget c v - 1)) v else aput c v (cget c v - 1)
def chgC (m : List (Int × α)) (c : List (α × Nat)) (who : Int) (k : α) : List (α × Nat) := aput (decO c (aget m who)) k (cget (decO c (aget m who)) k + 1)
structure TInv (m : List (Int × α)) (c : List (α × Nat)) : Prop where
  nd : (m.map (·.1)).Nodup
  num : ∀ v, cget c v = cnt m v
theorem cget_aput (c : List (α × Nat)) (k v : α) (n : Nat) : cget (aput c k n) v = if v = k then n else cget c v := by
  unfold cget
  rw [aget_aput]
  split <;> rfl
theorem cget_adel (c : List (α × Nat)) (k v : α) : cget (adel c k) v = if v = k then 0 else cget c v := by
  unfold cget
  rw [aget_adel]
  split <;> rfl
theorem cget_dec (c : List (α × Nat)) (u v : α) : cget (decO c (some u)) v = if v = u then cget c u - 1 else cget c v := by
  show cget (if cget (aput c u (cget c u - 1)) u = 0 then adel (aput c u (cget c u - 1)) u else aput c u (cget c u - 1)) v = _
  split
  · next h =>
    rw [cget_aput, if_pos rfl] at h
    rw [cget_adel, cget_aput]
    split
    · omega
    · rfl
  · rw [cget_aput]
theorem cnt_cons (p : Int × α) (m : List (Int × α)) (v : α) : cnt (p :: m) v = (if p.2 = v then 1 else 0) + cnt m v := by
  unfold cnt
  rw [List.filter_cons]
  by_cases h : p.2 = v
  · simp [h]; omega
  · simp [h]
theorem cnt_append (m l : List (Int × α)) (v : α) : cnt (m ++ l) v = cnt m v + cnt l v := by simp [cnt]
theorem cnt_le (m : List (Int × α)) (v : α) : cnt m v ≤ m.length := List.length_filter_le _ _
omit [DecidableEq α] in
theorem aget_cons (p : Int × α) (m : List (Int × α)) (w : Int) : aget (p :: m) w = if p.1 = w then some p.2 else aget m w := by
  unfold aget
  rw [List.find?_cons]
  by_cases h : p.1 = w <;> simp [h]
theorem cnt_pos : ∀ {m : List (Int × α)} {w : Int} {v : α}, aget m w = some v → 1 ≤ cnt m v
  | [], w, v, h => by cases h
  | p :: m, w, v, h => by
    rw [aget_cons] at h
    rw [cnt_cons]
    split at h
    · have := Option.some.inj h
      rw [if_pos this]
      omega
    · have := cnt_pos h
      omega
omit [DecidableEq α] in
theorem aput_new (h : aget m w = none) (k : α) : aput m w k = m ++ [(w, k)] := by
  unfold aput
  rw [if_neg (by rw [h]; simp)]
theorem cnt_new (h : aget m w = none) (k v : α) : cnt (aput m w k) v = cnt m v + (if k = v then 1 else 0) := by
  rw [aput_new h, cnt_append]
  congr 1
  rw [cnt_cons]
  simp [cnt]
omit [DecidableEq α] in
theorem map_none : ∀ {m : List (Int × α)} {w : Int} {k : α}, w ∉ m.map (·.1) → (m.map fun p => if p.1 = w then (w, k) else p) = m
  | [], _, _, _ => rfl
  | p :: m, w, k, h => by
    rw [List.map_cons, List.mem_cons, not_or] at h
    rw [List.map_cons, if_neg (fun e => h.1 e.symm), map_none h.2]
theorem cnt_old : ∀ {m : List (Int × α)} {w : Int} {u : α}, (m.map (·.1)).Nodup → aget m w = some u → ∀ k v : α, cnt (m.map fun p => if p.1 = w then (w, k) else p) v + (if u = v then 1 else 0) = cnt m v + (if k = v then 1 else 0)
  | [], w, u, _, h, _, _ => by cases h
  | p :: m, w, u, hn, h, k, v => by
    rw [List.map_cons, List.nodup_cons] at hn
    rw [aget_cons] at h
    rw [List.map_cons, cnt_cons, cnt_cons]
    by_cases hp : p.1 = w
    · rw [if_pos hp] at h
      have := Option.some.inj h
      subst this
      subst hp
      rw [if_pos rfl, map_none hn.1]
      dsimp only
      omega
    · rw [if_neg hp] at h
      have := cnt_old hn.2 h k v
      rw [if_neg hp]
      omega
theorem TInv.nil : TInv ([] : List (Int × α)) [] := ⟨by simp, fun v => rfl⟩
theorem TInv.chg (h : TInv m c) (who : Int) (k : α) : TInv (aput m who k) (chgC m c who k) := by
  refine ⟨aput_nodup h.nd who k, fun v => ?_⟩
  unfold chgC
  rw [cget_aput]
  cases hw : aget m who with
  | none =>
    rw [cnt_new hw]
    show (if v = k then cget c k + 1 else cget c v) = _
    rw [h.num, h.num]
    by_cases hv : v = k
    · subst hv; simp
    · rw [if_neg hv, if_neg (fun e => hv e.symm)]; omega
  | some u =>
    have h1 := cnt_old h.nd hw k v
    have h2 := cnt_pos hw
    have e : aput m who k = m.map fun p => if p.1 = who then (who, k) else p := by
      unfold aput
      rw [if_pos (by rw [hw]; rfl)]
    rw [e, cget_dec, cget_dec, h.num, h.num, h.num]
    by_cases hv : v = k
    · subst hv
      have e1 : (if v = v then 1 else 0) = 1 := if_pos rfl
      rw [e1] at h1
      rw [if_pos rfl]
      by_cases hu : v = u
      · subst hu
        rw [if_pos rfl] at h1 ⊢
        omega
      · have e2 : (if u = v then 1 else 0) = 0 := if_neg fun e => hu e.symm
        rw [e2] at h1
        rw [if_neg hu]
        omega
    · have e1 : (if k = v then 1 else 0) = 0 := if_neg fun e => hv e.symm
      rw [e1] at h1
      rw [if_neg hv]
      by_cases hu : v = u
      · subst hu
        rw [if_pos rfl] at h1 ⊢
        omega
      · have e2 : (if u = v then 1 else 0) = 0 := if_neg fun e => hu e.symm
        rw [e2] at h1
        rw [if_neg hu]
        omega
theorem TInv.le (h : TInv m c) (v : α) : cget c v ≤ m.length := by rw [h.num]; exact cnt_le m v
theorem TInv.pos (h : TInv m c) (hw : aget m who = some v) : 1 ≤ cget c v := by rw [h.num]; exact cnt_pos hw
theorem TInv.dec_le (h : TInv m c) (o : Option α) (v : α) : cget (decO c o) v ≤ m.length := by
  cases o with
  | none => exact h.le v
  | some u =>
    rw [cget_dec]
    have h1 := h.le u
    have h2 := h.le v
    split <;> omega
theorem dec_del (h : cget (aput c v (cget c v - 1)) v = 0) : adel (aput c v (cget c v - 1)) v = decO c (some v) := (if_pos h).symm
theorem dec_keep (h : ¬ cget (aput c v (cget c v - 1)) v = 0) : decO c (some v) = aput c v (cget c v - 1) := if_neg h
theorem cget_is (c : List (α × Nat)) (v : α) : (int ((cget c v : Nat) : Int)).is (((aget c v).map cntV).getD (cntV 0)) := by
  unfold cget
  cases aget c v with
  | none => exact is_v
  | some n => exact is_v
omit [DecidableEq α] in
theorem aput_length_le (m : List (Int × α)) (w : Int) (k : α) : (aput m w k).length ≤ m.length + 1 := by
  rw [aput_length]
  split <;> omega
/-- What enough vote for, the lowest voter first. -/
def leastO (m : List (Int × α)) (c : List (α × Nat)) (at_ : Int) : List Int → Option α
  | [] => none
  | w :: ks => match aget m w with
    | some v => if 1 ≤ at_ ∧ at_ ≤ cget c v then some v else leastO m c at_ ks
    | none => leastO m c at_ ks
theorem leastO_cons (m : List (Int × α)) (c : List (α × Nat)) (at_ : Int) (w : Int) (ks : List Int) : leastO m c at_ (w :: ks) = match aget m w with
    | some v => if 1 ≤ at_ ∧ at_ ≤ cget c v then some v else leastO m c at_ ks
    | none => leastO m c at_ ks := rfl
/-- The rest of a row, of which none was enough so far. -/
theorem leastO_drop {m : List (Int × α)} {c : List (α × Nat)} {at_ : Int} : ∀ {ks : List Int} {z : Nat}, (∀ j (h : j < ks.length), j < z → ∀ v, aget m ks[j] = some v → ¬ (1 ≤ at_ ∧ at_ ≤ cget c v)) → leastO m c at_ ks = leastO m c at_ (ks.drop z)
  | ks, 0, _ => rfl
  | [], z + 1, _ => rfl
  | w :: ks, z + 1, h => by
    have h0 := h 0 (by simp) (by omega)
    simp only [List.getElem_cons_zero] at h0
    have h1 := leastO_drop (ks := ks) (z := z) fun j hj hz v hv => h (j + 1) (by simpa using hj) (by omega) v hv
    rw [List.drop_succ_cons, ← h1]
    rw [leastO_cons]
    cases hw : aget m w with
    | none => rfl
    | some v => exact if_neg (h0 v hw)
end
end Go.Proofs.Ytmkijjmbiiiicaa.A
/-
  The second engine: regions that draw, in two parts; an element of a row of the call's own stored; words of 64 bits.
-/
set_option maxRecDepth 100000
set_option linter.unusedSimpArgs false
set_option linter.unusedVariables false
namespace Go.Proofs.Ytmkijjmbiiiicaa
open Go.RowKit
section
variable {P : Program} {ops : Array Oper}
/-- In whatever order; what the operations from m on leave is asked nothing. -/
def anyS (P : Program) (ops : Array Oper) (D : World → Prop) (m : Nat) (Q : Act → World → Prop) : Nat → Array Bool → Act → World → Prop
  | 0, listed, a, w => Region.ready .any ops listed = [] ∧ Q a w
  | fuel + 1, listed, a, w => (Region.ready .any ops listed = [] → Q a w) ∧
      ∀ i ∈ Region.ready .any ops listed, wpOp P ops NoExit i (fun a' w' => (m ≤ i ∨ D w') ∧ anyS P ops D m Q fuel (listed.setIfInBounds i true) a' w') a w
theorem anyS.wpAny {D : World → Prop} {m : Nat} {Q : Exit → Act → World → Prop} : ∀ (fuel : Nat) (listed : Array Bool) (a : Act) (w : World),
    anyS P ops D m (Q .normal) fuel listed a w → wpAny P .any ops Q fuel listed a w
  | 0, _, _, _, h => h
  | fuel + 1, _, _, _, h => ⟨h.1, fun i hi => wpOp_of_noExit (wpOp_mono (fun a' w' h3 => anyS.wpAny fuel _ a' w' h3.2) (h.2 i hi))⟩
theorem anyS.mono {D D' : World → Prop} {m : Nat} {Q : Act → World → Prop} (hD : ∀ w, D' w → D w) : ∀ (fuel : Nat) (listed : Array Bool) (a : Act) (w : World),
    anyS P ops D' m Q fuel listed a w → anyS P ops D m Q fuel listed a w
  | 0, _, _, _, h => h
  | fuel + 1, _, _, _, h => ⟨h.1, fun i hi => wpOp_mono (fun a' w' h3 => ⟨h3.1.imp_right (hD _), anyS.mono hD fuel _ a' w' h3.2⟩) (h.2 i hi)⟩
/-- Those ahead of m are listed. -/
def headIn (m : Nat) (L : Array Bool) : Bool := (List.range m).all fun i => L.getD i false
theorem headIn_set {m : Nat} {L : Array Bool} (h : headIn m L = true) (j : Nat) : headIn m (L.setIfInBounds j true) = true := by
  unfold headIn at *
  rw [List.all_eq_true] at *
  exact fun i hi => getD_set_true (h i hi)
theorem headIn_get {m : Nat} {L : Array Bool} (h : headIn m L = true) {i : Nat} (hi : i < m) : L.getD i false = true := by
  unfold headIn at h
  rw [List.all_eq_true] at h
  exact h i (List.mem_range.2 hi)
theorem anyD.toS {D D2 : World → Prop} {m : Nat} {Q : Act → World → Prop} : ∀ (fuel : Nat) (listed : Array Bool) (a : Act) (w : World), headIn m listed = true →
    anyD P ops D2 Q fuel listed a w → anyS P ops D m Q fuel listed a w
  | 0, _, _, _, _, h => h
  | fuel + 1, L, _, _, hL, h => ⟨h.1, fun i hi => wpOp_mono (fun a' w' h3 => ⟨.inl (by
      rcases Nat.lt_or_ge i m with h1 | h1
      · have h2 := headIn_get hL h1
        rw [getD_ff (mem_ready.1 hi).1] at h2
        cases h2
      · exact h1), anyD.toS fuel _ a' w' (headIn_set hL i) h3.2⟩) (h.2 i hi)⟩
/-- Each ahead of m comes ahead of a later one up to m; each behind m comes behind one from m on. -/
def domOkS (ops : Array Oper) (m : Nat) : Bool :=
  ((List.range m).all fun i => (List.range (m + 1)).any fun j => Nat.blt i j && ((ops[j]?).map fun o => o.after.any fun e => Region.binds .any e && e.on == i).getD false) &&
  ((List.range ops.size).all fun j => Nat.ble j m || ((ops[j]?).map fun o => o.after.any fun e => Region.binds .any e && Nat.ble m e.on && Nat.blt e.on j).getD false)
theorem domS_next {m : Nat} (hd : domOkS ops m = true) {i : Nat} (hi : i < m) : ∃ j o, i < j ∧ j ≤ m ∧ ops[j]? = some o ∧ ∃ e ∈ o.after, Region.binds .any e = true ∧ e.on = i := by
  unfold domOkS at hd
  rw [Bool.and_eq_true, List.all_eq_true] at hd
  have h1 := hd.1 i (by rw [List.mem_range]; omega)
  rw [List.any_eq_true] at h1
  obtain ⟨j, hj, h2⟩ := h1
  rw [List.mem_range] at hj
  simp only [Bool.and_eq_true, Nat.blt_eq] at h2
  obtain ⟨h2, h3⟩ := h2
  cases ho : ops[j]? with
  | none => rw [ho] at h3; cases h3
  | some o =>
    rw [ho] at h3
    simp only [Option.map_some, Option.getD_some, Array.any_eq_true, Bool.and_eq_true, beq_iff_eq] at h3
    obtain ⟨x, hx, hb, hon⟩ := h3
    exact ⟨j, o, h2, by omega, ho, _, Array.getElem_mem hx, hb, hon⟩
theorem domS_back {m : Nat} (hd : domOkS ops m = true) {j : Nat} {o : Oper} (ho : ops[j]? = some o) (hj : m < j) : ∃ e ∈ o.after, Region.binds .any e = true ∧ m ≤ e.on ∧ e.on < j := by
  unfold domOkS at hd
  rw [Bool.and_eq_true, List.all_eq_true, List.all_eq_true] at hd
  have h1 := hd.2 j (by rw [List.mem_range]; exact (Array.getElem?_eq_some_iff.1 ho).1)
  rw [ho] at h1
  simp only [Option.map_some, Option.getD_some, Bool.or_eq_true, Nat.ble_eq, Array.any_eq_true, Bool.and_eq_true, Nat.blt_eq] at h1
  rcases h1 with h1 | ⟨x, hx, ⟨hb, h2⟩, h3⟩
  · omega
  · exact ⟨_, Array.getElem_mem hx, hb, h2, h3⟩
/-- All that one comes behind is listed. -/
def Due (ops : Array Oper) (L : Array Bool) (j : Nat) : Prop := ∃ o, ops[j]? = some o ∧ ∀ e ∈ o.after, Region.binds .any e = true → L.getD e.on false = true
theorem Due.down {m : Nat} (hd : domOkS ops m = true) {L : Array Bool} (hL : Down ops L) (hin : ∀ k, L.getD k false = true → ∃ o, ops[k]? = some o) : ∀ j, m ≤ j → Due ops L j → Due ops L m := by
  intro j
  induction j using Nat.strongRecOn with
  | _ j ih =>
    intro hj h
    by_cases hjm : j = m
    · subst hjm; exact h
    · obtain ⟨o, ho, hall⟩ := h
      obtain ⟨e, he, hb, h1, h2⟩ := domS_back hd ho (by omega)
      have h3 := hall e he hb
      obtain ⟨o2, ho2⟩ := hin _ h3
      exact ih e.on h2 h1 ⟨o2, ho2, hL _ _ ho2 h3⟩
theorem domS_all {m : Nat} (hd : domOkS ops m = true) {L : Array Bool} (hL : Down ops L) (hz : Due ops L m) : ∀ k i, m - i = k → i < m → L.getD i false = true := by
  intro k
  induction k using Nat.strongRecOn with
  | _ k ih =>
    intro i hk hi
    obtain ⟨j, o, hij, hj, ho, e, he, hb, hon⟩ := domS_next hd hi
    subst hon
    by_cases hjz : j = m
    · subst hjz
      obtain ⟨o', ho', hall⟩ := hz
      rw [ho'] at ho
      cases ho
      exact hall e he hb
    · exact hL j o ho (ih _ (by omega) j rfl (by omega)) e he hb
/-- What is listed is there, with all that it comes behind. -/
structure Listed (ops : Array Oper) (L : Array Bool) : Prop where
  down : Down ops L
  there : ∀ k, L.getD k false = true → ∃ o, ops[k]? = some o
theorem Listed.set {L : Array Bool} (h : Listed ops L) {j : Nat} (hj : j ∈ Region.ready .any ops L) : Listed ops (L.setIfInBounds j true) := by
  refine ⟨h.down.set hj, fun k hk => ?_⟩
  by_cases hkj : k = j
  · subst hkj
    obtain ⟨_, o, ho, _⟩ := mem_ready.1 hj
    exact ⟨o, ho⟩
  · have : (L.setIfInBounds j true).getD k false = L.getD k false := getD_set_ne false (Ne.symm hkj)
    exact h.there k (this ▸ hk)
theorem Listed.none (n : Nat) : Listed ops (Array.replicate n false) := by
  refine ⟨down_none n, fun k h => ?_⟩
  rw [Array.getD_eq_getD_getElem?, Array.getElem?_replicate] at h
  split at h <;> cases h
theorem anyS_first {D : World → Prop} {m : Nat} {Q : Act → World → Prop} {i : Nat} {oi : Oper} {v : Value} (hd : domOkS ops m = true) (hiz : i < m) (hi : ops[i]? = some oi) (hsel : ∀ (j : Nat) (o : Oper) cs b, ops[j]? = some o → o.op ≠ .select cs b) :
    ∀ (fuel : Nat) (listed : Array Bool) (a : Act) (w : World), D w → Listed ops listed →
      (∀ j oj, ops[j]? = some oj → j ≠ i → listed.getD j true = false → (∀ e ∈ oj.after, Region.binds .any e = true → e.on ≠ i) → oi.apart ops oj = true) →
      i ∈ Region.ready .any ops listed → YieldsD P ops D oi v a →
      anyS P ops D m Q fuel (listed.setIfInBounds i true) (a.put oi.dst v) w → anyS P ops D m Q (fuel + 1) listed a w := by
  intro fuel
  induction fuel with
  | zero =>
    intro listed a w hDw _ _ hr hy H
    refine ⟨fun h => (by rw [h] at hr; cases hr), fun j hj => ?_⟩
    by_cases hji : j = i
    · subst hji; exact hy.wpOp hi hDw ⟨.inr hDw, H⟩
    · have := ready_mono hj hji
      rw [H.1] at this
      cases this
  | succ fuel ih =>
    intro listed a w hDw hdn hfree hr hy H
    refine ⟨fun h => (by rw [h] at hr; cases hr), fun j hj => ?_⟩
    by_cases hji : j = i
    · subst hji; exact hy.wpOp hi hDw ⟨.inr hDw, H⟩
    · have hjz : ¬ m ≤ j := fun h => by
        have h2 : Due ops listed j := (mem_ready.1 hj).2
        have h1 := domS_all hd hdn.down (h2.down hd hdn.down hdn.there j h) _ i rfl hiz
        have h0 := getD_ff (mem_ready.1 hr).1
        rw [h1] at h0
        cases h0
      have h1 := H.2 j (ready_mono hj hji)
      obtain ⟨hjun, oj, hoj, hall⟩ := mem_ready.1 hj
      have hnot : ∀ e ∈ oj.after, Region.binds .any e = true → e.on ≠ i := fun e he hb heq => by
        have h1 := hall e he hb
        have h0 := (mem_ready.1 hr).1
        rw [heq] at h1
        rw [getD_ff h0] at h1
        cases h1
      have h2 := wpOp_putD hoj (hfree j oj hoj hji hjun hnot) (fun cs b => hsel i oi cs b hi) (fun cs b => hsel j oj cs b hoj) hy h1
      have hfree' : ∀ k ok, ops[k]? = some ok → k ≠ i → (listed.setIfInBounds j true).getD k true = false →
          (∀ e ∈ ok.after, Region.binds .any e = true → e.on ≠ i) → oi.apart ops ok = true := fun k ok hk hki hun hno => by
        refine hfree k ok hk hki ?_ hno
        by_cases hjk : j = k
        · subst hjk; exact hjun
        · rw [getD_set_ne true hjk] at hun; exact hun
      refine wpOp_mono (fun a' w' h3 => ?_) h2
      have hDw' : D w' := h3.2.1.resolve_left hjz
      refine ⟨.inr hDw', ih (listed.setIfInBounds j true) a' w' hDw' (hdn.set hj) hfree' (ready_mono hr (Ne.symm hji)) h3.1 ?_⟩
      rw [Array.setIfInBounds_comm _ _ hji]
      exact h3.2.2
def planOkS (ops : Array Oper) (m : Nat) (k2 : Plan) : Nat → Array Bool → Plan → Bool
  | n, listed, .nil => headIn m listed && planOk ops n listed k2
  | n + 1, listed, .q i k => Nat.blt i m && Region.free .any ops listed i && (Region.ready .any ops listed).contains i && planOkS ops m k2 n (listed.setIfInBounds i true) k
  | n + 1, listed, .e i k => (Region.ready .any ops listed == [i]) && planOkS ops m k2 n (listed.setIfInBounds i true) k
  | n + 1, listed, .two i j k h => (Region.ready .any ops listed == [i, j]) && planOkS ops m k2 n (listed.setIfInBounds i true) k && planOkS ops m k2 n (listed.setIfInBounds j true) h
  | 0, _, _ => false
/-- What is to be shown ahead of a region's other part. -/
def RestOf (P : Program) (ops : Array Oper) (k2 : Plan) (Q : Exit → Act → World → Prop) : Exit → Act → World → Prop := fun _ a w => ∃ D : World → Prop, D w ∧ planW P ops (Q .normal) k2 D a w
theorem planW.anyS {Q : Exit → Act → World → Prop} {m : Nat} {k2 : Plan} (hs : Region.noSelect ops = true) (hd : domOkS ops m = true) : ∀ (n : Nat) (ix : Plan) (D : World → Prop) (listed : Array Bool) (a : Act) (w : World), planOkS ops m k2 n listed ix = true → D w → Listed ops listed →
    planW P ops (RestOf P ops k2 Q .normal) ix D a w → Proofs.Ytmkijjmbiiiicaa.anyS P ops D m (Q .normal) n listed a w
  | n, .nil, D, listed, a, w, hok, hD, hdn, ⟨D2, h1, h2⟩ => by
    unfold planOkS at hok
    simp only [Bool.and_eq_true] at hok
    exact anyD.toS _ _ _ _ hok.1 (planW.anyD hs n k2 D2 _ _ _ hok.2 h1 h2)
  | n + 1, .q i ix, D, listed, a, w, hok, hD, hdn, ⟨o, v, hi, hy, h⟩ => by
    simp only [planOkS, Bool.and_eq_true, Nat.blt_eq] at hok
    have hrd : i ∈ Region.ready .any ops listed := by simpa using hok.1.2
    exact anyS_first hd hok.1.1.1 hi (Region.noSelect_spec hs) n listed a w hD hdn (Region.free_spec hi hok.1.1.2) hrd hy (planW.anyS hs hd n ix D _ _ _ hok.2 hD (hdn.set hrd) h)
  | n + 1, .e i ix, D, listed, a, w, hok, hD, hdn, h => by
    simp only [planOkS, Bool.and_eq_true, beq_iff_eq] at hok
    refine ⟨fun h0 => (by rw [hok.1] at h0; cases h0), fun j hj => ?_⟩
    have hj0 := hj
    rw [hok.1] at hj
    simp only [List.mem_singleton] at hj
    subst hj
    exact wpOp_mono (fun a' w' ⟨D', hD', hw', h'⟩ => ⟨.inr (hD' _ hw'), anyS.mono hD' _ _ _ _ (planW.anyS hs hd n ix D' _ a' w' hok.2 hw' (hdn.set hj0) h')⟩) h
  | n + 1, .two i j k r, D, listed, a, w, hok, hD, hdn, h => by
    simp only [planOkS, Bool.and_eq_true, beq_iff_eq] at hok
    refine ⟨fun h0 => (by rw [hok.1.1] at h0; cases h0), fun q hq => ?_⟩
    have hq0 := hq
    rw [hok.1.1] at hq
    simp only [List.mem_cons, List.not_mem_nil, or_false] at hq
    rcases hq with rfl | rfl
    · exact wpOp_mono (fun a' w' ⟨D', hD', hw', h'⟩ => ⟨.inr (hD' _ hw'), anyS.mono hD' _ _ _ _ (planW.anyS hs hd n k D' _ a' w' hok.1.2 hw' (hdn.set hq0) h')⟩) h.1
    · exact wpOp_mono (fun a' w' ⟨D', hD', hw', h'⟩ => ⟨.inr (hD' _ hw'), anyS.mono hD' _ _ _ _ (planW.anyS hs hd n r D' _ a' w' hok.2 hw' (hdn.set hq0) h')⟩) h.2
theorem wp_region_planS {id m : Nat} {k2 : Plan} {a : Act} {w : World} {Q : Exit → Act → World → Prop} (D : World → Prop) (ix : Plan) (hm : P.follows .mixedOrders = true)
    (hok : (Region.noSelect ops && domOkS ops m && planOkS ops m k2 ops.size (Array.replicate ops.size false) ix) = true) (hD : D w.drew)
    (h : planW P ops (RestOf P ops k2 Q .normal) ix D a w.drew) : (Code.region id ops true).wp P Q a w := by
  simp only [Bool.and_eq_true] at hok
  refine wp_region_any hm ?_
  exact anyS.wpAny _ _ _ _ (planW.anyS hok.1.1 hok.1.2 _ ix D _ a _ hok.2 hD (Listed.none _) h)
end
end Go.Proofs.Ytmkijjmbiiiicaa
namespace Go.Proofs.Ytmkijjmbiiiicaa.A
open Go.RowKit
section
variable {P : Program} {n : Nat} {W : Wd} {σ τ : Blks} {l : Slots} {X : List Nat} {x y : Operand} {d : Option Nat} {ty t t' e : TypeId} {pos : String} {aft : Array Edge} {g : Option (Nat × Bool)} {A : Abs} {tab : List (Nat × TI)} {ops : Array Oper} {Q : Exit → Act → World → Prop} {v : Value} {xs : List (List Abs)} {s q : Nat} {a b : Int}
/-- A region that draws, in two parts: what the second part changes, the first may read. -/
theorem SC.drawS {id : Nat} (m : Nat) (X : List Nat) (ix k2 : Plan) (hm : P.follows .mixedOrders = true)
    (hok : (Region.noSelect ops && domOkS ops m && planOkS ops m k2 ops.size (Array.replicate ops.size false) ix) = true) (h : SX P ops ix X (St n W σ l) (RestOf P ops k2 Q)) : SC P (.region id ops true) (St n W σ l) Q := fun a w hs =>
  wp_region_planS (fun w' => Ext X w.drew w') ix hm hok (Ext.refl _) (h a _ hs.drew)
theorem SE.rest {k2 : Plan} (X : List Nat) (h : SX P ops k2 X (St n W σ l) Q) : SE .normal (St n W σ l) (RestOf P ops k2 Q) := fun a w hs => ⟨fun w' => Ext X w w', Ext.refl w, h a w hs⟩
theorem repss_set {K : List Nat} {w : World} {ys : List Abs} {vs : List Value} (hy : reps K w ys vs) (hv : vs.length = s) : ∀ {xs : List (List Abs)} {us : List Value} {q : Nat}, repss K w s xs us → q < xs.length → repss K w s (xs.set q ys) (us.take (q * s) ++ vs ++ us.drop (q * s + s))
  | [], _, _, _, h => by simp at h
  | c :: xs, _, 0, ⟨u1, u2, h1, h2, h3, h4⟩, _ => by
    subst h1
    refine ⟨vs, u2, ?_, hv, hy, h4⟩
    simp [← h2]
  | c :: xs, _, q + 1, ⟨u1, u2, h1, h2, h3, h4⟩, hq => by
    subst h1
    have h5 := repss_set hy hv h4 (q := q) (by simpa using hq)
    refine ⟨u1, _, ?_, h2, h3, h5⟩
    have e1 : (q + 1) * s = u1.length + q * s := by rw [Nat.succ_mul]; omega
    rw [e1, Nat.add_assoc, List.take_length_add_append, List.drop_length_add_append]
    simp
/-- An element of a row of the call's own is another one then. -/
theorem Eff.setOwn (hT : TabOk P tab) {i : TI} {ys : List Abs} (ht : ti tab t = some i) (hx : look l x = some (.v (eptr v (q * s)))) (hy : look l y = some A) (hu : Upd (own e s v xs) (own e s v (xs.set q ys)) σ τ) (hc : cellsA A = ys) (hs : Nat.beq i.size s = true) (hl : Nat.beq ys.length s = true) (hq : q < xs.length) (h1 : ones ys = true) :
    Eff P n W σ l v.ownBlock.toList ⟨d, .store t x y, ty, pos, aft, g⟩ fun u τ' => u = .v undef ∧ τ' = τ := fun ac w hst => by
  have hs := Nat.eq_of_beq_eq_true hs
  have hl := Nat.eq_of_beq_eq_true hl
  obtain ⟨us, hown, hr⟩ : (ownPc e s v xs).p _ w := hst.mem.hold _ hu.mem
  have hry := cellsA_rep (hst.eval hy)
  rw [hc] at hry
  have hlen := reps_length hry
  have hone := ones_reps hry h1
  rcases hown.2 with ⟨h, h0⟩ | ⟨gb, cap, cur, hv, hbase, hg, hn, hcap, hsz, htk⟩
  · omega
  · subst hv
    have h2 := (hT t _ ht).sizeOf (w := w)
    have hb1 : q * s + s ≤ xs.length * s := by rw [← Nat.succ_mul]; exact Nat.mul_le_mul_right _ hq
    have hb2 : xs.length * s ≤ cap * s := Nat.mul_le_mul_right _ hn
    have hrun := run_storeCells_at (P := P) gb (0 + q * s) e (cellsL (ac.eval y)) 0 cur w hg (by omega) hone
    have e0 : 0 + q * s + 0 = q * s := by omega
    rw [e0] at hrun
    have hcl : cur.toList.length = cur.size := by simp
    have hle : (cellsL (ac.eval y)).length = s := by omega
    have hxx : Ext (Value.ownBlock (.slice (some ⟨gb, 0, none⟩) xs.length cap)).toList w (w.setRow gb (cur.toList.take (q * s) ++ cellsL (ac.eval y) ++ cur.toList.drop (q * s + (cellsL (ac.eval y)).length)).toArray) := (Ext.refl w).setRow (.inl (by simp [Value.ownBlock])) _
    have hnew : (cur.toList.take (q * s) ++ cellsL (ac.eval y) ++ cur.toList.drop (q * s + (cellsL (ac.eval y)).length)).take (xs.length * s) = us.take (q * s) ++ cellsL (ac.eval y) ++ us.drop (q * s + s) := by
      rw [← htk, hle]
      apply List.ext_getElem?
      intro j
      simp only [List.getElem?_take, List.getElem?_append, List.length_append, List.length_take, List.getElem?_drop, hle]
      grind
    have hm := hst.mem.upd hu hxx own_nodup (fun k hk => .inl hk) rfl fun hca => ⟨us.take (q * s) ++ cellsL (ac.eval y) ++ us.drop (q * s + s), ⟨?_, .inr ⟨gb, cap, _, by rw [List.length_set], hbase, setRow_heap w gb cur _ e (0, 0) hg, by rw [List.length_set]; exact hn, hcap, ?_, ?_⟩⟩, repss_carry hca _ _ _ (repss_set hry (by omega) hr hq)⟩
    · refine ⟨undef, _, _, _, ⟨rfl, rfl⟩, hxx, rfl, hm.1, hm.2, .inr ⟨rfl, ?_⟩⟩
      have hcs := cellsL_eq (ac.eval y)
      have hle2 : (cellsL (ac.eval y)).length = i.size := by omega
      have hx2 : ac.eval x = .pointer (some ⟨gb, 0 + q * s, none⟩) := hst.plain hx
      simp [execOp, hx2, Instr.storeAt, Instr.sureAddr, storeVar, Sem.run_bind, hcs, h2, hle2, hrun, Result.andThen]
      first | rfl | (simp only [Nat.zero_add] at hrun; simp [hle2, hrun])
    · have h5 := hown.1
      simp only [List.length_append, List.length_take, List.length_drop, List.length_set]
      omega
    · simp only [List.size_toArray, List.length_append, List.length_take, List.length_drop]
      omega
    · rw [List.length_set]
      simpa using hnew
end
end Go.Proofs.Ytmkijjmbiiiicaa.A
/-
  Layer 5: the book.
-/
set_option maxRecDepth 100000
namespace Go.Proofs.Ytmkijjmbiiiicaa
open Go.RowKit

def txt (l : List UInt8) : Value := .string ⟨l.toArray⟩
/-- What was digested. -/
def hashedV (p : Nat × List UInt8) : Value := .agg #[.int .u8 p.1, txt p.2]
def hashedOk (p : Nat × List UInt8) : Prop := p.1 < 256 ∧ p.2.length ≤ maxLen
/-- What was tagged. -/
def saidV (p : (Int × Int) × List UInt8) : Value := .agg #[.int .i64 p.1.1, .int .i64 p.1.2, txt p.2]
def i64r (n : Int) : Prop := -9223372036854775808 ≤ n ∧ n < 9223372036854775808
def saidOk (p : (Int × Int) × List UInt8) : Prop := i64r p.1.1 ∧ i64r p.1.2 ∧ p.2.length ≤ maxLen
theorem txt_inj {a b : List UInt8} (h : txt a = txt b) : a = b := by
  unfold txt at h
  injection h with h
  injection h with h
  simpa using congrArg Array.toList h
/-- A call of a Go function, as one step of a region that draws. -/
theorem step_go {P : Program} {ops : Array Oper} {o : Oper} {a : Act} {w : World} {K : Act → World → Prop} {Q : Exit → Act → World → Prop} {E : Prop} (hgd : o.guard = none) (f : FuncId) (xs : Array Operand) (ats : Array TypeId)
    (ho : o.op = .call { callee := .value (.func f), args := xs, argTypes := ats }) {R : Ending → World → Prop} (vals : Array Value) (hv : xs.map a.eval = vals) (hcall : (callFunc f (#[] ++ vals ++ #[])).run P w = .ok (.enter f vals) w) (hc : Calls P f vals w R) (h : ∀ e w', R e w' → ∃ v, e = .returned v ∧ K (a.put o.dst v) w') :
    if Region.wanted o (yielded ops a.tmps) = true then Oper.wp P o a w K Q else E := by
  have hw : Region.wanted o (yielded ops a.tmps) = true := by simp [Region.wanted, hgd]
  rw [if_pos hw]
  unfold Oper.wp
  subst hv
  have hr : (execOp a.eval o).run P w = .ok (.enter f (xs.map a.eval)) w := by
    obtain ⟨dst, op, ty, pos, after, guard⟩ := o
    dsimp only at ho
    subst ho
    rw [execOp_call_go]
    exact hcall
  rw [hr, Oper.upon_enter]
  refine hc.mono fun e w' hR => ?_
  obtain ⟨v, rfl, hk⟩ := h e w' hR
  exact hk

/-! ### A number as a digest -/
def numCells (f n : Nat) : List Value := .int .u8 f :: (List.replicate 23 (.int .u8 0) ++ (beBytes n 8).map bc)
def numV (f n : Nat) : Value := .agg (numCells f n).toArray
theorem slice32 (q : Nat) (w : World) : (Instr.sliceAt 93 (.pointer (some ⟨q, 0, none⟩)) (some (.int .i64 24)) none none).run Try.prog w = .ok (.slice (some ⟨q, 24, none⟩) 8 8) w := by
  have ha : Try.prog.arrayLen 93 = 32 := by kernel_rfl
  have hs : ((sizeOf (Try.prog.elem 93)).run Try.prog w) = .ok 1 w := by kernel_rfl
  rw [run_sliceAt_array_l (P := Try.prog) w 93 ⟨q, 0, none⟩ Try.underlying93 .i64 24 (by omega) (by rw [ha]; omega), hs, ha]
  rfl
attribute [local go_sem] slice32
def preCells (f : Nat) : List Value := .int .u8 f :: List.replicate 31 (.int .u8 0)
def zero32 : Array Value := (List.replicate 32 (.int .u8 0)).toArray
theorem run_alloc32 {tmps : Operand → Value} {dst pos after guard ty} {w : World} : (execOp tmps ⟨dst, .alloc 93, ty, pos, after, guard⟩).run Try.prog w = .ok (.value (.pointer (some ⟨w.heap.size, 0, none⟩))) (w.alloc (.cells zero32 93)) := by kernel_rfl
theorem own8 {w : World} {base n : Nat} {r : Value} (h : OwnB w base r ([] ++ beBytes n (Int.toNat 8))) : ∃ b off c, r = .slice (some ⟨b, off, none⟩) 8 c ∧ ∀ j u, ((beBytes n 8).map bc)[j]? = some u → w.cell? ((⟨b, off, none⟩ : Addr).add j) = some u := by
  obtain ⟨A, c, h1, _, _, _, h5⟩ := h.bytes
  obtain ⟨b, off, rfl, hc⟩ := h5 (by simp [beBytes])
  refine ⟨b, off, c, by rw [h1]; simp [beBytes_length], fun j u hu => ?_⟩
  have hadd : (⟨b, off, none⟩ : Addr).add j = ⟨b, off + j, none⟩ := by
    unfold Addr.add
    split
    · rename_i h0; subst h0; rfl
    · rfl
  rw [hadd]
  exact hc j u hu
theorem splice_num (f n : Nat) : splice (preCells f) 24 ((beBytes n 8).map bc) = numCells f n := by
  simp [splice, preCells, numCells, beBytes_length]
theorem num_one (f n : Nat) : (numCells f n).toArray.all (·.oneCell') = true := by
  rw [List.all_toArray, List.all_eq_true]
  intro v hv
  simp only [numCells, List.mem_cons, List.mem_append, List.mem_replicate, List.mem_map] at hv
  rcases hv with rfl | ⟨_, rfl⟩ | ⟨a, _, rfl⟩ <;> rfl
section
variable {α : Type} [DecidableEq α]
/-- Which number a key gets. -/
def pl (m : List (α × Nat)) (k : α) : Nat := (aget m k).getD (m.length + 1)
/-- What is known then. -/
def pm (m : List (α × Nat)) (k : α) : List (α × Nat) := if (aget m k).isSome then m else aput m k (m.length + 1)
end
def natV (n : Nat) : Value := .int .i64 n
end Go.Proofs.Ytmkijjmbiiiicaa
/-
  Layer 5: what a book tells.
-/
set_option maxRecDepth 100000
namespace Go.Proofs.Ytmkijjmbiiiicaa
open Go.RowKit

theorem conv_txt {w : World} {v : Value} {l : List UInt8} (h : BytesV w v l) : (convert 37 9 v).run Try.prog w = .ok (.string ⟨l.toArray⟩) w := by
  obtain ⟨A, c, rfl, _, _, h4, h5⟩ := h
  rcases A with _ | a
  · have := run_convert_bytes_nil (P := Try.prog) (w := w) 37 5 Try.underlying37 Try.underlying5 l.length c 9 Try.underlying9
    have hl : l = [] := by
      rcases l with _ | ⟨x, l⟩
      · rfl
      · obtain ⟨b, off, h0, _⟩ := h5 (by simp)
        cases h0
    subst hl
    exact this
  · refine run_convert_bytes_back (P := Try.prog) w 37 9 5 a c l Try.underlying37 Try.underlying5 Try.underlying9 (fun j hj => ?_)
    obtain ⟨b, off, h0, hc⟩ := h5 (by intro h0; have := congrArg List.length h0; simp at this; subst this; simp at hj)
    cases h0
    have hadd : (⟨b, off, none⟩ : Addr).add j = ⟨b, off + j, none⟩ := by
      unfold Addr.add
      split
      · rename_i h0; subst h0; rfl
      · rfl
    rw [hadd]
    exact hc j _ (by simp [bc, hj])
theorem run_store_num {w : World} {g f n : Nat} {t : TypeId} {cs : Array Value} (h : Blk w g t cs) (hs : cs.size = 32) : (storeCells ⟨g, 0, none⟩ (numCells f n)).run Try.prog w = .ok () (w.setRow g (numCells f n).toArray) := by
  have := run_storeCells_from (P := Try.prog) g t (numCells f n) 0 cs w h (by rw [hs]; simp [numCells, beBytes_length]) (fun v hv => by
    have := num_one f n
    rw [List.all_toArray, List.all_eq_true] at this
    exact this v hv)
  simpa using this
theorem numCells_length (f n : Nat) : (numCells f n).length = 32 := by simp [numCells, beBytes_length]
attribute [local go_sem] numCells_length
theorem run_allocD {tmps : Operand → Value} {dst pos after guard ty} {w : World} : (execOp tmps ⟨dst, .alloc 162, ty, pos, after, guard⟩).run Try.prog w = .ok (.value (.pointer (some ⟨w.heap.size, 0, none⟩))) (w.alloc (.cells zero32 162)) := by kernel_rfl
theorem run_allocT {tmps : Operand → Value} {dst pos after guard ty} {w : World} : (execOp tmps ⟨dst, .alloc 94, ty, pos, after, guard⟩).run Try.prog w = .ok (.value (.pointer (some ⟨w.heap.size, 0, none⟩))) (w.alloc (.cells zero32 94)) := by kernel_rfl
end Go.Proofs.Ytmkijjmbiiiicaa
/-
  Layer 5: a new book; what was said; the nil book.
-/
set_option maxRecDepth 100000
namespace Go.Proofs.Ytmkijjmbiiiicaa
open Go.RowKit

section
variable {P : Program} {ops : Array Oper} {rest : List Oper} {o : Oper} {a : Act} {Q : Act → Prop} {C : World → Prop}
/-- A guard, in a region that draws and is walked in the text's order. -/
theorem at_opq (o : Oper) (h : wpQuiet P ops C Q (o :: rest) a) : wpQuiet P ops C Q (o :: rest) a := h
/-- An operation by its run, in whatever world of the class. -/
theorem wpQuiet_value (hg : o.guard = none) (v : Value) (h : ∀ w, C w → (execOp a.eval o).run P w = .ok (.value v) w) (k : wpQuiet P ops C Q rest (a.put o.dst v)) : wpQuiet P ops C Q (o :: rest) a := by
  refine BigFrame.wpQuiet_want (by simp [Region.wanted, hg]) fun K hK => ?_
  exact ⟨v, fun w hw => by unfold Oper.quietAt; rw [h w hw]; exact ⟨rfl, rfl⟩, hK _ k⟩
end
section
variable {α β : Type} [DecidableEq α] {P : Program} {w : World} {b : Nat} {k e : TypeId} {K : α → Value} {V : β → Value} {Good : α → Prop} {m : List (α × β)} {o : Oper} {a : Act}
theorem run_mapGetOk (h : MapOf w b K V Good m) (kf : KeyFit P k K Good) (t : TypeId) (ht : P.underlying t = some (.map k e)) (z : Value) (hz : (zeroValue e).run P w = .ok z w) (c : α) (hc : Good c)
    (x y : Operand) (ho : o.op = .lookup t x y true) (hx : a.eval x = .map (some b)) (hy : a.eval y = K c) :
    (execOp a.eval o).run P w = .ok (.value (.tuple #[((aget m c).map V).getD z, .bool (aget m c).isSome])) w := by
  simp only [execOp, ho, hx, hy, Sem.run_bind, h.look_run kf ht hz hc true, if_true, Result.andThen_ok, Sem.run_pure]
omit [DecidableEq α] in
theorem run_mapLen (h : MapOf w b K V Good m) (t : TypeId) (ht : P.underlying t = some (.map k e)) (x : Operand) (ho : o.op = .call { callee := .builtin .len, args := #[x], argTypes := #[t] }) (hx : a.eval x = .map (some b)) :
    (execOp a.eval o).run P w = .ok (.value (.int .i64 m.length)) w := by
  simp [execOp, ho, resolve, invoke, builtin, hx, h.len_run ht o.type, Result.andThen]
end

theorem alloc_size (w : World) (o : Obj) : (w.alloc o).heap.size = w.heap.size + 1 := Array.size_push _
end Go.Proofs.Ytmkijjmbiiiicaa
/-
  Arrays of 32 bytes: are two the same?
-/
set_option maxRecDepth 100000
namespace Go.Proofs.Ytmkijjmbiiiicaa
open Go.RowKit

def litB (c : UInt8) : Lit := .int .u8 (c.toNat : Int)
theorem litB_inj {L M : List UInt8} (h : L.map litB = M.map litB) : L = M := by
  have hi : ∀ a b : UInt8, litB a = litB b → a = b := by
    intro a b hab
    unfold litB at hab
    injection hab with _ hab
    exact UInt8.toNat.inj (by omega)
  induction L generalizing M with
  | nil => cases M with
    | nil => rfl
    | cons _ _ => simp at h
  | cons a L ih => cases M with
    | nil => simp at h
    | cons b M =>
      simp only [List.map_cons, List.cons.injEq] at h
      rw [hi _ _ h.1, ih h.2]
theorem lits_bytes {m : Nat} {T : TypeId} (hu : Try.prog.underlying T = some (.array 32 5)) (hc : Try.prog.cellsOf T = 32) (L : List UInt8) (hL : L.length = 32) :
    Try.prog.keyLits (m + 2) T (L.map bc) = some (L.map litB) := by
  have h5 : Try.prog.cellsOf 5 = 1 := by kernel_rfl
  have hone : ∀ c : UInt8, Try.prog.keyLits (m + 1) 5 [bc c] = some [litB c] := by
    intro c
    have hb : c.toNat < 256 := c.toNat_lt
    have e1 : (Lit.int .u8 (c.toNat : Int)).wf = true := by
      simp only [Lit.wf, Bool.and_eq_true, decide_eq_true_eq]
      exact ⟨by show (0 : Int) ≤ _; omega, by show _ ≤ (255 : Int); omega⟩
    simp [Program.keyLits, Try.underlying5, bc, litB, e1]
  have hm : (List.range 32).mapM (fun i => Try.prog.keyLits (m + 1) 5 (((L.map bc).drop (i * 1)).take 1)) = some (L.map fun c => [litB c]) := by
    refine mapM_some_of_get _ _ (by simp [hL]) ?_
    intro i x hx
    have hi : i < 32 := by
      have := (List.getElem?_eq_some_iff.1 hx).1
      simpa using this
    have hxi : x = i := by
      have := (List.getElem?_eq_some_iff.1 hx).2
      simpa using this.symm
    subst hxi
    have hl : x < L.length := by omega
    have hd : ((L.map bc).drop (x * 1)).take 1 = [bc L[x]] := by
      rw [Nat.mul_one, List.drop_eq_getElem_cons (by simpa using hl)]
      simp
    rw [hd, hone]
    simp [hl]
  have hfl : (L.map fun c => [litB c]).flatten = L.map litB := by
    clear hm hL
    induction L with
    | nil => rfl
    | cons c L ih => simp [ih]
  have hlen : (L.map bc).length = Try.prog.cellsOf T := by simp [hL, hc]
  have hcell : (L.map bc).length = 32 := by simp [hL]
  unfold Program.keyLits
  rw [hu]
  split
  · simp_all
  · simp_all
  · simp_all
  · rename_i h1
    injection h1 with h1
    injection h1 with h1 h2
    subst h1
    subst h2
    rw [if_pos hlen, h5, hm, Option.map_some, hfl]
  · simp_all
  · simp_all
def arrB (L : List UInt8) : Value := .agg (L.map bc).toArray
theorem formedB {T : TypeId} (hu : Try.prog.underlying T = some (.array 32 5)) (hc : Try.prog.cellsOf T = 32) (L : List UInt8) (hL : L.length = 32) : (arrB L).formed Try.prog T = true := by
  simp [arrB, Value.formed, hu, hc, hL]
theorem eqlB {T : TypeId} (hu : Try.prog.underlying T = some (.array 32 5)) (hc : Try.prog.cellsOf T = 32) (hk : Try.prog.keyTypeAt 4 T = true) (L M : List UInt8) (hL : L.length = 32) (hM : M.length = 32) (b : Bool) (hb : decide (L = M) = b) (w : World) :
    (binOp .eql T (arrB L) (arrB M)).run Try.prog w = .ok (.bool b) w :=
  run_eql_lits (m := 4) (by decide) hk (formedB hu hc L hL) (formedB hu hc M hM) (lits_bytes (m := 0) hu hc L hL) (lits_bytes (m := 0) hu hc M hM) b (by
    rw [← hb, decide_eq_true_eq]
    exact ⟨fun h => by rw [h], litB_inj⟩) w
theorem neqB {T : TypeId} (hu : Try.prog.underlying T = some (.array 32 5)) (hc : Try.prog.cellsOf T = 32) (hk : Try.prog.keyTypeAt 4 T = true) (L M : List UInt8) (hL : L.length = 32) (hM : M.length = 32) (b : Bool) (hb : decide (L ≠ M) = b) (w : World) :
    (binOp .neq T (arrB L) (arrB M)).run Try.prog w = .ok (.bool b) w :=
  run_neq_lits (m := 4) (by decide) hk (formedB hu hc L hL) (formedB hu hc M hM) (lits_bytes (m := 0) hu hc L hL) (lits_bytes (m := 0) hu hc M hM) b (by
    rw [← hb, decide_eq_true_eq]
    exact ⟨fun h e => h (litB_inj e), fun h e => h (by rw [e])⟩) w
theorem eqlD (L M : List UInt8) (hL : L.length = 32) (hM : M.length = 32) (b : Bool) (hb : decide (L = M) = b) (w : World) : (binOp .eql 162 (arrB L) (arrB M)).run Try.prog w = .ok (.bool b) w :=
  eqlB Try.underlying162 (by kernel_rfl) (by kernel_rfl) L M hL hM b hb w
theorem eqlT (L M : List UInt8) (hL : L.length = 32) (hM : M.length = 32) (b : Bool) (hb : decide (L = M) = b) (w : World) : (binOp .eql 94 (arrB L) (arrB M)).run Try.prog w = .ok (.bool b) w :=
  eqlB Try.underlying94 (by kernel_rfl) (by kernel_rfl) L M hL hM b hb w
theorem neqD (L M : List UInt8) (hL : L.length = 32) (hM : M.length = 32) (b : Bool) (hb : decide (L ≠ M) = b) (w : World) : (binOp .neq 162 (arrB L) (arrB M)).run Try.prog w = .ok (.bool b) w :=
  neqB Try.underlying162 (by kernel_rfl) (by kernel_rfl) L M hL hM b hb w
theorem neqT (L M : List UInt8) (hL : L.length = 32) (hM : M.length = 32) (b : Bool) (hb : decide (L ≠ M) = b) (w : World) : (binOp .neq 94 (arrB L) (arrB M)).run Try.prog w = .ok (.bool b) w :=
  neqB Try.underlying94 (by kernel_rfl) (by kernel_rfl) L M hL hM b hb w
end Go.Proofs.Ytmkijjmbiiiicaa
/-
  Layer 5: is a tag the one that was made? Sizes.
-/
set_option maxRecDepth 100000
namespace Go.Proofs.Ytmkijjmbiiiicaa
open Go.RowKit

/-! ### Rows of 32 bytes -/
def numB (f n : Nat) : List UInt8 := UInt8.ofNat f :: (List.replicate 23 0 ++ beBytes n 8)
theorem numB_length (f n : Nat) : (numB f n).length = 32 := by simp [numB, beBytes_length]
theorem numCells_bytes (f n : Nat) (hf : f < 256) : numCells f n = (numB f n).map bc := by
  simp [numCells, numB, bc]
  omega
theorem numV_arr (f n : Nat) (hf : f < 256) : numV f n = arrB (numB f n) := by
  unfold numV arrB
  rw [numCells_bytes f n hf]
theorem zero_arr : Value.agg zero32 = arrB (List.replicate 32 0) := by
  unfold zero32 arrB
  congr 1
/-- A guarded call of a Go function, as one step of a region that draws. -/
theorem step_gog {P : Program} {ops : Array Oper} {o : Oper} {a : Act} {w : World} {K : Act → World → Prop} {Q : Exit → Act → World → Prop} {E : Prop} (hw : Region.wanted o (yielded ops a.tmps) = true) (f : FuncId) (xs : Array Operand) (ats : Array TypeId)
    (ho : o.op = .call { callee := .value (.func f), args := xs, argTypes := ats }) {R : Ending → World → Prop} (vals : Array Value) (hv : xs.map a.eval = vals) (hcall : (callFunc f (#[] ++ vals ++ #[])).run P w = .ok (.enter f vals) w) (hc : Calls P f vals w R) (h : ∀ e w', R e w' → ∃ v, e = .returned v ∧ K (a.put o.dst v) w') :
    if Region.wanted o (yielded ops a.tmps) = true then Oper.wp P o a w K Q else E := by
  rw [if_pos hw]
  subst hv
  unfold Oper.wp
  have hr : (execOp a.eval o).run P w = .ok (.enter f (xs.map a.eval)) w := by
    obtain ⟨dst, op, ty, pos, after, guard⟩ := o
    dsimp only at ho
    subst ho
    rw [execOp_call_go]
    exact hcall
  rw [hr, Oper.upon_enter]
  refine hc.mono fun e w' hR => ?_
  obtain ⟨v, rfl, hk⟩ := h e w' hR
  exact hk
/-- A load of a whole array, kept whole by the walk. -/
def loadArr (t : TypeId) (v : Value) : Sem Next := execOp (fun _ => v) ⟨none, .load t (.tmp 0), 0, "", #[], none⟩
theorem loadArr_T (a : Act) (dst x ty pos after guard) : execOp a.eval ⟨dst, .load 94 x, ty, pos, after, guard⟩ = loadArr 94 (a.eval x) := rfl
theorem loadArr_D (a : Act) (dst x ty pos after guard) : execOp a.eval ⟨dst, .load 162 x, ty, pos, after, guard⟩ = loadArr 162 (a.eval x) := rfl
theorem run_loadArr_T {w : World} {g : Nat} {L : List UInt8} (h : Blk w g 94 (L.map bc).toArray) (hL : L.length = 32) : (loadArr 94 (.pointer (some ⟨g, 0, none⟩))).run Try.prog w = .ok (.value (.agg (L.map bc).toArray)) w := by
  have h1 : (Try.prog.info? 94).map (·.size) = some 32 := by kernel_rfl
  unfold loadArr execOp
  simp only [Instr.loadAt, Instr.sureAddr, Sem.run_bind, Sem.run_pure, Result.andThen_ok, run_loadVar_row w g 94 94 (L.map bc).toArray (0, 0) _ h Try.underlying94 rfl (by rw [h1]; simp [hL])]
theorem run_loadArr_D {w : World} {g : Nat} {L : List UInt8} (h : Blk w g 162 (L.map bc).toArray) (hL : L.length = 32) : (loadArr 162 (.pointer (some ⟨g, 0, none⟩))).run Try.prog w = .ok (.value (.agg (L.map bc).toArray)) w := by
  have h1 : (Try.prog.info? 162).map (·.size) = some 32 := by kernel_rfl
  unfold loadArr execOp
  simp only [Instr.loadAt, Instr.sureAddr, Sem.run_bind, Sem.run_pure, Result.andThen_ok, run_loadVar_row w g 162 162 (L.map bc).toArray (0, 0) _ h Try.underlying162 rfl (by rw [h1]; simp [hL])]
attribute [local go_sem ↓] loadArr_T
theorem pm_some {α : Type} [DecidableEq α] {m : List (α × Nat)} {k : α} (h : (aget m k).isSome = true) : pm m k = m := if_pos h
end Go.Proofs.Ytmkijjmbiiiicaa
/-
  Layer 5: the statements' walks.
-/
set_option maxRecDepth 100000
namespace Go.Proofs.Ytmkijjmbiiiicaa
open Go.RowKit

section
variable {P : Program} {ops : Array Oper} {rest : List Oper} {o : Oper} {a : Act} {w : World} {Q : Exit → Act → World → Prop}
/-- A guarded operation that is wanted, by its run. -/
theorem wpList_valueg (hw : Region.wanted o (yielded ops a.tmps) = true) (v : Value) (w' : World) (h : (execOp a.eval o).run P w = .ok (.value v) w') (k : wpList P ops Q rest (a.put o.dst v) w') : wpList P ops Q (o :: rest) a w :=
  wpList_step fun K hK => by
    rw [if_pos hw]
    unfold Oper.wp
    rw [h]
    exact hK _ _ k
theorem run_load_whole (ty : TypeId) (x : Operand) (ho : o.op = .load ty x) (g : Nat) (hx : a.eval x = .pointer (some ⟨g, 0, none⟩)) (t : TypeId) (cs : Array Value) (fr : Nat × Nat) (d : TypeDesc) (hg : w.heap[g]? = some (.cells cs t fr))
    (hu : P.underlying ty = some d) (hd : (match d with | .struct _ | .array _ _ => true | _ => false) = true) (hi : (P.info? ty).map (·.size) = some cs.size) : (execOp a.eval o).run P w = .ok (.value (.agg cs)) w := by
  unfold execOp
  simp only [ho, hx, Instr.loadAt, Instr.sureAddr, Sem.run_bind, Sem.run_pure, Result.andThen_ok, run_loadVar_row w g t ty cs fr d hg hu hd hi]
end
theorem bytes_blk {w : World} {g : Nat} {t : TypeId} {l : List UInt8} (h : Blk w g t (l.map bc).toArray) (hl : l.length ≤ maxLen) : BytesV w (.slice (some ⟨g, 0, none⟩) l.length l.length) l := by
  refine ⟨_, _, rfl, Nat.le_refl _, hl, by simp, fun _ => ⟨g, 0, rfl, fun j u hu => ?_⟩⟩
  rw [Nat.zero_add, Blk.cell h, List.getElem?_toArray]
  exact hu
def litA (w : World) : World := w.alloc (.cells #[.int .u8 97] 5 (1, 2))
theorem conv_lit {tmps : Operand → Value} {dst pos after guard ty} {w : World} {x : Operand} (hx : tmps x = .slice (some ⟨w.heap.size, 0, none⟩) 1 1) : (execOp tmps ⟨dst, .convert 37 37 x, ty, pos, after, guard⟩).run Try.prog (w.alloc (.cells #[.int .u8 97] 5)) = .ok (.value (.slice (some ⟨w.heap.size, 0, none⟩) 1 1)) (litA w) := by
  have := Lib.run_convert_bytes_const (P := Try.prog) w 37 5 #[.int .u8 97] 1 1 Try.underlying37 Try.underlying5
  simp only [execOp, hx, Sem.run_bind, this, Result.andThen_ok, Sem.run_pure]
  rfl
theorem litA_bytes (w : World) : BytesV (litA w) (.slice (some ⟨w.heap.size, 0, none⟩) 1 1) [97] := by
  refine ⟨_, 1, rfl, by simp, by decide, by simp, fun _ => ⟨w.heap.size, 0, rfl, fun j u hu => ?_⟩⟩
  rw [Nat.zero_add, cell_of_row (litA w) w.heap.size j #[.int .u8 97] 5 (1, 2) (heap_alloc_new w _)]
  simpa [bc] using hu
theorem litA_bytes' (w : World) (n : Nat) (hn : w.heap.size = n) : BytesV (litA w) (.slice (some ⟨n, 0, none⟩) 1 1) [97] := by subst hn; exact litA_bytes w
theorem litA_ext (w : World) : Ext [] w (litA w) := Ext.new w _
def fixD : List ((Nat × List UInt8) × Nat) := [((3, [97]), 1)]
def fixT : List (((Int × Int) × List UInt8) × Nat) := [(((1, 2), [97]), 1)]
theorem run_built {tmps : Operand → Value} {dst pos after guard ty} {w : World} (htm : tmps (.const (.int .u8 97)) = .int .u8 97) : (execOp tmps ⟨dst, .buildSlice 37 1 #[(0, .const (.int .u8 97))], ty, pos, after, guard⟩).run Try.prog w = .ok (.value (.slice (some ⟨w.heap.size, 0, none⟩) 1 1)) (w.alloc (.cells #[.int .u8 97] 5)) := by
  simp [execOp, htm]
  kernel_rfl
end Go.Proofs.Ytmkijjmbiiiicaa
/-
  Layer 5, in plain Lean: whose number is the first one's.
-/
set_option maxRecDepth 100000
namespace Go.Proofs.Ytmkijjmbiiiicaa
open Go.RowKit

section
variable {α : Type} [DecidableEq α] {m : List (α × Nat)} {k c : α}
/-- k has number 1, and no other key has it. -/
structure Inv1 (m : List (α × Nat)) (k : α) : Prop where
  one : aget m k = some 1
  only : ∀ c, aget m c = some 1 → c = k
  pos : 1 ≤ m.length
theorem Inv1.start (k : α) : Inv1 (pm [] k) k := by
  have h : pm [] k = [(k, 1)] := by simp [pm, aget, aput]
  rw [h]
  refine ⟨by simp [aget], fun c hc => ?_, by simp⟩
  unfold aget at hc
  by_cases hk : k = c
  · exact hk.symm
  · simp [hk] at hc
theorem Inv1.step (h : Inv1 m k) (c : α) : Inv1 (pm m c) k := by
  unfold pm
  split
  · exact h
  · rename_i hn
    have hck : ¬ k = c := by
      rintro rfl
      rw [h.one] at hn
      simp at hn
    refine ⟨?_, fun d hd => ?_, ?_⟩
    · rw [aget_aput, if_neg hck]; exact h.one
    · rw [aget_aput] at hd
      split at hd
      · have := h.pos
        have := Option.some.inj hd
        omega
      · exact h.only d hd
    · rw [aput_length, if_neg hn]; omega
theorem Inv1.pl (h : Inv1 m k) (c : α) : pl m c = 1 ↔ c = k := by
  unfold Proofs.Ytmkijjmbiiiicaa.pl
  have hp := h.pos
  constructor
  · intro he
    cases hc : aget m c with
    | none => rw [hc] at he; change m.length + 1 = 1 at he; omega
    | some v =>
      rw [hc] at he
      simp at he
      subst he
      exact h.only c hc
  · rintro rfl
    rw [h.one]
    rfl
theorem pm_length (m : List (α × Nat)) (c : α) : (pm m c).length ≤ m.length + 1 := by
  unfold pm
  split
  · omega
  · rename_i hn; rw [aput_length, if_neg hn]; omega
end
theorem beBytes_inj (n : Nat) : ∀ v v', beBytes v n = beBytes v' n → v % 256 ^ n = v' % 256 ^ n := by
  induction n with
  | zero => intro v v' _; simp [Nat.mod_one]
  | succ n ih =>
    intro v v' h
    simp only [beBytes] at h
    have hl : (beBytes (v / 256) n).length = (beBytes (v' / 256) n).length := by rw [beBytes_length, beBytes_length]
    obtain ⟨h1, h2⟩ := List.append_inj h hl
    have h3 := ih _ _ h1
    have h4 : v % 256 = v' % 256 := by
      have := congrArg (List.map UInt8.toNat) h2
      simpa using this
    rw [Nat.pow_succ, Nat.mul_comm, Nat.mod_mul, Nat.mod_mul, h3, h4]
theorem numB_inj {f n f' n' : Nat} (hf : f < 256) (hf' : f' < 256) (hn : n < 18446744073709551616) (hn' : n' < 18446744073709551616) (h : numB f n = numB f' n') : f = f' ∧ n = n' := by
  unfold numB at h
  rw [List.cons.injEq] at h
  obtain ⟨h1, h2⟩ := h
  have h3 := List.append_cancel_left h2
  have h4 := beBytes_inj 8 _ _ h3
  rw [Nat.mod_eq_of_lt (by omega), Nat.mod_eq_of_lt (by omega)] at h4
  refine ⟨?_, h4⟩
  have := congrArg UInt8.toNat h1
  simp at this
  omega
end Go.Proofs.Ytmkijjmbiiiicaa
/-
  Texts as keys of maps; keys that are numbered as they come.
-/
set_option maxRecDepth 100000
set_option linter.unusedSimpArgs false
set_option linter.unusedVariables false
namespace Go.Proofs.Ytmkijjmbiiiicaa.A
open Go.RowKit

def sOk (s : ByteArray) : Prop := s.size ≤ maxLen
theorem s_fit : KeyFit Try.prog 9 Value.string sOk where
  keyed := Maps.string_keyed Try.underlying9
  lit a h := ⟨_, WideMaps.keyOf_string_mk Try.underlying9 h⟩
  inj a b _ _ h := by injection h
section
variable {α : Type} [DecidableEq α] {T : List (α × Nat)} {k k' : α} {v : Nat}
/-- Each key has a number of its own, from 1 on. -/
structure Num1 (T : List (α × Nat)) : Prop where
  pos : ∀ k v, aget T k = some v → 1 ≤ v ∧ v ≤ T.length
  inj : ∀ k k' v, aget T k = some v → aget T k' = some v → k = k'
theorem Num1.nil : Num1 ([] : List (α × Nat)) := ⟨fun k v h => by simp [aget] at h, fun k k' v h => by simp [aget] at h⟩
theorem Num1.put (h : Num1 T) (k : α) : Num1 (pm T k) := by
  unfold pm
  split
  · exact h
  · rename_i hn
    refine ⟨fun c v hc => ?_, fun c c' v hc hc' => ?_⟩
    · rw [aput_length, if_neg hn]
      rw [aget_aput] at hc
      split at hc
      · have := Option.some.inj hc
        omega
      · have := h.pos c v hc
        omega
    · rw [aget_aput] at hc hc'
      split at hc
      · next e =>
        split at hc'
        · next e' => exact e.trans e'.symm
        · have h1 := Option.some.inj hc
          have := h.pos c' v hc'
          omega
      · split at hc'
        · have h1 := Option.some.inj hc'
          have := h.pos c v hc
          omega
        · exact h.inj c c' v hc hc'
theorem Num1.zero (h : Num1 T) (k : α) : cget T k = 0 ↔ aget T k = none := by
  unfold cget
  cases hk : aget T k with
  | none => simp
  | some v =>
    have := h.pos k v hk
    simp
    omega
theorem Num1.pl_le (h : Num1 T) (k : α) : pl T k ≤ T.length + 1 := by
  unfold pl
  cases hk : aget T k with
  | none => exact Nat.le_refl _
  | some v =>
    have := h.pos k v hk
    show v ≤ _
    omega
theorem pm_new (hk : aget T k = none) : pm T k = aput T k (T.length + 1) := by
  unfold pm
  rw [if_neg (by rw [hk]; decide)]
theorem pm_old (hk : ¬ aget T k = none) : pm T k = T := by
  unfold pm
  rw [if_pos (by cases h : aget T k with | none => exact absurd h hk | some v => rfl)]
theorem cget_pm : cget (pm T k) k = pl T k := by
  unfold cget pl
  by_cases hk : aget T k = none
  · rw [pm_new hk, aget_aput, if_pos rfl, hk]
    rfl
  · rw [pm_old hk]
    cases h : aget T k with
    | none => exact absurd h hk
    | some v => rfl
theorem aget_pm (c : α) : aget (pm T k) c = if c = k then some (pl T k) else aget T c := by
  by_cases hk : aget T k = none
  · rw [pm_new hk, aget_aput]
    unfold pl
    rw [hk]
    rfl
  · rw [pm_old hk]
    split
    · next e =>
      rw [e]
      unfold pl
      cases h : aget T k with
      | none => exact absurd h hk
      | some v => rfl
    · rfl
end
end Go.Proofs.Ytmkijjmbiiiicaa.A
/-
  Whoever numbers what is tagged, as it comes: the tags of those told, plain.
-/
set_option maxRecDepth 100000
set_option linter.unusedSimpArgs false
set_option linter.unusedVariables false
namespace Go.Proofs.Ytmkijjmbiiiicaa.A
open Go.RowKit

section
variable {α : Type} [DecidableEq α] {T : List (α × Nat)} {k : α} {g : Int → α} {l : List Int}
def hasK (T : List (α × Nat)) (k : α) : Bool := (aget T k).isSome
theorem hasK_iff : hasK T k = true ↔ ¬ aget T k = none := by
  unfold hasK
  cases aget T k <;> simp
theorem hasK_pm (c : α) : hasK (pm T k) c = (decide (c = k) || hasK T c) := by
  unfold hasK
  rw [aget_pm]
  by_cases h : c = k <;> simp [h]
theorem pl_keep {c : α} (h : hasK T c = true) : pl (pm T k) c = pl T c := by
  rw [hasK_iff] at h
  unfold pl
  rw [aget_pm]
  split
  · next e =>
    subst e
    unfold pl
    cases hc : aget T c with
    | none => exact absurd hc h
    | some v => rfl
  · cases hc : aget T c with
    | none => exact absurd hc h
    | some v => rfl
theorem pl_self : pl (pm T k) k = pl T k := by
  show (aget (pm T k) k).getD _ = _
  rw [aget_pm, if_pos rfl]
  rfl
/-- Those told, one behind the other. -/
def tmG (g : Int → α) (T : List (α × Nat)) (l : List Int) : List (α × Nat) := l.foldl (fun T w => pm T (g w)) T
theorem tmG_snoc (g : Int → α) (T : List (α × Nat)) (l : List Int) (w : Int) : tmG g T (l ++ [w]) = pm (tmG g T l) (g w) := by
  unfold tmG
  rw [List.foldl_append]
  rfl
theorem tmG_app (g : Int → α) (T : List (α × Nat)) (l m : List Int) : tmG g T (l ++ m) = tmG g (tmG g T l) m := by
  unfold tmG
  rw [List.foldl_append]
theorem tmG_num (h : Num1 T) (g : Int → α) : ∀ l : List Int, Num1 (tmG g T l) := fun l => by
  induction l generalizing T with
  | nil => exact h
  | cons w l ih => exact ih (h.put (g w))
theorem tmG_len (g : Int → α) (T : List (α × Nat)) (l : List Int) : (tmG g T l).length ≤ T.length + l.length := by
  induction l generalizing T with
  | nil => exact Nat.le_refl _
  | cons w l ih =>
    have h1 := ih (T := pm T (g w))
    have h2 := pm_length T (g w)
    show (tmG g (pm T (g w)) l).length ≤ _
    rw [List.length_cons]
    omega
theorem tmG_has (g : Int → α) (T : List (α × Nat)) (c : α) : ∀ l : List Int, hasK (tmG g T l) c = (hasK T c || l.any fun w => decide (c = g w)) := fun l => by
  induction l generalizing T with
  | nil => simp [tmG]
  | cons w l ih =>
    show hasK (tmG g (pm T (g w)) l) c = _
    rw [ih, hasK_pm, List.any_cons]
    cases decide (c = g w) <;> cases hasK T c <;> rfl
theorem tmG_keep {c : α} (g : Int → α) (h : hasK T c = true) : ∀ l : List Int, pl (tmG g T l) c = pl T c := fun l => by
  induction l generalizing T with
  | nil => rfl
  | cons w l ih =>
    show pl (tmG g (pm T (g w)) l) c = _
    rw [ih (by rw [hasK_pm, h, Bool.or_true]), pl_keep h]
def tagN (T : List (α × Nat)) (k : α) : Tg := ⟨numB 255 (pl T k), numB_length _ _⟩
/-- The tags of those told. -/
def tagsG (g : Int → α) (T : List (α × Nat)) (l : List Int) : List Tg := l.map fun w => tagN (tmG g T l) (g w)
theorem tagsG_length (g : Int → α) (T : List (α × Nat)) (l : List Int) : (tagsG g T l).length = l.length := by simp [tagsG]
theorem tagsG_snoc (g : Int → α) (T : List (α × Nat)) (l : List Int) (w : Int) : (tagsG g T l).map Tg.abs ++ [digA (numB 255 (pl (tmG g T l) (g w)))] = (tagsG g T (l ++ [w])).map Tg.abs := by
  unfold tagsG
  rw [tmG_snoc, List.map_append, List.map_append]
  congr 1
  · rw [List.map_map, List.map_map]
    refine List.map_congr_left fun v hv => ?_
    have hh : hasK (tmG g T l) (g v) = true := by
      rw [tmG_has, Bool.or_eq_true]
      exact .inr (List.any_eq_true.2 ⟨v, hv, by simp⟩)
    show digA (numB 255 _) = digA (numB 255 _)
    rw [pl_keep hh]
  · show _ = [digA (numB 255 _)]
    rw [pl_self]
/-- Does a tag hold? -/
def chkG (T : List (α × Nat)) (k : α) (M : List UInt8) : Bool := hasK T k && decide (M = numB 255 (pl T k))
theorem chkG_iff (h : Num1 T) (hl : T.length < 1000000) {M : List UInt8} : chkG T k M = true ↔ hasK T k = true ∧ M = numB 255 (pl T k) := by
  unfold chkG
  rw [Bool.and_eq_true, decide_eq_true_iff]
theorem Num1.pl_inj (h : Num1 T) {j k : α} (hj : hasK T j = true) (hk : hasK T k = true) (e : pl T j = pl T k) : j = k := by
  unfold hasK at hj hk
  obtain ⟨v, hv⟩ := Option.isSome_iff_exists.1 hj
  obtain ⟨u, hu⟩ := Option.isSome_iff_exists.1 hk
  have e1 : pl T j = v := by unfold pl; rw [hv]; rfl
  have e2 : pl T k = u := by unfold pl; rw [hu]; rfl
  have : v = u := by omega
  subst this
  exact h.inj j k v hv hu
end
end Go.Proofs.Ytmkijjmbiiiicaa.A
/-
  Pieces that are read alone.
-/
set_option maxRecDepth 100000
set_option linter.unusedSimpArgs false
set_option linter.unusedVariables false
namespace Go.Proofs.Ytmkijjmbiiiicaa.A
open Go.RowKit

def Rds (σ : Blks) : Prop := ∀ x ∈ σ, (∃ b t cs, x = .rd b t cs) ∨ ∃ c, x = .rdpc c
theorem Rds.reads {σ τ : Blks} (h : Rds τ) (hs : ∀ x ∈ τ, x ∈ σ) : Reads σ τ := by
  induction τ with
  | nil => exact .nil
  | cons x τ ih =>
    have h1 := ih (fun y hy => h y (List.mem_cons_of_mem _ hy)) (fun y hy => hs y (List.mem_cons_of_mem _ hy))
    have hx := hs x List.mem_cons_self
    rcases h x List.mem_cons_self with ⟨b, t, cs, rfl⟩ | ⟨c, rfl⟩
    · exact .rd hx h1
    · exact .rdpc hx h1
end Go.Proofs.Ytmkijjmbiiiicaa.A
