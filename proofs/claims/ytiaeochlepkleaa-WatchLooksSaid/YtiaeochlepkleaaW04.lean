/-
  Packed out of the texts: LedEq, LedF, LedK, LedL, LedD, Tml, A21, Batch1, Batch2, Batch3, RdCan, Batch4, Batch5, Batch6, BatchTwo, A7, Agr, Wat, A25, A26, AG1, AG2, CO1, CO5, CO6.
-/
import Derived.Test.YtiaeochlepkleaaW03
/-
  Ledgers, plain: '==' on letters and outcomes; what may be.
-/
set_option maxRecDepth 100000
set_option linter.unusedSimpArgs false
set_option linter.unusedVariables false
namespace Go.Proofs.Ytiaeochlepkleaa.A
open Go.RowKit

section
variable {P : Program} {n : Nat} {W : Wd} {σ : Blks} {l : Slots} {X : List Nat} {x y : Operand} {d : Option Nat} {ty t t' : TypeId} {pos : String} {aft : Array Edge} {g : Option (Nat × Bool)} {s r : ByteArray}
end
theorem wfI {a : Int} (h : i64ok a) : (Lit.int .i64 a).wf = true := by
  obtain ⟨h0, h1⟩ := h
  simp [Lit.wf, IntKind.min, IntKind.max, IntKind.signed, IntKind.bits]; omega
/-! ### Letters -/
/-- A letter as it comes in. -/
structure LtIns (x : Ltr) : Prop extends x.Wf where
  name : x.name.size ≤ maxLen
  policy : x.policy.size ≤ maxLen
  papers : x.papers.size ≤ maxLen
noncomputable instance : DecidableEq Ltr := fun _ _ => Classical.propDecidable _
noncomputable instance : DecidableEq Oc := fun _ _ => Classical.propDecidable _
noncomputable instance : DecidableEq Lg := fun _ _ => Classical.propDecidable _
structure OcIns (o : Oc) : Prop where
  client : i64ok o.client
  stamp : i64ok o.stamp
  result : i64ok o.result
structure Lg.Ins (l : Lg) : Prop where
  seq : i64ok l.seq
  total : i64ok l.total
  ls : ∀ x ∈ l.ls, LtIns x
  os : ∀ o ∈ l.os, OcIns o
theorem Lg.Ins.wf {l : Lg} (h : l.Ins) : l.Wf := ⟨h.seq, h.total, fun x hx => (h.ls x hx).toWf⟩
structure EnIns (e : Ent) : Prop where
  client : i64ok e.core.client
  stamp : i64ok e.core.stamp
  op : i64ok e.core.op
  a : i64ok e.core.a
  b : i64ok e.core.b
  letter : e.core.letter.size ≤ maxLen
  text : e.core.text.size ≤ maxLen
  mask : e.mask < 4294967296
section
variable {l : Lg} {x : Ltr} {e : Ent} {c : Core} {n : Int} {op a b : Int} {t : ByteArray}
end
/-! ### What may be -/
structure LtR (x : Ltr) : Prop where
  name : nameB x.name = true
  state : 1 ≤ x.state ∧ x.state ≤ 7
  amount : 1 ≤ x.amount ∧ x.amount ≤ 1099511627776
  due : isAmt x.due = true
  policy : x.policy.size ≤ 200
  papers : x.papers.size ≤ 200
structure OcR (o : Oc) : Prop where
  client : 0 ≤ o.client ∧ o.client ≤ 63
  stamp : 1 ≤ o.stamp ∧ o.stamp ≤ 1099511627776
  result : 0 ≤ o.result ∧ o.result ≤ 99
structure LtsR (ls : List Ltr) : Prop where
  each : ∀ j (h : j < ls.length), LtR ls[j]
  rise : ∀ j (h : j < ls.length), 0 < j → ltB (ls[j - 1]'(by omega)).name ls[j].name
structure OcsR (os : List Oc) : Prop where
  each : ∀ j (h : j < os.length), OcR os[j]
  rise : ∀ j (h : j < os.length), 0 < j → (os[j - 1]'(by omega)).client < os[j].client
/-- A ledger that may be. -/
structure Lg.Right (l : Lg) : Prop where
  os : OcsR l.os
  seq : 0 ≤ l.seq ∧ l.seq ≤ 1048576
  total : isAmt l.total = true
  few : l.os.length ≤ 4
  ls : LtsR l.ls
  lsFew : l.ls.length ≤ 16
noncomputable instance (ls : List Ltr) : Decidable (LtsR ls) := Classical.propDecidable _
noncomputable instance (os : List Oc) : Decidable (OcsR os) := Classical.propDecidable _
noncomputable instance (l : Lg) : Decidable l.Right := Classical.propDecidable _
end Go.Proofs.Ytiaeochlepkleaa.A
/-
  Batches of entries, plain.
-/
namespace Go.Proofs.Ytiaeochlepkleaa.A
open Go.RowKit

/-- Not too great to be asked about. -/
structure FewC (l : Lg) (es : List Ent) : Prop where
  ls : ∀ j (h : j < l.ls.length), l.ls[j].name.size ≤ 100 ∧ l.ls[j].policy.size ≤ 300 ∧ l.ls[j].papers.size ≤ 300
  en : ∀ j (h : j < es.length), es[j].core.letter.size ≤ 100 ∧ es[j].core.text.size ≤ 300
  nl : l.ls.length ≤ 64
  no : l.os.length ≤ 64
  ne : es.length ≤ 40
noncomputable instance (l : Lg) (es : List Ent) : Decidable (FewC l es) := Classical.propDecidable _
theorem FewC.name {l : Lg} {es : List Ent} (h : FewC l es) : ∀ x ∈ l.ls, x.name.size ≤ lots := fun x hx => by
  obtain ⟨j, hj, rfl⟩ := List.getElem_of_mem hx
  have := (h.ls j hj).1
  unfold lots
  omega
abbrev entsR (es : List Ent) : Abs := .sl 8 (es.map entA)
end Go.Proofs.Ytiaeochlepkleaa.A
/-
  Rows with keys in order, plain: what is put in keeps the order; unlike keys may go in any order.
-/
namespace Go.Proofs.Ytiaeochlepkleaa.A
open Go.RowKit

/-- Keys in a strict order. -/
structure KOrd {α κ : Type} (key : α → κ) (lt : κ → κ → Prop) (eq gt : κ → α → Bool) : Prop where
  irr : ∀ k, ¬ lt k k
  trans : ∀ {a b c}, lt a b → lt b c → lt a c
  tri : ∀ a b, lt a b ∨ a = b ∨ lt b a
  eq_ : ∀ k x, eq k x = true ↔ key x = k
  gt_ : ∀ k x, gt k x = true ↔ lt k (key x)
theorem ltrOrd : KOrd (fun x : Ltr => x.name) ltB eqL gtL := ⟨ltB_irr, ltB_trans, ltB_tri, fun _ _ => decide_eq_true_iff, fun _ _ => decide_eq_true_iff⟩
theorem ocOrd : KOrd (fun o : Oc => o.client) (fun a b : Int => a < b) eqO gtO := ⟨fun k => by omega, fun h k => by omega, fun a b => by omega, fun _ _ => decide_eq_true_iff, fun _ _ => decide_eq_true_iff⟩
section
variable {α κ : Type} {key : α → κ} {lt : κ → κ → Prop} {eq gt : κ → α → Bool}
/-- In order. -/
def Asc (key : α → κ) (lt : κ → κ → Prop) (l : List α) : Prop := (l.map key).Pairwise lt
theorem Asc.of_adj (h : KOrd key lt eq gt) {l : List α} (ha : ∀ j (hj : j < l.length), 0 < j → lt (key (l[j - 1]'(by omega))) (key l[j])) : Asc key lt l := by
  unfold Asc
  rw [List.pairwise_iff_getElem]
  intro i j hi hj hij
  simp only [List.length_map] at hi hj
  simp only [List.getElem_map]
  have aux : ∀ d (hd : i + d + 1 < l.length), lt (key (l[i]'hi)) (key (l[i + d + 1]'hd)) := by
    intro d
    induction d with
    | zero => intro hd; exact ha (i + 1) hd (by omega)
    | succ d ih => intro hd; exact h.trans (ih (by omega)) (ha (i + (d + 1) + 1) hd (by omega))
  have h2 := aux (j - i - 1) (by omega)
  simpa only [show i + (j - i - 1) + 1 = j by omega] using h2
theorem Asc.adj {l : List α} (h : Asc key lt l) : ∀ j (hj : j < l.length), 0 < j → lt (key (l[j - 1]'(by omega))) (key l[j]) := fun j hj h0 => by
  unfold Asc at h
  rw [List.pairwise_iff_getElem] at h
  have := h (j - 1) j (by rw [List.length_map]; omega) (by rw [List.length_map]; omega) (by omega)
  simpa only [List.getElem_map] using this
end
theorem LtsR.asc {ls : List Ltr} (h : LtsR ls) : Asc (fun x : Ltr => x.name) ltB ls := Asc.of_adj ltrOrd h.rise
theorem OcsR.asc {os : List Oc} (h : OcsR os) : Asc (fun o : Oc => o.client) (fun a b : Int => a < b) os := Asc.of_adj ocOrd h.rise
theorem LtsR.mk' {ls : List Ltr} (h : ∀ x ∈ ls, LtR x) (ha : Asc (fun x : Ltr => x.name) ltB ls) : LtsR ls := ⟨fun j hj => h _ (List.getElem_mem hj), ha.adj⟩
theorem OcsR.mk' {os : List Oc} (h : ∀ x ∈ os, OcR x) (ha : Asc (fun o : Oc => o.client) (fun a b : Int => a < b) os) : OcsR os := ⟨fun j hj => h _ (List.getElem_mem hj), ha.adj⟩
end Go.Proofs.Ytiaeochlepkleaa.A
/-
  What entries do, plain: what is refused leaves letters; never twice; in any order; ledgers that may be stay so.
-/
namespace Go.Proofs.Ytiaeochlepkleaa.A
open Go.RowKit

section
variable {l : Lg} {x : Ltr} {e : Ent} {c : Core} {n : Int} {op a b : Int} {t : ByteArray}
/-- What is paid. -/
def paidF (x : Ltr) : Int := if x.state = 5 then x.amount else 0
def paidL (ls : List Ltr) : Int := (ls.map paidF).sum
/-- A ledger of four replicas, from the empty one on. -/
structure Lg.Keep (l : Lg) : Prop where
  each : ∀ x ∈ l.ls, LtR x
  asc : Asc (fun x : Ltr => x.name) ltB l.ls
  few : l.ls.length ≤ 16
  os : ∀ o ∈ l.os, OcR o ∧ 4 ≤ o.client ∧ o.client < 8
  oasc : Asc (fun o : Oc => o.client) (fun a b : Int => a < b) l.os
  total : isAmt l.total = true
  paid : l.total = paidL l.ls
end
end Go.Proofs.Ytiaeochlepkleaa.A
/-
  Rows with keys, as the document puts in; ledgers of other numbers, plain.
-/
namespace Go.Proofs.Ytiaeochlepkleaa.A
open Go.RowKit

section
variable {α : Type} {p eq gt : α → Bool} {x y : α} {th : Bool}
end
section
variable {l : Lg} {x : Ltr} {e : Ent} {c : Core} {n : Int}
/-- A ledger of another number. -/
def Lg.at_ (l : Lg) (s : Int) : Lg := { l with seq := s }
end
end Go.Proofs.Ytiaeochlepkleaa.A
/-
  Timelines, plain: what became of letters; folds that may stop.
-/
namespace Go.Proofs.Ytiaeochlepkleaa.A
open Go.RowKit

/-- An event. -/
structure Ev where
  seq : Int
  client : Int
  stamp : Int
  op : Int
  result : Int
  state : Int
def Ev.abs (e : Ev) : List Abs := [int e.seq, int e.client, int e.stamp, int e.op, int e.result, int e.state]
structure EvIns (e : Ev) : Prop where
  seq : i64ok e.seq
  client : i64ok e.client
  stamp : i64ok e.stamp
  op : i64ok e.op
  result : i64ok e.result
  state : i64ok e.state
/-- A history. -/
abbrev histA (h : List (List Ent)) : Abs := .sl 1 (h.map fun b => [entsR b])
section
variable {S : Type} {n : Int} {entS : S → Ev → ByteArray → S} {batS : S → Int → Lg → S × Bool}
end
/-- A history that is not too great. -/
structure FewH (h : List (List Ent)) : Prop where
  en : ∀ j (hj : j < h.length), (∀ i (hi : i < h[j].length), h[j][i].core.letter.size ≤ 30 ∧ h[j][i].core.text.size ≤ 210) ∧ h[j].length ≤ 10
  len : h.length ≤ 40
noncomputable instance (h : List (List Ent)) : Decidable (FewH h) := Classical.propDecidable _
theorem FewH.row {h : List (List Ent)} (hf : FewH h) {b : List Ent} (hb : b ∈ h) : b.length ≤ 10 := by
  obtain ⟨j, hj, rfl⟩ := List.getElem_of_mem hb
  exact (hf.en j hj).2
end Go.Proofs.Ytiaeochlepkleaa.A
/-
  The second engine: what values are, kept as a piece; calls that change pieces here and there.
-/
namespace Go.Proofs.Ytiaeochlepkleaa.A
open Go.RowKit

/-- These values are these trees. -/
def factsPc (l : List (Value × Abs)) : Pc where
  ids := []
  p := fun K w => ∀ x ∈ l, rep K w x.2 x.1
  carry := fun _ _ _ _ hc _ h x hx => rep_carry hc _ _ (h x hx)
  lt := fun _ _ _ k hk => by cases hk
abbrev facts (l : List (Value × Abs)) : It := .pc (factsPc l)
section
variable {P : Program} {n : Nat} {W : Wd} {σ τ : Blks} {l : Slots} {X : List Nat} {ops : Array Oper} {rest : List Oper} {Q : Exit → Act → World → Prop} {ix : Plan} {L L' : List (Value × Abs)} {t : Nat} {A : Abs} {u : Value}
theorem Re.facts0 : Re [] [facts []] := ⟨⟨[], by simp [mids, It.mids, factsPc]⟩, by simp [It.rids], fun K w _ y hy => by
  rw [List.mem_singleton.1 hy]
  intro x hx
  cases hx⟩
theorem Re.factsLess (h : ∀ x ∈ L', x ∈ L) : Re [facts L] [facts L'] := ⟨⟨[], by simp [mids, It.mids, factsPc]⟩, by simp [It.rids], fun K w hk y hy => by
  rw [List.mem_singleton.1 hy]
  intro x hx
  have h1 : (facts L).holds K w := hk _ List.mem_cons_self
  exact h1 x (h x hx)⟩
theorem St.learn {a : Act} {w : World} {τ : Value → Blks} (h : St n W σ l a w) (hs : slot l t = some A) (hu : ∀ u, Upd (facts L) (facts ((u, A) :: L)) σ (τ u)) : ∃ u, St n W (τ u) ((t, .v u) :: l) a w := by
  obtain ⟨u, h1, h2⟩ := h.slots t A hs
  refine ⟨u, ?_⟩
  have hm := h.mem.upd (hu u) (Ext.refl w) (y := facts ((u, A) :: L)) (by simp [It.mids, factsPc]) (by simp [It.mids, factsPc]) rfl fun hc => by
    intro x hx
    rcases List.mem_cons.1 hx with rfl | hx
    · exact rep_carry hc _ _ h2
    · exact rep_carry hc _ _ ((h.mem.hold _ (hu u).mem : (facts L).holds _ w) x hx)
  have h3 := h.to hm.1 hm.2
  refine ⟨h3.defers, h3.size, fun i x hx => ?_, h3.mem⟩
  unfold slot at hx
  by_cases hti : t = i
  · subst hti
    simp at hx
    subst hx
    exact ⟨u, h1, rfl⟩
  · rw [beq_ne hti] at hx
    exact h3.slots i x hx
/-- A value's tree, kept. -/
theorem SL.learn {τ : Value → Blks} (hs : slot l t = some A) (hu : ∀ u, Upd (facts L) (facts ((u, A) :: L)) σ (τ u)) (k : ∀ u, SL P ops rest (St n W (τ u) ((t, .v u) :: l)) Q) : SL P ops rest (St n W σ l) Q := fun a w h => by
  obtain ⟨u, h1⟩ := h.learn hs hu
  exact k u a w h1
theorem SX.learn {τ : Value → Blks} (hs : slot l t = some A) (hu : ∀ u, Upd (facts L) (facts ((u, A) :: L)) σ (τ u)) (k : ∀ u, SX P ops ix X (St n W (τ u) ((t, .v u) :: l)) Q) : SX P ops ix X (St n W σ l) Q := fun a w h => by
  obtain ⟨u, h1⟩ := h.learn hs hu
  exact k u a w h1
theorem SC.learn {c : Code} {τ : Value → Blks} (hs : slot l t = some A) (hu : ∀ u, Upd (facts L) (facts ((u, A) :: L)) σ (τ u)) (k : ∀ u, SC P c (St n W (τ u) ((t, .v u) :: l)) Q) : SC P c (St n W σ l) Q := fun a w h => by
  obtain ⟨u, h1⟩ := h.learn hs hu
  exact k u a w h1
theorem fact_rep {w0 w : World} {F G : List Nat} (h : Mem w0 F G σ w) (hf : It.pc (factsPc L) ∈ σ ∨ It.rdpc (factsPc L) ∈ σ) (hm : (u, A) ∈ L) : rep (mids σ ++ G) w A u := by
  rcases hf with hf | hf
  · exact (h.hold _ hf : ∀ x ∈ L, rep (mids σ ++ G) w x.2 x.1) (u, A) hm
  · exact (h.hold _ hf : ∀ x ∈ L, rep (mids σ ++ G) w x.2 x.1) (u, A) hm
/-- A value is the tree that was kept. -/
theorem SL.fact (hs : slot l t = some (.v u)) (hf : It.pc (factsPc L) ∈ σ ∨ It.rdpc (factsPc L) ∈ σ) (hm : (u, A) ∈ L) (k : SL P ops rest (St n W σ ((t, A) :: l)) Q) : SL P ops rest (St n W σ l) Q := fun a w h =>
  k a w (h.cast hs fun x hx => by rw [show x = u from hx]; exact fact_rep h.mem hf hm)
theorem SX.fact (hs : slot l t = some (.v u)) (hf : It.pc (factsPc L) ∈ σ ∨ It.rdpc (factsPc L) ∈ σ) (hm : (u, A) ∈ L) (k : SX P ops ix X (St n W σ ((t, A) :: l)) Q) : SX P ops ix X (St n W σ l) Q := fun a w h =>
  k a w (h.cast hs fun x hx => by rw [show x = u from hx]; exact fact_rep h.mem hf hm)
theorem SC.fact {c : Code} (hs : slot l t = some (.v u)) (hf : It.pc (factsPc L) ∈ σ ∨ It.rdpc (factsPc L) ∈ σ) (hm : (u, A) ∈ L) (k : SC P c (St n W σ ((t, A) :: l)) Q) : SC P c (St n W σ l) Q := fun a w h =>
  k a w (h.cast hs fun x hx => by rw [show x = u from hx]; exact fact_rep h.mem hf hm)
/-- What a value yields, said as the tree that was kept. -/
theorem Val.fact {o : Oper} (h : Val P n W σ l X o (.v u)) (hf : It.pc (factsPc L) ∈ σ ∨ It.rdpc (factsPc L) ∈ σ) (hm : (u, A) ∈ L) : Val P n W σ l X o A := fun a w hs hX => by
  obtain ⟨v, h1, h2⟩ := h a w hs hX
  exact ⟨v, by rw [show v = u from h1]; exact fact_rep hs.mem hf hm, h2⟩
end
/-! ### Maps whose values are trees: the map's own values, and what they are -/
section
variable {α β : Type} [DecidableEq α] {tm tm' : List (α × (Value × β))} {a c : α} {u : Value} {x : β}
def rawM (tm : List (α × (Value × β))) : List (α × Value) := tm.map fun e => (e.1, e.2.1)
def facM (enc : β → Abs) (tm : List (α × (Value × β))) : List (Value × Abs) := tm.map fun e => (e.2.1, enc e.2.2)
theorem rawM_get : ∀ (tm : List (α × (Value × β))), aget (rawM tm) a = (aget tm a).map (·.1)
  | [] => rfl
  | e :: tm => by
    have h := rawM_get tm
    unfold rawM aget at h ⊢
    rw [List.map_cons, List.find?_cons, List.find?_cons]
    by_cases he : e.1 = a
    · simp [he]
    · simpa [he] using h
theorem rawM_put (tm : List (α × (Value × β))) (a : α) (u : Value) (x : β) : rawM (aput tm a (u, x)) = aput (rawM tm) a u := by
  have hg := rawM_get tm (a := a)
  unfold aput
  rw [hg, Option.isSome_map]
  split
  · unfold rawM
    rw [List.map_map, List.map_map]
    refine List.map_congr_left fun e _ => ?_
    show ((if e.1 = a then (a, (u, x)) else e).1, (if e.1 = a then (a, (u, x)) else e).2.1) = if e.1 = a then (a, u) else (e.1, e.2.1)
    split <;> rfl
  · unfold rawM
    rw [List.map_append]
    rfl
theorem facM_put {enc : β → Abs} (tm : List (α × (Value × β))) (a : α) (u : Value) (x : β) : ∀ y ∈ facM enc (aput tm a (u, x)), y ∈ (u, enc x) :: facM enc tm := by
  intro y hy
  obtain ⟨e, he, rfl⟩ := List.mem_map.1 hy
  unfold aput at he
  split at he
  · obtain ⟨d, hd, rfl⟩ := List.mem_map.1 he
    split
    · exact List.mem_cons_self
    · exact List.mem_cons_of_mem _ (List.mem_map.2 ⟨d, hd, rfl⟩)
  · rcases List.mem_append.1 he with he | he
    · exact List.mem_cons_of_mem _ (List.mem_map.2 ⟨e, he, rfl⟩)
    · rw [List.mem_singleton.1 he]; exact List.mem_cons_self
theorem aget_in {γ : Type} : ∀ {m : List (α × γ)} {v : γ}, aget m a = some v → (a, v) ∈ m
  | [], v, h => by simp [aget] at h
  | e :: m, v, h => by
    unfold aget at h
    rw [List.find?_cons] at h
    by_cases he : e.1 = a
    · simp [he] at h
      obtain ⟨e1, e2⟩ := e
      dsimp only at h he
      subst h he
      exact List.mem_cons_self
    · simp only [he, decide_false] at h
      exact List.mem_cons_of_mem _ (aget_in (by unfold aget; exact h))
end
section
variable {α β : Type} [DecidableEq α] {tm : List (α × (Value × β))} {a : α} {P : Program} {n : Nat} {W : Wd} {σ : Blks} {l : Slots} {X : List Nat} {k e t ty : TypeId} {K : α → Value} {Good : α → Prop} {enc : β → Abs} {z0 : β} {zv : Value} {b : Nat} {A : Abs} {x y : Operand} {d : Option Nat} {pos : String} {aft : Array Edge} {g : Option (Nat × Bool)} {L : List (Value × Abs)}
theorem tree_of {w0 w : World} {F G : List Nat} (h : Mem w0 F G σ w) (hf : It.pc (factsPc L) ∈ σ ∨ It.rdpc (factsPc L) ∈ σ) (hL : ∀ y ∈ facM enc tm, y ∈ L) (hzr : ∀ K w, rep K w (enc z0) zv) : rep (mids σ ++ G) w (enc (((aget tm a).map (·.2)).getD z0)) (((aget (rawM tm) a).map id).getD zv) := by
  rw [rawM_get]
  cases hg : aget tm a with
  | none => exact hzr _ _
  | some e => exact fact_rep h hf (hL _ (List.mem_map.2 ⟨(a, e), aget_in hg, rfl⟩))
/-- 'v, ok := m[k]': the value's tree. -/
theorem Val.mapGetOkT (kf : KeyFit P k K Good) (ht : P.underlying t = some (.map k e)) (hz : ∀ w, (zeroValue e).run P w = .ok zv w) (hzr : ∀ K w, rep K w (enc z0) zv) (hx : look l x = some (mapV b)) (hb : It.pc (mapPc b K id Good (rawM tm)) ∈ σ ∨ It.rdpc (mapPc b K id Good (rawM tm)) ∈ σ) (hf : It.pc (factsPc L) ∈ σ ∨ It.rdpc (factsPc L) ∈ σ) (hL : ∀ y ∈ facM enc tm, y ∈ L) (hbX : b ∉ X)
    (hy : look l y = some A) (hA : A.is (K a)) (ha : Good a) : Val P n W σ l X ⟨d, .lookup t x y true, ty, pos, aft, g⟩ (.tup [enc (((aget tm a).map (·.2)).getD z0), boo (aget tm a).isSome]) := fun ac w hs hX => by
  obtain ⟨v, h1, h2⟩ := Val.mapGetOk (X := X) (d := d) (ty := ty) (pos := pos) (aft := aft) (g := g) (C := .v (((aget (rawM tm) a).map id).getD zv)) kf ht hz hx hb hbX hy hA ha is_v ac w hs hX
  refine ⟨v, ?_, h2⟩
  obtain ⟨us, e1, c, us2, e2, e3, e4⟩ := h1
  refine ⟨us, e1, c, us2, e2, ?_, ?_⟩
  · rw [show c = _ from e3]; exact tree_of hs.mem hf hL hzr
  · rw [rawM_get, Option.isSome_map] at e4; exact e4
theorem Val.mapGetT (kf : KeyFit P k K Good) (ht : P.underlying t = some (.map k e)) (hz : ∀ w, (zeroValue e).run P w = .ok zv w) (hzr : ∀ K w, rep K w (enc z0) zv) (hx : look l x = some (mapV b)) (hb : It.pc (mapPc b K id Good (rawM tm)) ∈ σ ∨ It.rdpc (mapPc b K id Good (rawM tm)) ∈ σ) (hf : It.pc (factsPc L) ∈ σ ∨ It.rdpc (factsPc L) ∈ σ) (hL : ∀ y ∈ facM enc tm, y ∈ L) (hbX : b ∉ X)
    (hy : look l y = some A) (hA : A.is (K a)) (ha : Good a) : Val P n W σ l X ⟨d, .lookup t x y false, ty, pos, aft, g⟩ (enc (((aget tm a).map (·.2)).getD z0)) := fun ac w hs hX => by
  obtain ⟨v, h1, h2⟩ := Val.mapGet (X := X) (d := d) (ty := ty) (pos := pos) (aft := aft) (g := g) (C := .v (((aget (rawM tm) a).map id).getD zv)) kf ht hz hx hb hbX hy hA ha is_v ac w hs hX
  exact ⟨v, by rw [show v = _ from h1]; exact tree_of hs.mem hf hL hzr, h2⟩
end
section
variable {σ σ1 : Blks} {ι : Type} {τ' : ι → Blks} {K : Blks → ι → Prop}
theorem After.sub (φ : Blks) (hσ : σ.Perm (σ1 ++ φ)) (hr : ∀ x ∈ σ1, x.rids = []) (hk : ∀ z, ∃ ν : Blks, ν.Perm (τ' z ++ φ) ∧ K ν z) : After σ σ1 τ' K :=
  ⟨φ, ⟨by rw [← mids_append]; exact mids_perm hσ.symm, fun x hx => .inl ⟨hσ.mem_iff.2 (List.mem_append_left _ hx), hr x hx⟩, fun x hx => hσ.mem_iff.2 (List.mem_append_right _ hx)⟩, hk⟩
theorem After.deep (a b : Blks) (x : It) (hσ : σ = a ++ (b ++ (x :: σ1))) (hr : ∀ y ∈ σ1, y.rids = []) (k : ∀ z, K (a ++ (b ++ (x :: τ' z))) z) : After σ σ1 τ' K := by
  subst hσ
  have e : ∀ c : Blks, (a ++ (b ++ (x :: c))).Perm (c ++ (a ++ (b ++ [x]))) := fun c => by
    have h1 : a ++ (b ++ (x :: c)) = (a ++ (b ++ [x])) ++ c := by simp
    rw [h1]
    exact List.perm_append_comm
  exact After.sub (a ++ (b ++ [x])) (e σ1) hr fun z => ⟨_, e (τ' z), k z⟩
theorem After.last (a b : Blks) (hσ : σ = a ++ (b ++ σ1)) (hr : ∀ y ∈ σ1, y.rids = []) (k : ∀ z, K (a ++ (b ++ τ' z)) z) : After σ σ1 τ' K := by
  subst hσ
  have e : ∀ c : Blks, (a ++ (b ++ c)).Perm (c ++ (a ++ b)) := fun c => by
    have h1 : a ++ (b ++ c) = (a ++ b) ++ c := by simp
    rw [h1]
    exact List.perm_append_comm
  exact After.sub (a ++ b) (e σ1) hr fun z => ⟨_, e (τ' z), k z⟩
end
theorem Spec.keep {P : Program} {f : FuncId} {args : List Abs} {σ σr : Blks} {r : Abs} (h : Spec P f args σr (fun _ : Unit => []) (fun _ => r)) (hr : Reads σ σr) (hro : ∀ x ∈ σ, x.rids = []) : Spec P f args σ (fun _ : Unit => σ) (fun _ => r) := fun G w vals hm hv =>
  (h.after hm hv (After.pure hr (fun _ => rfl) (K := fun ν _ => ν = σ) (fun _ => rfl))).mono fun e w' ⟨z, u, ν, he, hx, ho, hm', hc, hr', hk⟩ => by
    subst hk
    exact ⟨(), u, he, hro, hm', hr'⟩
end Go.Proofs.Ytiaeochlepkleaa.A
/-
  Batches: whether they may be: the program's and the document's, over the engine.
-/
namespace Go.Proofs.Ytiaeochlepkleaa
open Go.RowKit

/-- A row of entries that is read. -/
abbrev entsD (v : Value) (es : List Ent) : Dt := rowD v es.length (es.flatMap Ent.cells)
section
variable {S : List (World × List Nat)} {σ τ : Blks} {ρ : List Dt} {w : World}

end
end Go.Proofs.Ytiaeochlepkleaa
/-
  Batches: their bytes: the program's and the document's, over the engine.
-/
namespace Go.Proofs.Ytiaeochlepkleaa
open Go.RowKit

def Ent.bytes (e : Ent) : List UInt8 := rowB e.core.bytes ++ beBytes e.mask 1
/-- An entry that isn't too great. -/
structure Ent.Few (e : Ent) : Prop where
  mask : e.mask < 4294967296
  letter : e.core.letter.size ≤ 1000
  text : e.core.text.size ≤ 1000
section
variable {S : List (World × List Nat)} {σ τ : Blks} {ρ : List Dt} {w : World}

end
end Go.Proofs.Ytiaeochlepkleaa
/-
  Batches, read: the program's, over the engine.
-/
namespace Go.Proofs.Ytiaeochlepkleaa
open Go.RowKit

def sg (x : Nat) : Int := IntKind.i64.wrap (x : Int)
def txtB (l : List UInt8) : ByteArray := ⟨l.toArray⟩
/-- A core out of a reader, no row longer than so many bytes; and the reader behind it. -/
def Rd.c3 (s : Rd) : Rd := ((s.fixed 1).fixed 8).fixed 1
def Rd.c4 (s : Rd) (most : Int) : Rd := s.c3.row most
def Rd.c6 (s : Rd) (most : Int) : Rd := ((s.c4 most).fixed 8).fixed 8
def Rd.core (s : Rd) (most : Int) : Core where
  client := s.num 1
  stamp := sg ((s.fixed 1).num 8)
  op := ((s.fixed 1).fixed 8).num 1
  letter := txtB (s.c3.rowOut most)
  a := sg ((s.c4 most).num 8)
  b := sg (((s.c4 most).fixed 8).num 8)
  text := txtB ((s.c6 most).rowOut most)
section
variable {S : List (World × List Nat)} {σ τ : Blks} {ρ : List Dt} {w : World}
theorem Core.one (c : Core) : ∀ u ∈ c.cells, u.oneCell' = true := by
  intro u hu
  simp only [Core.cells, List.mem_cons, List.not_mem_nil, or_false] at hu
  rcases hu with rfl | rfl | rfl | rfl | rfl | rfl | rfl <;> rfl
end
end Go.Proofs.Ytiaeochlepkleaa
/-
  What a batch's bytes tell, in plain Lean.
-/
namespace Go.Proofs.Ytiaeochlepkleaa
open Go.RowKit

section
variable {s t : Rd}
theorem Rd.as.c3 (h : s.as t) : s.c3.as t.c3 := ((h.fixed 1).fixed 8).fixed 1
theorem Rd.as.c4 (h : s.as t) (m : Int) : (s.c4 m).as (t.c4 m) := h.c3.row m
theorem Rd.as.c6 (h : s.as t) (m : Int) : (s.c6 m).as (t.c6 m) := ((h.c4 m).fixed 8).fixed 8
theorem Rd.as.core (h : s.as t) (m : Int) : s.core m = t.core m := by
  unfold Rd.core
  rw [h.num, (h.fixed 1).num, ((h.fixed 1).fixed 8).num, h.c3.rowOut, (h.c4 m).num, ((h.c4 m).fixed 8).num, (h.c6 m).rowOut]
end
end Go.Proofs.Ytiaeochlepkleaa
/-
  Batches, read whole: the program's, over the engine.
-/
namespace Go.Proofs.Ytiaeochlepkleaa
open Go.RowKit

section
variable {S : List (World × List Nat)} {σ τ : Blks} {ρ : List Dt} {w : World}
end
end Go.Proofs.Ytiaeochlepkleaa
/-
  Batches, read whole: the document's, over the engine.
-/
namespace Go.Proofs.Ytiaeochlepkleaa
open Go.RowKit

theorem Upd.fn {x y : It} {σ τ : Blks} (h : Upd x y σ τ) : ∃ rep : It → Blks, rep x = σ ∧ rep y = τ ∧ ∀ a b, Upd a b (rep a) (rep b) := by
  induction h with
  | here => exact ⟨fun a => a :: _, rfl, rfl, fun a b => .here⟩
  | @there z σ0 τ0 _ ih =>
    obtain ⟨rep, h1, h2, h3⟩ := ih
    exact ⟨fun a => z :: rep a, by show z :: rep x = _; rw [h1], by show z :: rep y = _; rw [h2], fun a b => .there (h3 a b)⟩
section
variable {S : List (World × List Nat)} {σ τ : Blks} {ρ : List Dt} {w : World} {p : Nat} {s : Rd}
theorem Mem.swap {x y : It} (h : Mem S (x :: y :: σ) ρ w) : Mem S (y :: x :: σ) ρ w := by
  have hp : ((x :: y :: σ).flatMap It.ids).Perm ((y :: x :: σ).flatMap It.ids) := by
    simp only [List.flatMap_cons, ← List.append_assoc]
    exact List.Perm.append_right _ List.perm_append_comm
  refine ⟨h.ext, fun z hz => h.out z ?_, hp.nodup_iff.1 h.nodup, fun z hz => h.hold z ?_, fun z hz => z.grow _ _ w (fun k hk => .inl (hp.mem_iff.2 hk)) (h.dat z hz)⟩
  all_goals
    simp only [List.mem_cons] at hz ⊢
    rcases hz with h1 | h1 | h1 <;> simp [h1]

end
end Go.Proofs.Ytiaeochlepkleaa
/-
  Batches: whether two are the same; the document's Parse, over the engine.
-/
namespace Go.Proofs.Ytiaeochlepkleaa
open Go.RowKit

/-! ### The same -/
structure Ent.Lits (e : Ent) : Prop where
  client : InR .i64 e.core.client
  stamp : InR .i64 e.core.stamp
  op : InR .i64 e.core.op
  a : InR .i64 e.core.a
  b : InR .i64 e.core.b
  letter : e.core.letter.size ≤ maxLen
  text : e.core.text.size ≤ maxLen
  mask : e.mask < 4294967296
noncomputable instance : DecidableEq Ent := fun _ _ => Classical.propDecidable _
theorem wfI {a : Int} (h : InR .i64 a) : (Lit.int .i64 a).wf = true := by
  obtain ⟨h0, h1⟩ := h
  simp only [lo, hi] at h0 h1
  simp [Lit.wf, IntKind.min, IntKind.max, IntKind.signed, IntKind.bits]; omega
theorem wfU {a : Nat} (h : a < 4294967296) : (Lit.int .u32 (a : Nat)).wf = true := by
  simp [Lit.wf, IntKind.min, IntKind.max, IntKind.signed, IntKind.bits]; omega
def Ent.lits (e : Ent) : List Lit := [.int .i64 e.core.client, .int .i64 e.core.stamp, .int .i64 e.core.op, .string e.core.letter.data.toList, .int .i64 e.core.a, .int .i64 e.core.b, .string e.core.text.data.toList, .int .u32 e.mask]
theorem ent_lits (e : Ent) (h : e.Lits) : Try.prog.keyLits 4 50 e.cells = some e.lits := by
  have h1 := wfI h.client
  have h2 := wfI h.stamp
  have h3 := wfI h.op
  have h4 := wfI h.a
  have h5 := wfI h.b
  have h6 := h.letter
  have h7 := h.text
  have h8 := wfU h.mask
  have c1 : Try.prog.cellsOf 50 = 8 := by kernel_rfl
  have c2 : Try.prog.cellsOf 47 = 7 := by kernel_rfl
  have c3 : Try.prog.cellsOf 9 = 1 := by kernel_rfl
  have c4 : Try.prog.cellsOf 3 = 1 := by kernel_rfl
  have c5 : Try.prog.cellsOf 2 = 1 := by kernel_rfl
  have c6 : Try.prog.cellsOf 48 = 1 := by kernel_rfl
  simp [Program.keyLits, Try.underlying50, Try.underlying47, Try.underlying9, Try.underlying3, Try.underlying2, Try.underlying48, c1, c2, c3, c4, c5, c6, Ent.cells, Ent.lits, h1, h2, h3, h4, h5, h6, h7, h8]
  rw [if_pos (by decide)]
  rfl
theorem ent_formed (e : Ent) : (Value.agg e.cells.toArray).formed Try.prog 50 = true := by kernel_rfl
theorem ByteArray.of_data {a b : ByteArray} (h : a.data.toList = b.data.toList) : a = b := by
  cases a; cases b; simp at h; simp [h]
theorem Ent.lits_inj {e f : Ent} (h : e.lits = f.lits) : e = f := by
  simp only [Ent.lits, List.cons.injEq, Lit.string.injEq, Lit.int.injEq, true_and, and_true] at h
  obtain ⟨h1, h2, h3, h4, h5, h6, h7, h8⟩ := h
  obtain ⟨⟨a1, a2, a3, a4, a5, a6, a7⟩, a8⟩ := e
  obtain ⟨⟨b1, b2, b3, b4, b5, b6, b7⟩, b8⟩ := f
  simp only [Ent.mk.injEq, Core.mk.injEq]
  exact ⟨⟨h1, h2, h3, ByteArray.of_data h4, h5, h6, ByteArray.of_data h7⟩, by dsimp only at h8; omega⟩
theorem neqE {e f : Ent} (he : e.Lits) (hf : f.Lits) (w : World) : (binOp .neq 50 (.agg e.cells.toArray) (.agg f.cells.toArray)).run Try.prog w = .ok (.bool (decide (e ≠ f))) w :=
  run_neq_lits (m := 10) (by decide) (by kernel_rfl) (ent_formed e) (ent_formed f) (by simpa using ent_lits e he) (by simpa using ent_lits f hf) _ (by
    rw [decide_eq_true_eq]
    exact ⟨fun h h2 => h (Ent.lits_inj h2), fun h h2 => h (by rw [h2])⟩) w
theorem take_succ_eq {α : Type} {es fs : List α} {k : Nat} (h : es.take k = fs.take k) (h1 : k < es.length) (h2 : k < fs.length) (h3 : es[k] = fs[k]) : es.take (k + 1) = fs.take (k + 1) := by
  rw [List.take_succ_eq_append_getElem h1, List.take_succ_eq_append_getElem h2, h, h3]
section
variable {S : List (World × List Nat)} {σ τ : Blks} {ρ : List Dt} {w : World} {p : Nat} {s : Rd}

set_option maxHeartbeats 1000000 in
theorem equal_c {v u : Value} {es fs : List Ent} (hw : Mem S σ ρ w) (he : entsD v es ∈ ρ) (hf : entsD u fs ∈ ρ) (hl : es.length ≤ 1000000) (h1 : ∀ e ∈ es, e.Lits) (h2 : ∀ e ∈ fs, e.Lits) : Calls Try.prog 43 #[v, u] w fun e w' => e = .returned (.bool (decide (es = fs))) ∧ Mem S σ ρ w' := by
  obtain ⟨A, c, rfl, hs1, hs2, hs3⟩ := (hw.data he).shape
  obtain ⟨B, d, rfl, ht1, ht2, ht3⟩ := (hw.data hf).shape
  have hA : es ≠ [] → ∃ b off, A = some ⟨b, off, none⟩ := fun h => row_at (hw.data he) (by cases es with | nil => exact absurd rfl h | cons e es => simp [Ent.cells])
  have hB : fs ≠ [] → ∃ b off, B = some ⟨b, off, none⟩ := fun h => row_at (hw.data hf) (by cases fs with | nil => exact absurd rfl h | cons e es => simp [Ent.cells])
  refine calls_of [.slice A es.length c, .slice B fs.length d] Try.func43 rfl Try.ntmps43 rfl (Mem S σ ρ) hw ?_
  refine SC.seq (SC.region ?_)
  refine SL.val (Val.assign rfl) rfl rfl ?_
  refine SL.nil (SE.seq ?_)
  refine SC.seq ?_
  refine SC.seq (SC.region ?_)
  refine SL.val (Val.move rfl) rfl rfl ?_
  refine SL.val (Val.lenSl rfl Try.underlying35) rfl rfl ?_
  refine SL.val (Val.move rfl) rfl rfl ?_
  refine SL.val (Val.lenSl rfl Try.underlying35) rfl rfl ?_
  refine SL.val (Val.neI rfl rfl) rfl rfl ?_
  refine SL.nil (SE.seq ?_)
  refine SC.condP rfl ?_ ?_
  · intro hc10
    refine SC.seq (SC.region ?_)
    refine SL.val (Val.assign rfl) rfl rfl ?_
    refine SL.nil (SE.seq ?_)
    refine SC.ret ?_
    refine SE.then_ (by intro h; cases h) ?_
    refine SE.ret1 rfl rfl ?_
    intro w' hw'
    refine ⟨?_, hw'⟩; congr 2; exact (decide_eq_false (fun h => hc10 (by rw [h]))).symm
  intro hc10
  have hle : es.length = fs.length := by omega
  refine SC.skip ?_
  refine SE.seq ?_
  refine SC.seq ?_
  refine SC.seq (SC.region ?_)
  refine SL.val (Val.move rfl) rfl rfl ?_
  refine SL.val (Val.lenSl rfl Try.underlying35) rfl rfl ?_
  refine SL.val (Val.move rfl) rfl rfl ?_
  refine SL.nil (SE.seq ?_)
  refine SC.block ?_
  refine SC.loop (ι := Nat) (fun k => [(0, .slice A es.length c), (1, .slice B fs.length d), (12, .int .i64 (es.length : Nat)), (13, .int .i64 (k : Nat))]) (fun k w' => (k ≤ es.length ∧ es.take k = fs.take k) ∧ Mem S σ ρ w') (fun k => es.length - k) 0 (by exact ⟨rfl, rfl, rfl, rfl, trivial⟩) (fun w' hw' => ⟨⟨Nat.zero_le _, by simp⟩, hw'⟩) ?_
  intro k
  refine SC.facts ?_
  rintro ⟨hk, hk2⟩
  refine SC.seq (SC.region ?_)
  refine SL.val (Val.ltI rfl rfl) rfl rfl ?_
  refine SL.nil (SE.seq ?_)
  refine SC.seq ?_
  refine SC.condP rfl ?_ ?_
  rotate_left
  · intro hc14
    refine SC.exit ?_
    refine SE.then_ (by intro h; cases h) ?_
    refine SE.then_ (by intro h; cases h) ?_
    refine SE.exit ?_
    refine SE.seq ?_
    refine SC.seq (SC.region ?_)
    refine SL.val (Val.assign rfl) rfl rfl ?_
    refine SL.nil (SE.seq ?_)
    refine SC.ret ?_
    refine SE.ret1 rfl rfl ?_
    intro w' hw'
    refine ⟨?_, hw'⟩; congr 2; refine (decide_eq_true ?_).symm; rw [List.take_of_length_le (by omega), List.take_of_length_le (by omega)] at hk2; exact hk2
  intro hc14
  have hlt : k < es.length := by omega
  have hlt2 : k < fs.length := by omega
  obtain ⟨bb, off, rfl⟩ := hA (by intro h0; rw [h0] at hlt; simp at hlt)
  obtain ⟨bb2, off2, rfl⟩ := hB (by intro h0; rw [h0] at hlt2; simp at hlt2)
  refine SC.skip ?_
  refine SE.seq ?_
  refine SC.seq ?_
  refine SC.block ?_
  refine SC.seq (SC.region ?_)
  refine SL.val (Val.move rfl) rfl rfl ?_
  refine SL.val (Val.assign rfl) rfl rfl ?_
  refine SL.nil (SE.seq ?_)
  refine SC.seq ?_
  refine SC.draw _ (.q 0 (.q 1 (.q 2 (.q 3 (.q 4 (.q 5 (.q 6 (.q 7 (.q 8 .nil))))))))) (by kernel_rfl) (by kernel_rfl) (fun _ h => h) (fun _ h => h.drew) ?_
  refine SX.val rfl (Val.move rfl) rfl rfl ?_
  refine SX.val rfl (Val.move rfl) rfl rfl ?_
  first
    | refine SX.val rfl (Val.indexSlN tabOk Try.underlying35 rfl rfl rfl (by omega)) rfl rfl ?_
    | refine SX.val rfl (Val.indexSl tabOk Try.underlying35 rfl rfl rfl (by omega)) rfl rfl ?_
  refine SX.val rfl (Val.loadAD (f := Ent.cells) tabOk rfl rfl rfl (by repeat (first | assumption | exact List.mem_cons_self | exact hmem _ | apply List.mem_cons_of_mem)) (fun _ => rfl) hlt) rfl rfl ?_
  refine SX.val rfl (Val.move rfl) rfl rfl ?_
  refine SX.val rfl (Val.move rfl) rfl rfl ?_
  first
    | refine SX.val rfl (Val.indexSlN tabOk Try.underlying35 rfl rfl rfl (by omega)) rfl rfl ?_
    | refine SX.val rfl (Val.indexSl tabOk Try.underlying35 rfl rfl rfl (by omega)) rfl rfl ?_
  refine SX.val rfl (Val.loadAD (f := Ent.cells) tabOk rfl rfl rfl (by repeat (first | assumption | exact List.mem_cons_self | exact hmem _ | apply List.mem_cons_of_mem)) (fun _ => rfl) hlt2) rfl rfl ?_
  refine SX.val rfl (Val.neA rfl rfl (by kernel_rfl) (neqE (h1 _ (List.getElem_mem hlt)) (h2 _ (List.getElem_mem hlt2)))) rfl rfl ?_
  refine SX.nil (SE.seq ?_)
  refine SC.condP rfl ?_ ?_
  rotate_left
  · intro hc24
    refine SC.skip ?_
    refine SE.inBlock ?_
    refine SE.seq ?_
    refine SC.region ?_
    first
      | refine SL.val (Val.addI rfl rfl (by simp only [InR, lo, hi]; omega)) rfl rfl ?_
      | refine SL.val (Val.addW rfl rfl) rfl rfl ?_
    refine SL.val (Val.move rfl) rfl rfl ?_
    refine SL.nil ?_
    exact SE.round (k + 1) (by omega) (by exact ⟨rfl, rfl, rfl, rfl, trivial⟩) (fun w' hw' => ⟨⟨hlt, take_succ_eq hk2 hlt hlt2 (Decidable.not_not.1 hc24)⟩, hw'⟩)
  intro hc24
  refine SC.seq (SC.region ?_)
  refine SL.val (Val.assign rfl) rfl rfl ?_
  refine SL.nil (SE.seq ?_)
  refine SC.ret ?_
  refine SE.ret ?_
  refine SE.then_ (by intro h; cases h) ?_
  refine SE.then_ (by intro h; cases h) ?_
  refine SE.ret ?_
  refine SE.then_ (by intro h; cases h) ?_
  refine SE.ret1 rfl rfl ?_
  intro w' hw'
  refine ⟨?_, hw'⟩; congr 2; refine (decide_eq_false (fun h => hc24 ?_)).symm; subst h; rfl

set_option maxHeartbeats 1000000 in
theorem rsame_c {v u : Value} {es fs : List Ent} (hw : Mem S σ ρ w) (he : entsD v es ∈ ρ) (hf : entsD u fs ∈ ρ) (hl : es.length ≤ 1000000) (h1 : ∀ e ∈ es, e.Lits) (h2 : ∀ e ∈ fs, e.Lits) : Calls Try.prog 34 #[v, u] w fun e w' => e = .returned (.bool (decide (es = fs))) ∧ Mem S σ ρ w' := by
  obtain ⟨A, c, rfl, hs1, hs2, hs3⟩ := (hw.data he).shape
  obtain ⟨B, d, rfl, ht1, ht2, ht3⟩ := (hw.data hf).shape
  have hA : es ≠ [] → ∃ b off, A = some ⟨b, off, none⟩ := fun h => row_at (hw.data he) (by cases es with | nil => exact absurd rfl h | cons e es => simp [Ent.cells])
  have hB : fs ≠ [] → ∃ b off, B = some ⟨b, off, none⟩ := fun h => row_at (hw.data hf) (by cases fs with | nil => exact absurd rfl h | cons e es => simp [Ent.cells])
  refine calls_of [.slice A es.length c, .slice B fs.length d] Try.func34 rfl Try.ntmps34 rfl (Mem S σ ρ) hw ?_
  refine SC.seq (SC.region ?_)
  refine SL.val (Val.assign rfl) rfl rfl ?_
  refine SL.nil (SE.seq ?_)
  refine SC.seq ?_
  refine SC.seq (SC.region ?_)
  refine SL.val (Val.move rfl) rfl rfl ?_
  refine SL.val (Val.lenSl rfl Try.underlying35) rfl rfl ?_
  refine SL.val (Val.move rfl) rfl rfl ?_
  refine SL.val (Val.lenSl rfl Try.underlying35) rfl rfl ?_
  refine SL.val (Val.neI rfl rfl) rfl rfl ?_
  refine SL.nil (SE.seq ?_)
  refine SC.condP rfl ?_ ?_
  · intro hc10
    refine SC.seq (SC.region ?_)
    refine SL.val (Val.assign rfl) rfl rfl ?_
    refine SL.nil (SE.seq ?_)
    refine SC.ret ?_
    refine SE.then_ (by intro h; cases h) ?_
    refine SE.ret1 rfl rfl ?_
    intro w' hw'
    refine ⟨?_, hw'⟩; congr 2; exact (decide_eq_false (fun h => hc10 (by rw [h]))).symm
  intro hc10
  have hle : es.length = fs.length := by omega
  refine SC.skip ?_
  refine SE.seq ?_
  refine SC.seq ?_
  refine SC.seq (SC.region ?_)
  refine SL.val (Val.move rfl) rfl rfl ?_
  refine SL.val (Val.lenSl rfl Try.underlying35) rfl rfl ?_
  refine SL.val (Val.move rfl) rfl rfl ?_
  refine SL.nil (SE.seq ?_)
  refine SC.block ?_
  refine SC.loop (ι := Nat) (fun k => [(0, .slice A es.length c), (1, .slice B fs.length d), (12, .int .i64 (es.length : Nat)), (13, .int .i64 (k : Nat))]) (fun k w' => (k ≤ es.length ∧ es.take k = fs.take k) ∧ Mem S σ ρ w') (fun k => es.length - k) 0 (by exact ⟨rfl, rfl, rfl, rfl, trivial⟩) (fun w' hw' => ⟨⟨Nat.zero_le _, by simp⟩, hw'⟩) ?_
  intro k
  refine SC.facts ?_
  rintro ⟨hk, hk2⟩
  refine SC.seq (SC.region ?_)
  refine SL.val (Val.ltI rfl rfl) rfl rfl ?_
  refine SL.nil (SE.seq ?_)
  refine SC.seq ?_
  refine SC.condP rfl ?_ ?_
  rotate_left
  · intro hc14
    refine SC.exit ?_
    refine SE.then_ (by intro h; cases h) ?_
    refine SE.then_ (by intro h; cases h) ?_
    refine SE.exit ?_
    refine SE.seq ?_
    refine SC.seq (SC.region ?_)
    refine SL.val (Val.assign rfl) rfl rfl ?_
    refine SL.nil (SE.seq ?_)
    refine SC.ret ?_
    refine SE.ret1 rfl rfl ?_
    intro w' hw'
    refine ⟨?_, hw'⟩; congr 2; refine (decide_eq_true ?_).symm; rw [List.take_of_length_le (by omega), List.take_of_length_le (by omega)] at hk2; exact hk2
  intro hc14
  have hlt : k < es.length := by omega
  have hlt2 : k < fs.length := by omega
  obtain ⟨bb, off, rfl⟩ := hA (by intro h0; rw [h0] at hlt; simp at hlt)
  obtain ⟨bb2, off2, rfl⟩ := hB (by intro h0; rw [h0] at hlt2; simp at hlt2)
  refine SC.skip ?_
  refine SE.seq ?_
  refine SC.seq ?_
  refine SC.block ?_
  refine SC.seq (SC.region ?_)
  refine SL.val (Val.move rfl) rfl rfl ?_
  refine SL.val (Val.assign rfl) rfl rfl ?_
  refine SL.nil (SE.seq ?_)
  refine SC.seq ?_
  refine SC.draw _ (.q 0 (.q 1 (.q 2 (.q 3 (.q 4 (.q 5 (.q 6 (.q 7 (.q 8 .nil))))))))) (by kernel_rfl) (by kernel_rfl) (fun _ h => h) (fun _ h => h.drew) ?_
  refine SX.val rfl (Val.move rfl) rfl rfl ?_
  refine SX.val rfl (Val.move rfl) rfl rfl ?_
  first
    | refine SX.val rfl (Val.indexSlN tabOk Try.underlying35 rfl rfl rfl (by omega)) rfl rfl ?_
    | refine SX.val rfl (Val.indexSl tabOk Try.underlying35 rfl rfl rfl (by omega)) rfl rfl ?_
  refine SX.val rfl (Val.loadAD (f := Ent.cells) tabOk rfl rfl rfl (by repeat (first | assumption | exact List.mem_cons_self | exact hmem _ | apply List.mem_cons_of_mem)) (fun _ => rfl) hlt) rfl rfl ?_
  refine SX.val rfl (Val.move rfl) rfl rfl ?_
  refine SX.val rfl (Val.move rfl) rfl rfl ?_
  first
    | refine SX.val rfl (Val.indexSlN tabOk Try.underlying35 rfl rfl rfl (by omega)) rfl rfl ?_
    | refine SX.val rfl (Val.indexSl tabOk Try.underlying35 rfl rfl rfl (by omega)) rfl rfl ?_
  refine SX.val rfl (Val.loadAD (f := Ent.cells) tabOk rfl rfl rfl (by repeat (first | assumption | exact List.mem_cons_self | exact hmem _ | apply List.mem_cons_of_mem)) (fun _ => rfl) hlt2) rfl rfl ?_
  refine SX.val rfl (Val.neA rfl rfl (by kernel_rfl) (neqE (h1 _ (List.getElem_mem hlt)) (h2 _ (List.getElem_mem hlt2)))) rfl rfl ?_
  refine SX.nil (SE.seq ?_)
  refine SC.condP rfl ?_ ?_
  rotate_left
  · intro hc24
    refine SC.skip ?_
    refine SE.inBlock ?_
    refine SE.seq ?_
    refine SC.region ?_
    first
      | refine SL.val (Val.addI rfl rfl (by simp only [InR, lo, hi]; omega)) rfl rfl ?_
      | refine SL.val (Val.addW rfl rfl) rfl rfl ?_
    refine SL.val (Val.move rfl) rfl rfl ?_
    refine SL.nil ?_
    exact SE.round (k + 1) (by omega) (by exact ⟨rfl, rfl, rfl, rfl, trivial⟩) (fun w' hw' => ⟨⟨hlt, take_succ_eq hk2 hlt hlt2 (Decidable.not_not.1 hc24)⟩, hw'⟩)
  intro hc24
  refine SC.seq (SC.region ?_)
  refine SL.val (Val.assign rfl) rfl rfl ?_
  refine SL.nil (SE.seq ?_)
  refine SC.ret ?_
  refine SE.ret ?_
  refine SE.then_ (by intro h; cases h) ?_
  refine SE.then_ (by intro h; cases h) ?_
  refine SE.ret ?_
  refine SE.then_ (by intro h; cases h) ?_
  refine SE.ret1 rfl rfl ?_
  intro w' hw'
  refine ⟨?_, hw'⟩; congr 2; refine (decide_eq_false (fun h => hc24 ?_)).symm; subst h; rfl

theorem same_c {v u : Value} {es fs : List Ent} (hw : Mem S σ ρ w) (he : entsD v es ∈ ρ) (hf : entsD u fs ∈ ρ) (hl : es.length ≤ 1000000) (h1 : ∀ e ∈ es, e.Lits) (h2 : ∀ e ∈ fs, e.Lits) : Calls Try.prog 40 #[v, u] w fun e w' => e = .returned (.bool (decide (es = fs))) ∧ Mem S σ ρ w' := by
  refine calls_of [v, u] Try.func40 rfl Try.ntmps40 rfl (Mem S σ ρ) hw ?_
  refine SC.seq (SC.region ?_)
  refine SL.val (Val.assign rfl) rfl rfl ?_
  refine SL.nil (SE.seq ?_)
  refine SC.seq (SC.region ?_)
  iterate 2 refine SL.val (Val.move rfl) rfl rfl ?_
  refine SL.call (by kernel_rfl) rfl rfl rfl ?_
  intro w hw
  refine (equal_c hw he hf hl h1 h2).mono ?_; rintro _ _ ⟨rfl, hm⟩; refine ⟨_, _, rfl, hm, ?_⟩; clear hm hw w
  refine SL.val (Val.assign rfl) rfl rfl ?_
  refine SL.nil (SE.seq ?_)
  refine SC.ret ?_
  refine SE.ret1 rfl rfl ?_
  intro w' hw'
  exact ⟨rfl, hw'⟩

/-! ### The document's Parse -/
end
section
variable {S : List (World × List Nat)} {σ τ : Blks} {ρ : List Dt} {w : World} {P : Program} {n : Nat} {l : Slots} {D : World → Prop} {o : Oper} {v u : Value}
theorem Val.to (h : Val P n l D o v) (e : v = u) : Val P n l D o u := e ▸ h
end
end Go.Proofs.Ytiaeochlepkleaa
/-
  Batches, in plain Lean: the program's Parse answers as the document's.
-/
namespace Go.Proofs.Ytiaeochlepkleaa
open Go.RowKit

end Go.Proofs.Ytiaeochlepkleaa
/-
  The second engine: the contracts of batches, as they stand.
-/
namespace Go.Proofs.Ytiaeochlepkleaa.A
open Go.RowKit

abbrev entsA (es : List Ent) : Abs := flat 8 Ent.cells es
theorem ent8 (e : Ent) : e.cells.length = 8 := rfl
section
variable {K : List Nat} {w : World} {v u : Value} {es fs : List Ent} {n : Int} {l : List UInt8} {p : Nat} {s : Rd}
theorem bsame_s (hl : es.length ≤ 1000000) (h1 : ∀ e ∈ es, e.Lits) (h2 : ∀ e ∈ fs, e.Lits) : Pure Try.prog 40 [entsA es, entsA fs] (boo (decide (es = fs))) := Pure.of2 fun K w vals hK hv => by
  obtain ⟨v, us', rfl, g1, u, us2, rfl, g2, g3⟩ := hv
  have g3 : us2 = [] := g3
  subst g3
  refine (same_c (((enter2 w K).add (z := entsD v es) (row2 ((rep_flat ent8).1 g1))).add (z := entsD u fs) (row2 ((rep_flat ent8).1 g2))) (by simp) (by simp) hl h1 h2).mono fun e w' ⟨he, hm⟩ => ⟨_, he, leave2 hm (by simp), rfl⟩
theorem rbsame_s (hl : es.length ≤ 1000000) (h1 : ∀ e ∈ es, e.Lits) (h2 : ∀ e ∈ fs, e.Lits) : Pure Try.prog 34 [entsA es, entsA fs] (boo (decide (es = fs))) := Pure.of2 fun K w vals hK hv => by
  obtain ⟨v, us', rfl, g1, u, us2, rfl, g2, g3⟩ := hv
  have g3 : us2 = [] := g3
  subst g3
  refine (rsame_c (((enter2 w K).add (z := entsD v es) (row2 ((rep_flat ent8).1 g1))).add (z := entsD u fs) (row2 ((rep_flat ent8).1 g2))) (by simp) (by simp) hl h1 h2).mono fun e w' ⟨he, hm⟩ => ⟨_, he, leave2 hm (by simp), rfl⟩
end
end Go.Proofs.Ytiaeochlepkleaa.A
/-
  What histories have in common, plain.
-/
namespace Go.Proofs.Ytiaeochlepkleaa.A
open Go.RowKit

/-- A deed. -/
structure Dd where
  seq : Int
  batch : List Ent
  adopted : Bool
noncomputable instance : DecidableEq Dd := fun _ _ => Classical.propDecidable _
def Dd.abs (d : Dd) : List Abs := [int d.seq, entsR d.batch, boo d.adopted]
abbrev ddsA (l : List Dd) : Abs := .sl 3 (l.map Dd.abs)
structure DdIns (d : Dd) : Prop where
  seq : i64ok d.seq
  batch : ∀ e ∈ d.batch, EnIns e
theorem EnIns.lits {e : Ent} (h : EnIns e) : e.Lits := ⟨h.client, h.stamp, h.op, h.a, h.b, h.letter, h.text, h.mask⟩
theorem dds_ones (l : List Dd) : ∀ c ∈ l.map Dd.abs, ones c = true := by
  intro c hc
  obtain ⟨o, _, rfl⟩ := List.mem_map.1 hc
  rfl
/-- Rows of rows. -/
abbrev ddssA (l : List (List Dd)) : Abs := .sl 1 (l.map fun d => [ddsA d])
/-! ### Gaps -/
def gapB : Int → List Dd → Bool
  | _, [] => true
  | q, x :: l => if x.seq ≤ q ∨ (x.adopted = false ∧ x.seq - q ≠ 1) then false else gapB x.seq l
theorem gapB_step {q : Int} {l : List Dd} {z : Nat} (h : z < l.length) : gapB q (l.drop z) = if l[z].seq ≤ q ∨ (l[z].adopted = false ∧ l[z].seq - q ≠ 1) then false else gapB l[z].seq (l.drop (z + 1)) := by
  rw [List.drop_eq_getElem_cons h, gapB]
/-! ### Rows by numbers -/
/-- The deeds of a number that aren't adopted. -/
def rowOf (D : List Dd) (k : Int) : List Dd := D.filter fun d => !d.adopted && decide (d.seq = k)
theorem rowOf_app (D E : List Dd) (k : Int) : rowOf (D ++ E) k = rowOf D k ++ rowOf E k := List.filter_append ..
theorem rowOf_one (d : Dd) (k : Int) : rowOf [d] k = if d.adopted = false ∧ d.seq = k then [d] else [] := by
  unfold rowOf
  by_cases h : d.adopted = false ∧ d.seq = k
  · rw [if_pos h, List.filter_cons_of_pos (by simp [h.1, h.2])]; rfl
  · rw [if_neg h, List.filter_cons_of_neg (by simpa using h)]; rfl
theorem rowOf_mem {D : List Dd} {k : Int} {d : Dd} : d ∈ rowOf D k ↔ d ∈ D ∧ d.adopted = false ∧ d.seq = k := by
  unfold rowOf
  rw [List.mem_filter]
  simp
theorem flat_succ {α : Type} {l : List (List α)} {z : Nat} (hz : z < l.length) : (l.take (z + 1)).flatten = (l.take z).flatten ++ l[z] := by
  rw [List.take_succ_eq_append_getElem hz, List.flatten_append]
  simp
theorem flat_part {α : Type} {l : List (List α)} {z : Nat} (hz : z < l.length) (y : Nat) : ((l.take z).flatten ++ l[z].take y).length ≤ l.flatten.length := by
  have h1 : l.flatten = (l.take (z + 1)).flatten ++ (l.drop (z + 1)).flatten := by rw [← List.flatten_append, List.take_append_drop]
  rw [h1, flat_succ hz]
  simp only [List.length_append, List.length_take]
  omega
theorem row_le (D : List Dd) (k : Int) : (rowOf D k).length ≤ D.length := List.length_filter_le _ _
/-- What maps of numbers tell. -/
structure Num (D : List Dd) (tm : List (Int × (Value × List Dd))) : Prop where
  nd : (tm.map (·.1)).Nodup
  get : ∀ k, ((aget tm k).map (·.2)).getD [] = rowOf D k
  ok : ∀ e ∈ tm, i64ok e.1
theorem Num.nil : Num [] [] := ⟨List.nodup_nil, fun _ => rfl, fun e he => by cases he⟩
theorem Num.skip {D : List Dd} {tm : List (Int × (Value × List Dd))} (h : Num D tm) {d : Dd} (hd : d.adopted = true) : Num (D ++ [d]) tm := ⟨h.nd, fun k => by
  rw [h.get, rowOf_app, rowOf_one, if_neg (fun h => by rw [hd] at h; cases h.1), List.append_nil], h.ok⟩
theorem Num.put {D : List Dd} {tm : List (Int × (Value × List Dd))} (h : Num D tm) {d : Dd} (hd : d.adopted = false) (hi : i64ok d.seq) (v : Value) : Num (D ++ [d]) (aput tm d.seq (v, ((aget tm d.seq).map (·.2)).getD [] ++ [d])) := ⟨aput_nodup h.nd _ _, fun k => by
  rw [aget_aput, rowOf_app, rowOf_one, h.get]
  by_cases hk : k = d.seq
  · subst hk
    rw [if_pos rfl, if_pos ⟨hd, rfl⟩]
    rfl
  · rw [if_neg hk, if_neg (fun h => hk h.2.symm), List.append_nil]
    exact h.get k, fun e he => by
  unfold aput at he
  split at he
  · obtain ⟨x, hx, rfl⟩ := List.mem_map.1 he
    split
    · exact hi
    · exact h.ok x hx
  · rcases List.mem_append.1 he with he | he
    · exact h.ok e he
    · rw [List.mem_singleton.1 he]; exact hi⟩
theorem Num.entry {D : List Dd} {tm : List (Int × (Value × List Dd))} (h : Num D tm) {e : Int × (Value × List Dd)} (he : e ∈ tm) : e.2.2 = rowOf D e.1 := by
  have h1 : aget tm e.1 = some e.2 := by
    have hn := h.nd
    clear h
    induction tm with
    | nil => cases he
    | cons p tm ih =>
      rw [List.map_cons, List.nodup_cons] at hn
      unfold aget at ih ⊢
      rw [List.find?_cons]
      rcases List.mem_cons.1 he with rfl | he
      · rw [decide_eq_true rfl]; rfl
      · have hne : p.1 ≠ e.1 := fun e' => hn.1 (e' ▸ List.mem_map.2 ⟨e, he, rfl⟩)
        rw [decide_eq_false hne]
        exact ih he hn.2
  rw [← h.get, h1]
  rfl
theorem Num.none {D : List Dd} {tm : List (Int × (Value × List Dd))} (h : Num D tm) {k : Int} (hk : ∀ e ∈ tm, e.1 ≠ k) : rowOf D k = [] := by
  rw [← h.get, (aget_none tm k).2 (fun hm => by
    obtain ⟨e, he, h1⟩ := List.mem_map.1 hm
    exact hk e he h1)]
  rfl
/-! ### Whether they agree -/
def sameD (a b : List Dd) : Prop := ∀ x ∈ a, ∀ y ∈ b, x.adopted = false → y.adopted = false → x.seq = y.seq → x.batch = y.batch
noncomputable instance (a b : List Dd) : Decidable (sameD a b) := Classical.propDecidable _
theorem sameD.symm {a b : List Dd} (h : sameD a b) : sameD b a := fun x hx y hy h1 h2 h3 => (h y hy x hx h2 h1 h3.symm).symm
/-- All of one batch. -/
def oneB (l : List Dd) : Prop := ∀ x ∈ l, ∀ y, l.head? = some y → x.batch = y.batch
noncomputable instance (l : List Dd) : Decidable (oneB l) := Classical.propDecidable _
/-- All of them agree with all of them. -/
def allSame (l : List (List Dd)) : Prop := ∀ a ∈ l, ∀ b ∈ l, sameD a b
noncomputable instance (l : List (List Dd)) : Decidable (allSame l) := Classical.propDecidable _
theorem allSame_rows {l : List (List Dd)} : allSame l ↔ ∀ k, oneB (rowOf l.flatten k) := by
  constructor
  · intro h k x hx y hy
    have hy2 : y ∈ rowOf l.flatten k := List.mem_of_mem_head? hy
    obtain ⟨g1, g2, g3⟩ := rowOf_mem.1 hx
    obtain ⟨k1, k2, k3⟩ := rowOf_mem.1 hy2
    obtain ⟨a, ha, hxa⟩ := List.mem_flatten.1 g1
    obtain ⟨b, hb, hyb⟩ := List.mem_flatten.1 k1
    exact h a ha b hb x hxa y hyb g2 k2 (g3.trans k3.symm)
  · intro h a ha b hb x hx y hy h1 h2 h3
    have hx2 : x ∈ rowOf l.flatten y.seq := rowOf_mem.2 ⟨List.mem_flatten.2 ⟨a, ha, hx⟩, h1, h3⟩
    have hy2 : y ∈ rowOf l.flatten y.seq := rowOf_mem.2 ⟨List.mem_flatten.2 ⟨b, hb, hy⟩, h2, rfl⟩
    cases hh : (rowOf l.flatten y.seq).head? with
    | none =>
      rw [List.head?_eq_none_iff] at hh
      rw [hh] at hx2
      cases hx2
    | some z => exact (h _ x hx2 z hh).trans (h _ y hy2 z hh).symm
/-! ### What they tell together -/
/-- A history that is as long as it goes. -/
structure IsHist (D : List Dd) (H : List (List Ent)) : Prop where
  at_ : ∀ i (hi : i < H.length), ∃ d, (rowOf D ((i : Int) + 1)).head? = some d ∧ H[i] = d.batch
  end_ : rowOf D ((H.length : Int) + 1) = []
theorem IsHist.uniq {D : List Dd} {H1 H2 : List (List Ent)} (h1 : IsHist D H1) (h2 : IsHist D H2) : H1 = H2 := by
  have aux : ∀ {A B : List (List Ent)}, IsHist D A → IsHist D B → B.length ≤ A.length := by
    intro A B ha hb
    rcases Nat.lt_or_ge A.length B.length with h | h
    · obtain ⟨d, hd, _⟩ := hb.at_ A.length h
      rw [ha.end_] at hd
      cases hd
    · exact h
  refine List.ext_getElem (Nat.le_antisymm (aux h2 h1) (aux h1 h2)) fun i g1 g2 => ?_
  obtain ⟨d, hd, e1⟩ := h1.at_ i g1
  obtain ⟨d2, hd2, e2⟩ := h2.at_ i g2
  rw [hd] at hd2
  cases hd2
  rw [e1, e2]
/-- So far. -/
def HistUp (D : List Dd) (H : List (List Ent)) : Prop := ∀ i (hi : i < H.length), ∃ d, (rowOf D ((i : Int) + 1)).head? = some d ∧ H[i] = d.batch
theorem HistUp.nil {D : List Dd} : HistUp D [] := fun i hi => by cases hi
theorem HistUp.more {D : List Dd} {H : List (List Ent)} (h : HistUp D H) {d : Dd} (hd : (rowOf D ((H.length : Int) + 1)).head? = some d) : HistUp D (H ++ [d.batch]) := fun i hi => by
  rw [List.length_append, List.length_singleton] at hi
  rcases Nat.lt_or_ge i H.length with h1 | h1
  · obtain ⟨e, he, h2⟩ := h i h1
    exact ⟨e, he, by rw [List.getElem_append_left h1]; exact h2⟩
  · obtain rfl : i = H.length := by omega
    exact ⟨d, hd, by simp⟩
theorem keys_le : ∀ (m : Nat) (D : List Dd), (∀ i, i < m → rowOf D ((i : Int) + 1) ≠ []) → m ≤ D.length
  | 0, _, _ => Nat.zero_le _
  | m + 1, D, h => by
    have h1 := keys_le m (D.filter fun d => !decide (d.seq = (m : Int) + 1)) fun i hi => by
      have h2 := h i (by omega)
      obtain ⟨x, hx⟩ := List.exists_mem_of_ne_nil _ h2
      obtain ⟨g1, g2, g3⟩ := rowOf_mem.1 hx
      intro h3
      have h4 : x ∈ rowOf (D.filter fun d => !decide (d.seq = (m : Int) + 1)) ((i : Int) + 1) := rowOf_mem.2 ⟨List.mem_filter.2 ⟨g1, by simp; omega⟩, g2, g3⟩
      rw [h3] at h4
      cases h4
    obtain ⟨x, hx⟩ := List.exists_mem_of_ne_nil _ (h m (by omega))
    obtain ⟨g1, g2, g3⟩ := rowOf_mem.1 hx
    have h5 : (D.filter fun d => !decide (d.seq = (m : Int) + 1)).length < D.length := List.length_filter_lt_length_iff_exists.2 ⟨x, g1, by simp [g3]⟩
    omega
theorem HistUp.le {D : List Dd} {H : List (List Ent)} (h : HistUp D H) : H.length ≤ D.length := keys_le _ D fun i hi h2 => by
  obtain ⟨d, hd, _⟩ := h i hi
  rw [h2] at hd
  cases hd
theorem hist_ex (D : List Dd) : ∃ H, IsHist D H := by
  have aux : ∀ (f : Nat) (H : List (List Ent)), HistUp D H → D.length ≤ H.length + f → ∃ H, IsHist D H := by
    intro f
    induction f with
    | zero =>
      intro H h hl
      cases hh : (rowOf D ((H.length : Int) + 1)).head? with
      | none => exact ⟨H, h, List.head?_eq_none_iff.1 hh⟩
      | some d =>
        have := (h.more hh).le
        simp at this
        omega
    | succ f ih =>
      intro H h hl
      cases hh : (rowOf D ((H.length : Int) + 1)).head? with
      | none => exact ⟨H, h, List.head?_eq_none_iff.1 hh⟩
      | some d => exact ih _ (h.more hh) (by simp; omega)
  exact aux D.length [] HistUp.nil (by simp)
noncomputable def histF (D : List Dd) : List (List Ent) := (hist_ex D).choose
theorem histF_is (D : List Dd) : IsHist D (histF D) := (hist_ex D).choose_spec
theorem IsHist.eq {D : List Dd} {H : List (List Ent)} (h : IsHist D H) : H = histF D := h.uniq (histF_is D)
theorem HistUp.done {D : List Dd} {H : List (List Ent)} (h : HistUp D H) (he : rowOf D ((H.length : Int) + 1) = []) : H = histF D := IsHist.eq ⟨h, he⟩
noncomputable def mergeF (l : List (List Dd)) : List (List Ent) × Bool := if allSame l then (histF l.flatten, true) else ([], false)
end Go.Proofs.Ytiaeochlepkleaa.A
/-
  Glances, and what is odd about them, plain.
-/
namespace Go.Proofs.Ytiaeochlepkleaa.A
open Go.RowKit

/-- A glance. -/
structure Gl where
  who : Int
  view : Int
  low : Int
  cur : Int
  drops : Int
  slots : Int
  deeds : List Dd
noncomputable instance : DecidableEq Gl := fun _ _ => Classical.propDecidable _
def Gl.abs (g : Gl) : List Abs := [int g.who, int g.view, int g.low, int g.cur, int g.drops, int g.slots, ddsA g.deeds]
abbrev glA (g : Gl) : Abs := .agg g.abs
abbrev glsA (l : List Gl) : Abs := .sl 7 (l.map Gl.abs)
def Gl.zero : Gl := ⟨0, 0, 0, 0, 0, 0, []⟩
structure GlIns (g : Gl) : Prop where
  who : i64ok g.who
  view : i64ok g.view
  low : i64ok g.low
  cur : i64ok g.cur
  drops : i64ok g.drops
  slots : i64ok g.slots
  deeds : ∀ d ∈ g.deeds, DdIns d
/-- A glance that may be asked about. -/
structure GlOk (g : Gl) : Prop where
  ins : GlIns g
  dn : g.deeds.length ≤ 30
  bn : ∀ d ∈ g.deeds, d.batch.length ≤ 6
theorem gls_ones (l : List Gl) : ∀ c ∈ l.map Gl.abs, ones c = true := by
  intro c hc
  obtain ⟨o, _, rfl⟩ := List.mem_map.1 hc
  rfl
def marksF (g : Gl) : Bool := decide (g.slots > 8) || (decide (g.low > g.cur) || decide (g.low.tmod 4 ≠ 0))
def lowB (a b : Gl) : Bool := decide (a.view < b.view) || (decide (a.low < b.low) || (decide (a.cur < b.cur) || decide (a.drops < b.drops)))
def backO (o : Option Gl) (g : Gl) : Bool := match o with
  | some w => lowB g w
  | none => false
/-- Don't the deeds go on from what they were? -/
noncomputable def otherB (w g : Gl) : Bool := decide (¬ w.deeds <+: g.deeds)
noncomputable def otherO (o : Option Gl) (g : Gl) : Bool := otherB (o.getD Gl.zero) g
def lastSeq (l : List Dd) : Int := (l.getLast?.map (·.seq)).getD 0
def gapF (g : Gl) : Bool := decide (lastSeq g.deeds ≠ g.cur) || !gapB 0 g.deeds
def lastF (L : List Gl) (k : Int) : Option Gl := L.find? fun g => decide (g.who = k)
noncomputable def twiceF (l : List Gl) : Bool := decide (¬ (l.map (·.who)).Nodup)
noncomputable def oddF (f : Int → Option Gl) (l : List Gl) : Int :=
  if twiceF l = true then 15 else if l.any marksF = true then 14 else if l.any (fun g => backO (f g.who) g) = true then 5 else if l.any (fun g => otherO (f g.who) g) = true then 10
  else if l.any gapF = true then 2 else if allSame (l.map (·.deeds)) then 0 else 16
def newRow (L l : List Gl) : List Gl := l ++ L.filter fun g => l.all fun h => decide (h.who ≠ g.who)
noncomputable def lookL (L l : List Gl) : List Gl := if oddF (lastF L) l = 0 then newRow L l else L
theorem other_zero (g : Gl) : otherB Gl.zero g = false := by
  unfold otherB
  exact decide_eq_false fun h => h (List.nil_prefix)
theorem otherO_none (g : Gl) : otherO none g = false := other_zero g
theorem other_eq (w g : Gl) : otherB w g = (decide (w.deeds.length > g.deeds.length) || !decide (w.deeds = g.deeds.take w.deeds.length)) := by
  unfold otherB
  rw [Bool.eq_iff_iff]
  simp only [decide_eq_true_eq, Bool.or_eq_true, Bool.not_eq_true', decide_eq_false_iff_not]
  constructor
  · intro h
    by_cases hl : w.deeds.length > g.deeds.length
    · exact .inl hl
    · exact .inr fun h2 => h (by rw [h2]; exact List.take_prefix _ _)
  · rintro (h | h) h2
    · have := h2.length_le; omega
    · exact h (List.prefix_iff_eq_take.1 h2)
theorem lastSeq_step {l : List Dd} {z : Nat} (h : z < l.length) : lastSeq (l.take (z + 1)) = l[z].seq := by
  unfold lastSeq
  rw [List.take_succ_eq_append_getElem h, List.getLast?_append]
  rfl
theorem lastSeq_last {l : List Dd} (h : l.length - 1 < l.length) : lastSeq l = (l[l.length - 1]'h).seq := by
  have h2 := lastSeq_step h
  rwa [List.take_of_length_le (by omega)] at h2
structure Mems (tm : List (Int × (Value × Gl))) (L : List Gl) : Prop where
  nd : (tm.map (·.1)).Nodup
  ndL : (L.map (·.who)).Nodup
  get : ∀ k, (aget tm k).map (·.2) = lastF L k
  ok : ∀ e ∈ tm, i64ok e.1
  gl : ∀ g ∈ L, GlOk g
theorem lastF_some {L : List Gl} {k : Int} {g : Gl} (h : lastF L k = some g) : g ∈ L ∧ g.who = k := by
  unfold lastF at h
  exact ⟨List.mem_of_find?_eq_some h, by simpa using List.find?_some h⟩
theorem lastF_none {L : List Gl} {k : Int} : lastF L k = none ↔ ∀ g ∈ L, g.who ≠ k := by
  unfold lastF
  rw [List.find?_eq_none]
  simp
theorem who_inj : ∀ {L : List Gl}, (L.map (·.who)).Nodup → ∀ {g x : Gl}, g ∈ L → x ∈ L → x.who = g.who → x = g
  | [], _, _, _, h, _, _ => by cases h
  | y :: L, hn, g, x, h1, h2, he => by
    rw [List.map_cons, List.nodup_cons] at hn
    rcases List.mem_cons.1 h1 with h3 | h3
    · rcases List.mem_cons.1 h2 with h4 | h4
      · rw [h3, h4]
      · subst h3; exact absurd (he ▸ List.mem_map_of_mem h4) hn.1
    · rcases List.mem_cons.1 h2 with h4 | h4
      · subst h4; exact absurd (he ▸ List.mem_map_of_mem h3) hn.1
      · exact who_inj hn.2 h3 h4 he
theorem lastF_of {L : List Gl} (hn : (L.map (·.who)).Nodup) {g : Gl} (hg : g ∈ L) : lastF L g.who = some g := by
  cases h : lastF L g.who with
  | none => exact absurd rfl (lastF_none.1 h g hg)
  | some x =>
    obtain ⟨h1, h2⟩ := lastF_some h
    rw [who_inj hn hg h1 h2]
theorem Mems.len {tm : List (Int × (Value × Gl))} {L : List Gl} (h : Mems tm L) : tm.length = L.length := by
  have hp : (tm.map (·.1)).Perm (L.map (·.who)) := (List.perm_ext_iff_of_nodup h.nd h.ndL).2 fun k => by
    have hg := h.get k
    constructor
    · intro hk
      obtain ⟨e, he, rfl⟩ := List.mem_map.1 hk
      cases ha : aget tm e.1 with
      | none =>
        unfold aget at ha
        rw [Option.map_eq_none_iff, List.find?_eq_none] at ha
        exact absurd (ha e he) (by simp)
      | some v =>
        rw [ha] at hg
        obtain ⟨h1, h2⟩ := lastF_some hg.symm
        exact h2 ▸ List.mem_map_of_mem h1
    · intro hk
      obtain ⟨g, hg2, rfl⟩ := List.mem_map.1 hk
      rw [lastF_of h.ndL hg2] at hg
      cases ha : aget tm g.who with
      | none => rw [ha] at hg; cases hg
      | some v => exact List.mem_map.2 ⟨_, aget_in ha, rfl⟩
  simpa using hp.length_eq
theorem Mems.nil : Mems [] [] := ⟨List.nodup_nil, List.nodup_nil, fun _ => rfl, (fun e he => by cases he), fun e he => by cases he⟩
theorem lastF_step {l : List Gl} {z : Nat} (hz : z < l.length) (hn : (l.map (·.who)).Nodup) (k : Int) : lastF (l.take (z + 1)) k = if k = l[z].who then some l[z] else lastF (l.take z) k := by
  rw [List.take_succ_eq_append_getElem hz]
  unfold lastF
  rw [List.find?_append]
  by_cases h : k = l[z].who
  · rw [if_pos h]
    have h0 : (l.take z).find? (fun g => decide (g.who = k)) = none := by
      rw [List.find?_eq_none]
      intro g hg he
      obtain ⟨j, hj, rfl⟩ := List.getElem_of_mem hg
      rw [List.length_take] at hj
      rw [List.getElem_take] at he
      have he2 : (l[j]'(by omega)).who = l[z].who := by rw [← h]; exact of_decide_eq_true he
      have h5 := (List.getElem_inj (xs := l.map (·.who)) (i := j) (j := z) (h₀ := by rw [List.length_map]; omega) (h₁ := by rw [List.length_map]; omega) hn).1 (by rw [List.getElem_map, List.getElem_map]; exact he2)
      omega
    rw [h0]
    simp [h]
  · rw [if_neg h]
    have h1 : ([l[z]].find? fun g => decide (g.who = k)) = none := by
      rw [List.find?_eq_none]
      intro g hg he
      rw [List.mem_singleton] at hg
      subst hg
      exact h (of_decide_eq_true he).symm
    rw [h1, Option.or_none]
/-- What the map tells while glances are put in. -/
structure Puts (tm : List (Int × (Value × Gl))) (L l : List Gl) (z : Nat) : Prop where
  nd : (tm.map (·.1)).Nodup
  get : ∀ k, (aget tm k).map (·.2) = (lastF (l.take z) k).or (lastF L k)
  ok : ∀ e ∈ tm, i64ok e.1
theorem Mems.puts {tm : List (Int × (Value × Gl))} {L l : List Gl} (h : Mems tm L) : Puts tm L l 0 := ⟨h.nd, fun k => by rw [h.get]; rfl, h.ok⟩
theorem Puts.step {tm : List (Int × (Value × Gl))} {L l : List Gl} {z : Nat} (h : Puts tm L l z) (hz : z < l.length) (hn : (l.map (·.who)).Nodup) (hi : i64ok l[z].who) (v : Value) : Puts (aput tm l[z].who (v, l[z])) L l (z + 1) := ⟨aput_nodup h.nd _ _, fun k => by
  rw [aget_aput, lastF_step hz hn]
  by_cases hk : k = l[z].who
  · rw [if_pos hk, if_pos hk]; rfl
  · rw [if_neg hk, if_neg hk]; exact h.get k, fun e he => by
  unfold aput at he
  split at he
  · obtain ⟨x, hx, rfl⟩ := List.mem_map.1 he
    split
    · exact hi
    · exact h.ok x hx
  · rcases List.mem_append.1 he with he | he
    · exact h.ok e he
    · rw [List.mem_singleton] at he; subst he; exact hi⟩
theorem newRow_get (L l : List Gl) (k : Int) : lastF (newRow L l) k = (lastF l k).or (lastF L k) := by
  unfold newRow
  show (l ++ _).find? _ = _
  rw [List.find?_append]
  show (lastF l k).or _ = _
  cases h : lastF l k with
  | some g => rfl
  | none =>
    show List.find? _ _ = L.find? _
    rw [List.find?_filter]
    congr 1
    funext g
    by_cases hg : g.who = k
    · have h2 := lastF_none.1 h
      simpa [hg] using h2
    · simp [hg]
theorem newRow_nodup {L l : List Gl} (hL : (L.map (·.who)).Nodup) (hl : (l.map (·.who)).Nodup) : ((newRow L l).map (·.who)).Nodup := by
  unfold newRow
  rw [List.map_append]
  refine List.nodup_append.2 ⟨hl, ((List.filter_sublist).map _).nodup hL, ?_⟩
  intro a ha b hb hab
  obtain ⟨g, hg, rfl⟩ := List.mem_map.1 ha
  obtain ⟨x, hx, rfl⟩ := List.mem_map.1 hb
  have h1 := (List.mem_filter.1 hx).2
  exact of_decide_eq_true (List.all_eq_true.1 h1 g hg) hab
theorem newRow_le (L l : List Gl) : (newRow L l).length ≤ l.length + L.length := by
  unfold newRow
  rw [List.length_append]
  have := List.length_filter_le (fun g => l.all fun h => decide (h.who ≠ g.who)) L
  omega
theorem Puts.mems {tm : List (Int × (Value × Gl))} {L l : List Gl} (h : Puts tm L l l.length) (hL : (L.map (·.who)).Nodup) (hg : ∀ g ∈ L, GlOk g) (hl : (l.map (·.who)).Nodup) (hgl : ∀ g ∈ l, GlOk g) : Mems tm (newRow L l) :=
  ⟨h.nd, newRow_nodup hL hl, fun k => by rw [newRow_get, h.get, List.take_length], h.ok, fun g h1 => by
    unfold newRow at h1
    rcases List.mem_append.1 h1 with h1 | h1
    · exact hgl g h1
    · exact hg g (List.mem_filter.1 h1).1⟩
end Go.Proofs.Ytiaeochlepkleaa.A
/-
  The second engine: many pieces as one, at once; calls that change pieces in the midst, and read others.
-/
namespace Go.Proofs.Ytiaeochlepkleaa.A
open Go.RowKit

/-- A piece that may be changed, as one of memory. -/
def itPc : It → Pc
  | .blk b t cs => blkP b t cs
  | .pc c => c
  | _ => bigP []
/-- Pieces that may be changed, as one. -/
def bigI (xs : Blks) : Pc := bigP (xs.map itPc)
def isMut : It → Bool
  | .blk .. => true
  | .pc _ => true
  | _ => false
section
variable {xs ys : Blks} {x : It} {K : List Nat} {w : World}
theorem itPc_ids (h : isMut x = true) : (itPc x).ids = x.mids := by
  cases x with
  | blk b t cs => simp [itPc, It.mids, blkP]
  | pc c => rfl
  | _ => cases h
theorem itPc_p (h : isMut x = true) : (itPc x).p K w ↔ x.holds K w := by
  cases x with
  | blk b t cs => exact Iff.rfl
  | pc c => exact Iff.rfl
  | _ => cases h
theorem mut_rids (h : isMut x = true) : x.rids = [] := by
  cases x with
  | blk b t cs => rfl
  | pc c => rfl
  | _ => cases h
theorem bigI_ids : ∀ {xs : Blks}, xs.all isMut = true → (bigI xs).ids = mids xs
  | [], _ => rfl
  | x :: xs, h => by
    rw [List.all_cons, Bool.and_eq_true] at h
    have h1 := bigI_ids h.2
    unfold bigI bigP at h1 ⊢
    simp only [List.map_cons, List.flatMap_cons]
    rw [itPc_ids h.1, mids_cons]
    exact congrArg (x.mids ++ ·) h1
theorem bigI_p (h : xs.all isMut = true) : (bigI xs).p K w ↔ ∀ x ∈ xs, x.holds K w := by
  rw [List.all_eq_true] at h
  show (∀ c ∈ xs.map itPc, c.p K w) ↔ _
  constructor
  · intro h1 x hx
    exact (itPc_p (h x hx)).1 (h1 _ (List.mem_map.2 ⟨x, hx, rfl⟩))
  · intro h1 c hc
    obtain ⟨x, hx, rfl⟩ := List.mem_map.1 hc
    exact (itPc_p (h x hx)).2 (h1 x hx)
theorem mids_big (h : xs.all isMut = true) : mids [.pc (bigI xs)] = mids xs := by
  rw [mids_cons]
  show (bigI xs).ids ++ mids [] = _
  rw [bigI_ids h]
  simp [mids]
/-- A function that reads, and leaves the pieces. -/
theorem Spec.stay {P : Program} {f : FuncId} {args : List Abs} {c : Pc} {r : Abs} (h : Spec P f args [] (fun _ : Unit => []) (fun _ => r)) : Spec P f args [.pc c] (fun _ : Unit => [.pc c]) (fun _ => r) := fun G w vals hm hv =>
  (h.after hm hv (After.pure Reads.nil (fun _ => rfl) (K := fun ν _ => ν = [.pc c]) (fun _ => rfl))).mono fun e w' ⟨z, u, ν, he, hx, ho, hm', hc, hr', hk⟩ => by
    subst hk
    exact ⟨(), u, he, by simp [It.rids], hm', hr'⟩
end
end Go.Proofs.Ytiaeochlepkleaa.A
/-
  The second engine: maps of rows of the call's own: a row taken out, and put back; all of them as rows that are read.
-/
namespace Go.Proofs.Ytiaeochlepkleaa.A
open Go.RowKit

section
variable {xs ys zs : Blks} {x : It}
theorem Re.bigPerm (hp : xs.Perm ys) (hx : xs.all isMut = true) : Re [.pc (bigI xs)] [.pc (bigI ys)] := by
  have hy : ys.all isMut = true := List.all_eq_true.2 fun y hy => List.all_eq_true.1 hx y (hp.mem_iff.2 hy)
  refine ⟨⟨[], ?_⟩, by simp [It.rids], fun K w h y hy2 => ?_⟩
  · rw [mids_big hx, mids_big hy, List.append_nil]
    exact mids_perm hp
  · rw [List.mem_singleton.1 hy2]
    exact (bigI_p hy).2 fun z hz => (bigI_p hx).1 (h _ List.mem_cons_self) z (hp.mem_iff.2 hz)
theorem mids_two (h : xs.all isMut = true) : mids [x, .pc (bigI xs)] = mids (x :: xs) := by
  rw [mids_cons, mids_big h, mids_cons]
theorem Re.bigCons (h : (x :: xs).all isMut = true) : Re [.pc (bigI (x :: xs))] [x, .pc (bigI xs)] := by
  have h1 : isMut x = true ∧ xs.all isMut = true := by rw [List.all_cons, Bool.and_eq_true] at h; exact h
  refine ⟨⟨[], ?_⟩, fun y hy => ?_, fun K w hh y hy => ?_⟩
  · rw [mids_big h, mids_two h1.2, List.append_nil]
  · rcases List.mem_cons.1 hy with rfl | hy
    · exact mut_rids h1.1
    · rw [List.mem_singleton.1 hy]; rfl
  · have h2 := (bigI_p h).1 (hh _ List.mem_cons_self)
    rcases List.mem_cons.1 hy with rfl | hy
    · exact h2 _ List.mem_cons_self
    · rw [List.mem_singleton.1 hy]
      exact (bigI_p h1.2).2 fun z hz => h2 z (List.mem_cons_of_mem _ hz)
theorem Re.bigBack (h : (x :: xs).all isMut = true) : Re [x, .pc (bigI xs)] [.pc (bigI (x :: xs))] := by
  have h1 : isMut x = true ∧ xs.all isMut = true := by rw [List.all_cons, Bool.and_eq_true] at h; exact h
  refine ⟨⟨[], ?_⟩, by simp [It.rids], fun K w hh y hy => ?_⟩
  · rw [mids_big h, mids_two h1.2, List.append_nil]
  · rw [List.mem_singleton.1 hy]
    refine (bigI_p h).2 fun z hz => ?_
    rcases List.mem_cons.1 hz with rfl | hz
    · exact hh _ List.mem_cons_self
    · exact (bigI_p h1.2).1 (hh _ (List.mem_cons_of_mem _ List.mem_cons_self)) z hz
end
/-! ### Maps as lists of pairs -/
section
variable {α γ : Type} [DecidableEq α] {m : List (α × γ)} {a : α} {u : γ}
theorem aget_perm (hn : (m.map (·.1)).Nodup) (h : aget m a = some u) : m.Perm ((a, u) :: adel m a) := by
  induction m with
  | nil => cases h
  | cons p m ih =>
    rw [List.map_cons, List.nodup_cons] at hn
    by_cases hp : p.1 = a
    · have hu : p.2 = u := by
        unfold aget at h
        rw [List.find?_cons, decide_eq_true hp] at h
        exact Option.some.inj h
      have hd : adel (p :: m) a = m := by
        have h1 : adel (p :: m) a = adel m a := List.filter_cons_of_neg (by simpa using hp)
        rw [h1]
        exact adel_none ((aget_none m a).2 (hp ▸ hn.1))
      rw [hd, ← hp, ← hu]
    · have h1 : aget m a = some u := by
        unfold aget at h ⊢
        rw [List.find?_cons, decide_eq_false hp] at h
        exact h
      have h2 : adel (p :: m) a = p :: adel m a := List.filter_cons_of_pos (by simpa using hp)
      rw [h2]
      exact ((ih hn.2 h1).cons p).trans (List.Perm.swap _ _ _)
theorem adel_same (u : γ) : ∀ m : List (α × γ), adel (m.map fun p => if p.1 = a then (a, u) else p) a = adel m a
  | [] => rfl
  | p :: m => by
    have ih := adel_same u m
    rw [List.map_cons]
    unfold adel at ih ⊢
    by_cases hp : p.1 = a
    · rw [if_pos hp, List.filter_cons_of_neg (by simp), List.filter_cons_of_neg (by simpa using hp), ih]
    · rw [if_neg hp, List.filter_cons_of_pos (by simpa using hp), List.filter_cons_of_pos (by simpa using hp), ih]
theorem adel_aput : adel (aput m a u) a = adel m a := by
  unfold aput
  split
  · exact adel_same u m
  · unfold adel
    rw [List.filter_append]
    simp
theorem aput_perm (hn : (m.map (·.1)).Nodup) : (aput m a u).Perm ((a, u) :: adel m a) := by
  have h := aget_perm (aput_nodup hn a u) (a := a) (u := u) (by rw [aget_aput, if_pos rfl])
  rw [adel_aput] at h
  exact h
end
/-! ### The rows -/
section
variable {α β : Type} [DecidableEq α] {tm : List (α × (Value × β))} {a : α} {v : Value} {x z0 : β} {f : β → List (List Abs)} {T : TypeId} {s : Nat}
def rowsB {α : Type} (T : TypeId) (s : Nat) (f : β → List (List Abs)) (tm : List (α × (Value × β))) : Blks := tm.map fun e => own T s e.2.1 (f e.2.2)
abbrev rowsPc {α : Type} (T : TypeId) (s : Nat) (f : β → List (List Abs)) (tm : List (α × (Value × β))) : Pc := bigI (rowsB T s f tm)
def rowV (tm : List (α × (Value × β))) (a : α) : Value := ((aget tm a).map (·.1)).getD (.slice none 0 0)
def rowD (tm : List (α × (Value × β))) (a : α) (z0 : β) : β := ((aget tm a).map (·.2)).getD z0
omit [DecidableEq α] in
theorem rowsB_mut : (rowsB T s f tm).all isMut = true := by
  unfold rowsB
  rw [List.all_map]
  exact List.all_eq_true.2 fun _ _ => rfl
omit [DecidableEq α] in
theorem rowsB_perm {tm' : List (α × (Value × β))} (h : tm.Perm tm') : (rowsB T s f tm).Perm (rowsB T s f tm') := h.map _
omit [DecidableEq α] in
theorem Re.rows0 : Re [] [.pc (rowsPc T s f ([] : List (α × (Value × β))))] := ⟨⟨[], by rw [show mids [It.pc (rowsPc T s f ([] : List (α × (Value × β))))] = [] from mids_big rfl]; exact List.Perm.refl _⟩, by simp [It.rids], fun K w _ y hy => by
  rw [List.mem_singleton.1 hy]
  exact (bigI_p rfl).2 fun z hz => by cases hz⟩
theorem Re.rowOut (hn : (tm.map (·.1)).Nodup) (hz : f z0 = []) : Re [.pc (rowsPc T s f tm)] [own T s (rowV tm a) (f (rowD tm a z0)), .pc (rowsPc T s f (adel tm a))] := by
  cases h : aget tm a with
  | none =>
    have h1 : rowV tm a = .slice none 0 0 := by unfold rowV; rw [h]; rfl
    have h2 : f (rowD tm a z0) = [] := by unfold rowD; rw [h]; exact hz
    rw [h1, h2, adel_none h]
    refine ⟨⟨[], by simp [mids, It.mids, ownPc, Value.ownBlock]⟩, fun y hy => ?_, fun K w hh y hy => ?_⟩
    · rcases List.mem_cons.1 hy with rfl | hy
      · rfl
      · rw [List.mem_singleton.1 hy]; rfl
    · rcases List.mem_cons.1 hy with rfl | hy
      · exact ⟨[], ⟨by simp, .inl ⟨rfl, rfl⟩⟩, rfl⟩
      · rw [List.mem_singleton.1 hy]
        exact hh _ List.mem_cons_self
  | some u =>
    have h1 : rowV tm a = u.1 := by unfold rowV; rw [h]; rfl
    have h2 : rowD tm a z0 = u.2 := by unfold rowD; rw [h]; rfl
    rw [h1, h2]
    have h3 := rowsB_perm (T := T) (s := s) (f := f) (aget_perm hn h)
    exact (Re.bigPerm h3 rowsB_mut).trans (Re.bigCons (rowsB_mut (tm := (a, u) :: adel tm a)))
theorem Re.rowIn (hn : (tm.map (·.1)).Nodup) : Re [own T s v (f x), .pc (rowsPc T s f (adel tm a))] [.pc (rowsPc T s f (aput tm a (v, x)))] :=
  (Re.bigBack (rowsB_mut (T := T) (s := s) (f := f) (tm := (a, (v, x)) :: adel tm a))).trans (Re.bigPerm (rowsB_perm (aput_perm hn).symm) rowsB_mut)
theorem rowV_raw : (((aget (rawM tm) a).map id).getD (.slice none 0 0)) = rowV tm a := by
  rw [rawM_get]
  unfold rowV
  cases aget tm a <;> rfl
omit [DecidableEq α] in
theorem rows_rep {w0 w : World} {F G : List Nat} {pre post : Blks} (h : Mem w0 F G (pre ++ .pc (rowsPc T s f tm) :: post) w) : ∀ e ∈ tm, rep (mids (pre ++ post) ++ G) w (.sl s (f e.2.2)) e.2.1 := by
  intro e he
  obtain ⟨l1, l2, rfl⟩ := List.append_of_mem he
  have hr := (Re.bigPerm (rowsB_perm (T := T) (s := s) (f := f) (List.perm_middle (l₁ := l1) (a := e) (l₂ := l2))) rowsB_mut).trans (Re.bigCons (rowsB_mut (tm := e :: (l1 ++ l2))))
  obtain ⟨zs, hz⟩ := hr.ids
  have h1 := (Mem.regroup (α := pre) (β := post) hz hr.rd (fun K => hr.hh K w) h).1
  have h2 := own_sl (e := T) (s := s) (v := e.2.1) (xs := f e.2.2) (pre := pre) (post := .pc (rowsPc T s f (l1 ++ l2)) :: post) h1
  refine rep_carry (Carry.less fun k hk => ?_) _ _ h2
  rcases List.mem_append.1 hk with hk | hk
  · refine List.mem_append_left _ ?_
    rw [mids_append] at hk ⊢
    rw [mids_cons]
    rcases List.mem_append.1 hk with hk | hk
    · exact List.mem_append_left _ hk
    · exact List.mem_append_right _ (List.mem_append_right _ hk)
  · exact List.mem_append_right _ hk
variable {P : Program} {n : Nat} {W : Wd} {σ : Blks} {l : Slots} {ops : Array Oper} {rest : List Oper} {Q : Exit → Act → World → Prop} {ix : Plan} {X : List Nat}
omit [DecidableEq α] in
/-- All rows of a map, as rows that are read. -/
theorem St.rowsFacts {a : Act} {w : World} {pre post : Blks} (h : St n W (pre ++ .pc (rowsPc T s f tm) :: post) l a w) : St n W (facts (facM (fun x => .sl s (f x)) tm) :: (pre ++ post)) l a w := by
  have h1 := h.less (τ := pre ++ post) (List.Sublist.append (List.Sublist.refl _) (List.sublist_cons_self _ _))
  have h2 := rows_rep h.mem
  have h3 := h1.mem.new (y := facts (facM (fun x => .sl s (f x)) tm)) (Ext.refl w) (by simp [It.mids, factsPc]) (by simp [It.mids, factsPc]) rfl fun hc y hy => by
    obtain ⟨e, he, rfl⟩ := List.mem_map.1 hy
    exact rep_carry hc _ _ (h2 e he)
  exact h1.to h3.1 h3.2
omit [DecidableEq α] in
theorem SC.rowsFacts {c : Code} (pre : Blks) {post : Blks} (hσ : σ = pre ++ .pc (rowsPc T s f tm) :: post) (k : SC P c (St n W (facts (facM (fun x => .sl s (f x)) tm) :: (pre ++ post)) l) Q) : SC P c (St n W σ l) Q := by
  subst hσ; exact fun a w h => k a w h.rowsFacts
omit [DecidableEq α] in
theorem SL.rowsFacts (pre : Blks) {post : Blks} (hσ : σ = pre ++ .pc (rowsPc T s f tm) :: post) (k : SL P ops rest (St n W (facts (facM (fun x => .sl s (f x)) tm) :: (pre ++ post)) l) Q) : SL P ops rest (St n W σ l) Q := by
  subst hσ; exact fun a w h => k a w h.rowsFacts
omit [DecidableEq α] in
theorem SE.rowsFacts {ex : Exit} (pre : Blks) {post : Blks} (hσ : σ = pre ++ .pc (rowsPc T s f tm) :: post) (k : SE ex (St n W (facts (facM (fun x => .sl s (f x)) tm) :: (pre ++ post)) l) Q) : SE ex (St n W σ l) Q := by
  subst hσ; exact fun a w h => k a w h.rowsFacts
theorem nod_four {x y z v : It} {β : Blks} (h : (mids (x :: y :: z :: v :: β)).Nodup) {k : Nat} (hk : k ∈ x.mids) : k ∉ y.mids ++ v.mids := by
  rw [mids_cons, List.nodup_append] at h
  intro hm
  refine h.2.2 k hk k ?_ rfl
  rw [mids_cons, mids_cons, mids_cons]
  rcases List.mem_append.1 hm with hm | hm
  · exact List.mem_append_left _ hm
  · exact List.mem_append_right _ (List.mem_append_right _ (List.mem_append_left _ hm))
theorem mem_four {x y z v : It} {β : Blks} {k : Nat} (h : k ∈ y.mids ++ v.mids) : k ∈ mids (x :: y :: z :: v :: β) := by
  rw [mids_cons, mids_cons, mids_cons, mids_cons]
  rcases List.mem_append.1 h with h | h
  · exact List.mem_append_right _ (List.mem_append_left _ h)
  · exact List.mem_append_right _ (List.mem_append_right _ (List.mem_append_right _ (List.mem_append_left _ h)))
omit [DecidableEq α] in
/-- The pieces lie apart. -/
theorem SC.nod {c : Code} (k : (mids σ).Nodup → SC P c (St n W σ l) Q) : SC P c (St n W σ l) Q := fun a w h => k h.mem.nodup a w h
end
end Go.Proofs.Ytiaeochlepkleaa.A
/-
  Agree: deeds of a number.
-/
namespace Go.Proofs.Ytiaeochlepkleaa.A
open Go.RowKit

theorem zero_sl (w : World) : (zeroValue 39).run Try.prog w = .ok (.slice none 0 0) w := by kernel_rfl
theorem i64_in {a : Int} (h : i64ok a) : intOk a := h
section
variable {xs : List Dd} {p : Dd → Bool} {k : Nat} {caps : List Abs} {σ : Blks} {l : List Dd} {x : Dd} {b : Nat}
theorem dindex_s (hb : goesIn Try.prog k = true) (hr : RdAll σ) (h : ∀ x ∈ xs, Spec Try.prog k (.agg x.abs :: caps) σ (fun _ : Unit => []) (fun _ => boo (p x))) : Spec Try.prog 44 [ddsA xs, .fn (.func k) [] caps] σ (fun _ : {q : Int // (q = -1 ∧ ∀ x ∈ xs, p x = false) ∨ ∃ z, ∃ h : z < xs.length, p xs[z] = true ∧ (∀ j (hj : j < xs.length), j < z → p xs[j] = false) ∧ q = (z : Nat)} => []) (fun z => int z.1) := by
 refine spec_of Try.func44 rfl Try.ntmps44 rfl fun G w => ?_
 refine SC.seq (SC.region ?_)
 refine SL.val (Val.assign rfl) rfl rfl ?_
 refine SL.nil (SE.seq ?_)
 refine SC.seq ?_
 refine SC.seq (SC.region ?_)
 refine SL.val (Val.move rfl) rfl rfl ?_
 first
  | refine SL.val (Val.lenSl rfl Try.underlying39 (List.length_map _)) rfl rfl ?_
  | refine SL.val (Val.lenOwn rfl (by repeat first|assumption|exact m0_|apply m1_) Try.underlying39 (List.length_map _)) rfl rfl ?_
  | refine SL.val (Val.lenNil rfl Try.underlying39) rfl rfl ?_
 refine SL.val (Val.move rfl) rfl rfl ?_
 refine SL.nil (SE.seq ?_)
 refine SC.block ?_
 refine SC.rowLe (i := 6) rfl fun hrow => ?_
 rw [List.length_map] at hrow
 unfold maxLen at hrow
 refine SC.loop (ι := Nat) (fun z => σ) (fun z => [(0, ddsA xs), (1, .fn (.func k) [] caps), (6, ddsA xs), (7, int (xs.length : Nat)), (8, int (z : Nat))]) (fun z => z ≤ xs.length ∧ ∀ j (hj : j < xs.length), j < z → p xs[j] = false) (fun z => xs.length - z) (0) (⟨Nat.zero_le _, fun j hj h => by omega⟩) (by exact ⟨rfl, rfl, rfl, rfl, rfl, trivial⟩) (by repeat first|exact s0_ _|exact s1_ _|apply s2_|apply s3_) ?_
 intro z hz
 refine SC.seq (SC.region ?_)
 refine SL.val (Val.ltI rfl rfl) rfl rfl ?_
 refine SL.nil (SE.seq ?_)
 refine SC.seq ?_
 refine SC.condP rfl ?_ ?_
 rotate_left
 ·intro hc9
  refine SC.exit ?_
  refine SE.then_ nofun ?_
  refine SE.then_ nofun ?_
  refine SE.exit ?_
  refine SE.seq ?_
  refine SC.seq (SC.region ?_)
  refine SL.val (Val.assign rfl) rfl rfl ?_
  refine SL.nil (SE.seq ?_)
  refine SC.ret ?_
  refine SE.fin (rs := [.tmp 4]) rfl (RV.tmp rfl RV.nil) (⟨-1, .inl ⟨rfl, fun x hx => by obtain ⟨j, hj, rfl⟩ := List.getElem_of_mem hx; exact hz.2 j hj (by omega)⟩⟩) (by repeat first|exact s0_ _|exact s1_ _|apply s2_|apply s3_) (by simp [It.rids]) ?_
  exact rfl
 intro hc9
 have hlt : z < xs.length := by omega
 refine SC.skip ?_
 refine SE.seq ?_
 refine SC.seq ?_
 refine SC.block ?_
 refine SC.seq (SC.region ?_)
 refine SL.val (Val.move rfl) rfl rfl ?_
 refine SL.val (Val.assign rfl) rfl rfl ?_
 refine SL.nil (SE.seq ?_)
 refine SC.seq (SC.region ?_)
 iterate 3 refine SL.val (Val.move rfl) rfl rfl ?_
 refine SL.val (Val.indexSl tabOk Try.underlying39 rfl rfl rfl rfl (at_map (by omega)) rfl rfl) rfl rfl ?_
 refine SL.val (Val.loadAR tabOk rfl rfl rfl (by rfl)) rfl rfl ?_
 refine SL.callv (h _ (List.getElem_mem hlt)) rfl Casts.refl hb rfl rfl rfl ?_
 refine After.pure (RdAll.reads hr (fun x hx => by repeat (first | exact hx | apply List.mem_cons_of_mem))) (fun _ => rfl) ?_
 intro _
 refine SL.nil (SE.seq ?_)
 refine SC.cond rfl ?_ ?_
 ·intro hc16
  refine SC.seq (SC.region ?_)
  refine SL.val (Val.move rfl) rfl rfl ?_
  refine SL.val (Val.assign rfl) rfl rfl ?_
  refine SL.nil (SE.seq ?_)
  refine SC.ret ?_
  refine SE.ret ?_
  refine SE.then_ nofun ?_
  refine SE.then_ nofun ?_
  refine SE.ret ?_
  refine SE.then_ nofun ?_
  refine SE.fin (rs := [.tmp 4]) rfl (RV.tmp rfl RV.nil) (⟨(z : Nat), .inr ⟨z, hlt, by simpa using hc16, hz.2, rfl⟩⟩) (by repeat first|exact s0_ _|exact s1_ _|apply s2_|apply s3_) (by simp [It.rids]) ?_
  exact rfl
 intro hc16
 refine SC.skip ?_
 refine SE.inBlock ?_
 refine SE.seq ?_
 refine SC.region ?_
 first
  | refine SL.val (Val.addI rfl rfl (by simp only [InR, lo, hi]; omega)) rfl rfl ?_
  | refine SL.val (Val.addW rfl rfl) rfl rfl ?_
 refine SL.val (Val.move rfl) rfl rfl ?_
 refine SL.nil ?_
 refine SE.round (z + 1) (by first | omega | (dsimp only; omega)) (⟨by omega, fun j hj hjz => by
  rcases Nat.lt_or_ge j z with h1 | h1
  ·exact hz.2 j hj h1
  obtain rfl : j = z := (by omega)
  simpa using hc16⟩) (by exact ⟨rfl, rfl, rfl, rfl, rfl, trivial⟩) (by repeat first|exact s0_ _|exact s1_ _|apply s2_|apply s3_)
theorem dcontains_s (hb : goesIn Try.prog k = true) (hr : RdAll σ) (h : ∀ x ∈ xs, Spec Try.prog k (.agg x.abs :: caps) σ (fun _ : Unit => []) (fun _ => boo (p x))) : Spec Try.prog 41 [ddsA xs, .fn (.func k) [] caps] σ (fun _ : Unit => []) (fun _ => boo (xs.any p)) := by
 refine spec_of Try.func41 rfl Try.ntmps41 rfl fun G w => ?_
 refine SC.seq (SC.region ?_)
 refine SL.val (Val.assign rfl) rfl rfl ?_
 refine SL.nil (SE.seq ?_)
 refine SC.seq (SC.region ?_)
 iterate 2 refine SL.val (Val.move rfl) rfl rfl ?_
 refine SL.call (dindex_s hb hr h) Casts.refl (by kernel_rfl) rfl rfl rfl ?_
 refine After.pure (RdAll.reads hr (fun x hx => by repeat (first | exact hx | apply List.mem_cons_of_mem))) (fun _ => rfl) ?_
 intro q0
 refine SL.val (Val.geI rfl rfl) rfl rfl ?_
 refine SL.val (Val.assign rfl) rfl rfl ?_
 refine SL.nil (SE.seq ?_)
 refine SC.ret ?_
 refine SE.fin (rs := [.tmp 4]) rfl (RV.tmp rfl RV.nil) (()) (by repeat first|exact s0_ _|exact s1_ _|apply s2_|apply s3_) (by simp [It.rids]) ?_
 rcases q0.2 with ⟨h1, h2⟩ | ⟨j, hj, h1, _, h3⟩
 ·refine congrArg (fun b => Abs.v (Value.bool b)) ?_
  rw [h1, List.any_eq_false.2 (fun x hx => by rw [h2 x hx]; decide)]
  rfl
 ·refine congrArg (fun b => Abs.v (Value.bool b)) ?_
  rw [h3, List.any_eq_true.2 ⟨_, List.getElem_mem hj, h1⟩]
  exact decide_eq_true (by omega)
theorem same1_s {y : Dd} (hx : ∀ e ∈ x.batch, EnIns e) (hy : ∀ e ∈ y.batch, EnIns e) (hl : x.batch.length ≤ 1000000) (h0 : l.head? = some y) : Spec Try.prog 42 [.agg x.abs, ptr b] [.rd b 39 [ddsA l]] (fun _ : Unit => []) (fun _ => boo (decide (¬ x.batch = y.batch))) := by
 refine spec_of Try.func42 rfl Try.ntmps42 rfl fun G w => ?_
 refine SC.seq (SC.region ?_)
 refine SL.eff (Eff.boxA (cs := x.abs) rfl) rfl rfl ?_
 rintro _ _ ⟨b2, rfl, rfl⟩
 refine SL.val (Val.assign rfl) rfl rfl ?_
 refine SL.nil (SE.seq ?_)
 refine SC.seq ?_
 refine SC.draw [] (.q 0 (.q 1 (.q 2 (.q 3 (.q 4 (.q 5 (.e 6 (.q 7 (.q 8 .nil))))))))) (by kernel_rfl) (by kernel_rfl) ?_
 refine SX.val rfl (Val.fieldAddr tabOk rfl rfl rfl rfl rfl) (by simp) rfl rfl ?_
 refine SX.hx (by first|(simp[mids,It.mids,ownPc];done)|(intro k hk;simp[mids,It.mids,ownPc] at hk ⊢;grind)) fun hx9 => ?_
 refine SX.val rfl (Val.to (C := entsR x.batch) (Val.load1 tabOk rfl rfl (by repeat first|assumption|exact o0_|exact o1_|apply o2_) List.not_mem_nil (by rfl)) rfl) hx9 rfl rfl ?_
 refine SX.val rfl (Val.to (C := ddsA l) (Val.load1 tabOk rfl rfl (by repeat first|assumption|exact o0_|exact o1_|apply o2_) List.not_mem_nil (by rfl)) rfl) hx9 rfl rfl ?_
 refine SX.val rfl (Val.indexSl (q := 0) (cs := y.abs) tabOk Try.underlying39 rfl rfl rfl rfl (by rw [List.getElem?_map, ← List.head?_eq_getElem?, h0]; rfl) rfl rfl) hx9 rfl rfl ?_
 first
  | refine SX.val rfl (Val.fieldAddr tabOk rfl rfl rfl rfl rfl) (by simp) rfl rfl ?_
  | refine SX.val rfl (Val.fieldAddrR tabOk rfl rfl rfl rfl rfl) (by simp) rfl rfl ?_
 refine SX.val rfl (Val.to (C := entsR y.batch) (Val.load1R tabOk rfl rfl rfl) rfl) hx9 rfl rfl ?_
 refine SX.call rfl (bsame_s (es := x.batch) (fs := y.batch) hl (fun e he => (hx e he).lits) (fun e he => (hy e he).lits)) (by simp [mids, It.mids]) Casts.refl (by kernel_rfl) rfl rfl rfl ?_
 refine ap_ ?_
 intro _
 refine SX.val rfl (Val.notP rfl) (by simp) rfl rfl ?_
 refine SX.val rfl (Val.assign rfl) (by simp) rfl rfl ?_
 refine SX.nil (SE.seq ?_)
 refine SC.ret ?_
 refine SE.fin (rs := [.tmp 3]) rfl (RV.tmp rfl RV.nil) (()) (by repeat first|exact s0_ _|exact s1_ _|apply s2_|apply s3_) (by simp [It.rids]) ?_
 exact rfl
theorem same1_h (hl : ∀ d ∈ l, DdIns d ∧ d.batch.length ≤ 1000000) (hx : x ∈ l) : Spec Try.prog 42 (.agg x.abs :: [ptr b]) [.rd b 39 [ddsA l]] (fun _ : Unit => []) (fun _ => boo (decide (∀ y, l.head? = some y → ¬ x.batch = y.batch))) := by
  obtain ⟨y, hy⟩ : ∃ y, l.head? = some y := by
    cases l with
    | nil => cases hx
    | cons y l => exact ⟨y, rfl⟩
  have h9 := same1_s (x := x) (y := y) (l := l) (b := b) (hl x hx).1.batch (hl y (List.mem_of_mem_head? hy)).1.batch (hl x hx).2 hy
  rw [show decide (∀ y, l.head? = some y → ¬ x.batch = y.batch) = decide (¬ x.batch = y.batch) from decide_eq_decide.2 ⟨fun h => h y hy, fun h z hz => by rw [hy] at hz; cases hz; exact h⟩]
  exact h9
theorem one_any : (!l.any fun x => decide (∀ y, l.head? = some y → ¬ x.batch = y.batch)) = decide (oneB l) := by
  rw [Bool.eq_iff_iff]
  simp only [Bool.not_eq_true', List.any_eq_false, decide_eq_true_eq]
  unfold oneB
  constructor
  · intro h x hx y hy
    refine Classical.byContradiction fun h2 => h x hx fun z hz => ?_
    rw [hy] at hz
    cases hz
    exact h2
  · intro h x hx h2
    cases hh : l.head? with
    | none =>
      rw [List.head?_eq_none_iff] at hh
      rw [hh] at hx
      cases hx
    | some y => exact h2 y hh (h x hx y hh)
theorem same_s (hl : ∀ d ∈ l, DdIns d ∧ d.batch.length ≤ 1000000) : Spec Try.prog 39 [ddsA l] [] (fun _ : Unit => []) (fun _ => boo (decide (oneB l))) := by
 refine spec_of Try.func39 rfl Try.ntmps39 rfl fun G w => ?_
 refine SC.seq (SC.region ?_)
 refine SL.eff (Eff.box1 rfl rfl) rfl rfl ?_
 rintro _ _ ⟨b1, rfl, rfl⟩
 refine SL.val (Val.assign rfl) rfl rfl ?_
 refine SL.nil (SE.seq ?_)
 refine SC.seq (SC.region ?_)
 refine SL.val (Val.to (C := ddsA l) (Val.load1 tabOk rfl rfl (by repeat first|assumption|exact o0_|exact o1_|apply o2_) List.not_mem_nil (by rfl)) rfl) rfl rfl ?_
 refine SL.val (Val.makeFunc rfl rfl) rfl rfl ?_
 refine SL.call (dcontains_s (p := fun x => decide (∀ y, l.head? = some y → ¬ x.batch = y.batch)) (k := 42) (caps := [ptr b1]) (σ := [.rd b1 39 [ddsA l]]) (by kernel_rfl) (by intro x hx; exact .inl ⟨_, _, _, List.mem_singleton.1 hx⟩) (fun x hx => same1_h hl hx)) Casts.refl (by kernel_rfl) rfl rfl rfl ?_
 refine ap_ ?_
 intro _
 refine SL.val (Val.notB rfl) rfl rfl ?_
 refine SL.val (Val.assign rfl) rfl rfl ?_
 refine SL.nil (SE.seq ?_)
 refine SC.ret ?_
 refine SE.fin (rs := [.tmp 2]) rfl (RV.tmp rfl RV.nil) (()) (by repeat first|exact s0_ _|exact s1_ _|apply s2_|apply s3_) (by simp [It.rids]) ?_
 rw [← one_any]
 rfl
end
end Go.Proofs.Ytiaeochlepkleaa.A
/-
  Agree: the deeds of each number.
-/
namespace Go.Proofs.Ytiaeochlepkleaa.A
open Go.RowKit

section
variable {l : List (List Dd)}
set_option maxHeartbeats 1000000 in
theorem numbers_s (hi9 : ∀ d ∈ l.flatten, DdIns d) (hn : l.flatten.length ≤ 1000) : Spec Try.prog 38 [ddssA l] [] (fun z : {z : Nat × List (Int × (Value × List Dd)) // Num l.flatten z.2} => [facts (facM ddsA z.1.2), .pc (mapPc z.1.1 intK id intOk (rawM z.1.2))]) (fun z => mapV z.1.1) := by
 refine spec_of Try.func38 rfl Try.ntmps38 rfl fun G w => ?_
 refine SC.seq (SC.region ?_)
 refine SL.val (Val.assign rfl) rfl rfl ?_
 refine SL.nil (SE.seq ?_)
 refine SC.seq (SC.region ?_)
 refine SL.eff (Eff.makeMap intK id intOk (fun ac w => by simp [execOp, Instr.makeMap, newObj, Sem.run, Sem.run_bind, Result.andThen])) rfl rfl ?_
 rintro _ _ ⟨m8, rfl, rfl⟩
 refine SL.val (Val.assign rfl) rfl rfl ?_
 refine SL.nil (SE.seq ?_)
 refine SC.seq ?_
 refine SC.seq (SC.region ?_)
 refine SL.val (Val.move rfl) rfl rfl ?_
 first
  | refine SL.val (Val.lenSl rfl Try.underlying63 (List.length_map _)) rfl rfl ?_
  | refine SL.val (Val.lenOwn rfl (by repeat first|assumption|exact m0_|apply m1_) Try.underlying63 (List.length_map _)) rfl rfl ?_
  | refine SL.val (Val.lenNil rfl Try.underlying63) rfl rfl ?_
 refine SL.val (Val.move rfl) rfl rfl ?_
 refine SL.nil (SE.seq ?_)
 refine SC.block ?_
 refine SC.rowLe (i := 9) rfl fun hrow => ?_
 rw [List.length_map] at hrow
 unfold maxLen at hrow
 refine SC.re [] (Re.rows0 (α := Int) (T := 37) (s := 3) (f := fun ds : List Dd => ds.map Dd.abs)) rfl ?_
 refine SC.loop (ι := Nat × List (Int × (Value × List Dd))) (fun z => [.pc (rowsPc 37 3 (fun ds : List Dd => ds.map Dd.abs) z.2), .pc (mapPc m8 intK id intOk (rawM z.2))]) (fun z => [(3, mapV m8), (9, ddssA l), (10, int (l.length : Nat)), (11, int (z.1 : Nat))]) (fun z => z.1 ≤ l.length ∧ Num (l.take z.1).flatten z.2) (fun z => l.length - z.1) (0, []) (⟨Nat.zero_le _, Num.nil⟩) (by exact ⟨rfl, rfl, rfl, rfl, trivial⟩) (by repeat first|exact s0_ _|exact s1_ _|apply s2_|apply s3_) ?_
 intro z hz
 refine SC.seq (SC.region ?_)
 refine SL.val (Val.ltI rfl rfl) rfl rfl ?_
 refine SL.nil (SE.seq ?_)
 refine SC.seq ?_
 refine SC.condP rfl ?_ ?_
 rotate_left
 ·intro hc12
  have htk : l.take z.1 = l := List.take_of_length_le (by omega)
  have hzn := hz.2
  rw [htk] at hzn
  refine SC.exit ?_
  refine SE.then_ nofun ?_
  refine SE.then_ nofun ?_
  refine SE.exit ?_
  refine SE.seq ?_
  refine SC.seq (SC.region ?_)
  refine SL.val (Val.move rfl) rfl rfl ?_
  refine SL.val (Val.assign rfl) rfl rfl ?_
  refine SL.nil (SE.seq ?_)
  refine SC.ret ?_
  refine SE.rowsFacts [] rfl ?_
  refine SE.fin (rs := [.tmp 2]) rfl (RV.tmp rfl RV.nil) (⟨(m8, z.2), hzn⟩) (by repeat first|exact s0_ _|exact s1_ _|apply s2_|apply s3_) (by simp [It.rids]) ?_
  exact rfl
 intro hc12
 have hzl : z.1 < l.length := by omega
 refine SC.skip ?_
 refine SE.seq ?_
 refine SC.seq ?_
 refine SC.block ?_
 refine SC.seq (SC.region ?_)
 refine SL.val (Val.indexSl tabOk Try.underlying63 rfl rfl rfl rfl (at_map (by omega)) rfl rfl) rfl rfl ?_
 refine SL.val (Val.load1R tabOk rfl rfl rfl) rfl rfl ?_
 refine SL.val (Val.assign rfl) rfl rfl ?_
 refine SL.nil (SE.seq ?_)
 refine SC.seq (SC.region ?_)
 refine SL.val (Val.move rfl) rfl rfl ?_
 first
  | refine SL.val (Val.lenSl rfl Try.underlying39 (List.length_map _)) rfl rfl ?_
  | refine SL.val (Val.lenOwn rfl (by repeat first|assumption|exact m0_|apply m1_) Try.underlying39 (List.length_map _)) rfl rfl ?_
  | refine SL.val (Val.lenNil rfl Try.underlying39) rfl rfl ?_
 refine SL.val (Val.move rfl) rfl rfl ?_
 refine SL.nil (SE.seq ?_)
 refine SC.block ?_
 refine SC.rowLe (i := 15) rfl fun hro2 => ?_
 rw [List.length_map] at hro2
 unfold maxLen at hro2
 refine SC.loop (ι := Nat × List (Int × (Value × List Dd))) (fun y => [.pc (rowsPc 37 3 (fun ds : List Dd => ds.map Dd.abs) y.2), .pc (mapPc m8 intK id intOk (rawM y.2))]) (fun y => [(3, mapV m8), (9, ddssA l), (10, int (l.length : Nat)), (11, int (z.1 : Nat)), (15, ddsA (l[z.1]'hzl)), (16, int ((l[z.1]'hzl).length : Nat)), (17, int (y.1 : Nat))]) (fun y => y.1 ≤ (l[z.1]'hzl).length ∧ Num ((l.take z.1).flatten ++ (l[z.1]'hzl).take y.1) y.2) (fun y => (l[z.1]'hzl).length - y.1) (0, z.2) (⟨Nat.zero_le _, by rw [List.take_zero, List.append_nil]; exact hz.2⟩) (by exact ⟨rfl, rfl, rfl, rfl, rfl, rfl, rfl, trivial⟩) (by repeat first|exact s0_ _|exact s1_ _|apply s2_|apply s3_) ?_
 intro y hy
 refine SC.seq (SC.region ?_)
 refine SL.val (Val.ltI rfl rfl) rfl rfl ?_
 refine SL.nil (SE.seq ?_)
 refine SC.seq ?_
 refine SC.condP rfl ?_ ?_
 rotate_left
 ·intro hc18
  refine SC.exit ?_
  refine SE.then_ nofun ?_
  refine SE.then_ nofun ?_
  refine SE.exit ?_
  refine SE.inBlock ?_
  refine SE.seq ?_
  refine SC.region ?_
  first
   | refine SL.val (Val.addI rfl rfl (by simp only [InR, lo, hi]; omega)) rfl rfl ?_
   | refine SL.val (Val.addW rfl rfl) rfl rfl ?_
  refine SL.val (Val.move rfl) rfl rfl ?_
  refine SL.nil ?_
  refine SE.round (z.1 + 1, y.2) (by first | omega | (dsimp only; omega)) (⟨by dsimp only; omega, by have h9 := hy.2; rw [show (l[z.1]'hzl).take y.1 = (l[z.1]'hzl) from List.take_of_length_le (by omega), ← flat_succ hzl] at h9; exact h9⟩) (by exact ⟨rfl, rfl, rfl, rfl, trivial⟩) (by repeat first|exact s0_ _|exact s1_ _|apply s2_|apply s3_)
 intro hc18
 have hyl : y.1 < (l[z.1]'hzl).length := by omega
 have hdi := hi9 _ (List.mem_flatten.2 ⟨_, List.getElem_mem hzl, List.getElem_mem hyl⟩)
 have hyg := hy.2.get ((l[z.1]'hzl)[y.1]'hyl).seq
 refine SC.skip ?_
 refine SE.seq ?_
 refine SC.seq ?_
 refine SC.block ?_
 refine SC.seq (SC.region ?_)
 refine SL.val (Val.indexSl tabOk Try.underlying39 rfl rfl rfl rfl (at_map (by omega)) rfl rfl) rfl rfl ?_
 refine SL.val (Val.loadAR tabOk rfl rfl rfl (by rfl)) rfl rfl ?_
 refine SL.eff (Eff.alloc tabOk rfl) rfl rfl ?_
 rintro _ _ ⟨b7, rfl, rfl⟩
 refine SL.eff (Eff.store (L' := ((l[z.1]'hzl)[y.1]'hyl).abs) tabOk rfl rfl rfl (by repeat first|assumption|exact Upd.here|apply Upd.there) rfl (lb_ (by rfl)) rfl (by exact putL_whole rfl)) rfl rfl ?_
 rintro _ _ ⟨rfl, rfl⟩
 refine SL.nil (SE.seq ?_)
 refine SC.seq (SC.region ?_)
 refine SL.val (Val.fieldAddr tabOk rfl rfl rfl rfl rfl) rfl rfl ?_
 refine SL.val (Val.to (C := boo ((l[z.1]'hzl)[y.1]'hyl).adopted) (Val.load1 tabOk rfl rfl (by repeat first|assumption|exact o0_|exact o1_|apply o2_) List.not_mem_nil (by rfl)) rfl) rfl rfl ?_
 refine SL.val (Val.notB rfl) rfl rfl ?_
 refine SL.nil (SE.seq ?_)
 refine SC.cond rfl ?_ ?_
 rotate_left
 ·intro hc23
  refine SC.skip ?_
  refine SE.inBlock ?_
  refine SE.seq ?_
  refine SC.region ?_
  first
   | refine SL.val (Val.addI rfl rfl (by simp only [InR, lo, hi]; omega)) rfl rfl ?_
   | refine SL.val (Val.addW rfl rfl) rfl rfl ?_
  refine SL.val (Val.move rfl) rfl rfl ?_
  refine SL.nil ?_
  refine SE.round (y.1 + 1, y.2) (by first | omega | (dsimp only; omega)) (⟨by dsimp only; omega, by rw [List.take_succ_eq_append_getElem hyl, ← List.append_assoc]; exact hy.2.skip (by simpa using hc23)⟩) (by exact ⟨rfl, rfl, rfl, rfl, rfl, rfl, rfl, trivial⟩) (by repeat first|exact s0_ _|exact s1_ _|apply s2_|apply s3_)
 intro hc23
 refine SC.re [_] (Re.rowOut (a := ((l[z.1]'hzl)[y.1]'hyl).seq) (z0 := []) hy.2.nd rfl) rfl ?_
 refine SC.nod fun hnod => ?_
 have hb7 : b7 ∉ (rowV y.2 ((l[z.1]'hzl)[y.1]'hyl).seq).ownBlock.toList ++ [m8] := nod_four hnod (List.mem_singleton.2 rfl)
 have hlr : (rowD y.2 ((l[z.1]'hzl)[y.1]'hyl).seq []).length ≤ 1000 := by
  show (((aget y.2 ((l[z.1]'hzl)[y.1]'hyl).seq).map (·.2)).getD []).length ≤ 1000
  rw [hyg]
  exact Nat.le_trans (row_le _ _) (Nat.le_trans (flat_part hzl y.1) hn)
 refine SC.draw ((rowV y.2 ((l[z.1]'hzl)[y.1]'hyl).seq).ownBlock.toList ++ [m8]) (.q 0 (.q 1 (.q 2 (.q 3 (.q 4 (.q 5 (.q 7 (.two 6 8 (.e 8 (.e 9 (.e 10 .nil))) (.e 6 (.e 9 (.e 10 .nil))))))))))) (by kernel_rfl) (by kernel_rfl) ?_
 refine SX.hx (fun k hk => mem_four hk) fun hx9 => ?_
 refine SX.val rfl (Val.move rfl) hx9 rfl rfl ?_
 refine SX.val rfl (Val.fieldAddr tabOk rfl rfl rfl rfl rfl) hx9 rfl rfl ?_
 refine SX.val rfl (Val.to (C := int ((l[z.1]'hzl)[y.1]'hyl).seq) (Val.load1 tabOk rfl rfl (by repeat first|assumption|exact o0_|exact o1_|apply o2_) hb7 (by rfl)) rfl) hx9 rfl rfl ?_
 refine SX.val rfl (Val.move rfl) hx9 rfl rfl ?_
 refine SX.val rfl (Val.fieldAddr tabOk rfl rfl rfl rfl rfl) hx9 rfl rfl ?_
 refine SX.val rfl (Val.to (C := int ((l[z.1]'hzl)[y.1]'hyl).seq) (Val.load1 tabOk rfl rfl (by repeat first|assumption|exact o0_|exact o1_|apply o2_) hb7 (by rfl)) rfl) hx9 rfl rfl ?_
 refine SX.val rfl (Val.to (C := .agg ((l[z.1]'hzl)[y.1]'hyl).abs) (Val.loadP tabOk rfl rfl rfl (by repeat first|assumption|exact o0_|exact o1_|apply o2_) hb7 (lb_ (by rfl))) rfl) hx9 rfl rfl ?_
 refine SX.two ?_ ?_
 ·skip
  refine SX.valE rfl (Val.mapGet (a := ((l[z.1]'hzl)[y.1]'hyl).seq) (zv := .slice none 0 0) (C := .v (rowV y.2 ((l[z.1]'hzl)[y.1]'hyl).seq)) (int_fit Try.underlying2) Try.underlying73 zero_sl rfl (by repeat first|assumption|exact o0_|exact o1_|apply o2_) List.not_mem_nil rfl is_v (i64_in hdi.seq) (by rw [rowV_raw]; exact is_v)) rfl rfl ?_
  refine SX.eff rfl (Eff.buildSl tabOk Try.underlying39 rfl rfl rfl rfl rfl rfl rfl) (by simp) rfl rfl ?_
  rintro _ _ ⟨rfl, rfl⟩
  refine SX.eff rfl (Eff.appendE (zs := (rowD y.2 ((l[z.1]'hzl)[y.1]'hyl).seq [] ++ [((l[z.1]'hzl)[y.1]'hyl)]).map Dd.abs) tabOk [_] (by simp only [List.map_append]; rfl) Try.underlying39 rfl rfl rfl rfl rfl rfl (by intro c hc; rw [List.mem_singleton] at hc; subst hc; rfl) (by unfold maxLen; simp only [List.length_map, List.length_append, List.length_cons, List.length_nil]; omega) (by rw [show Try.prog.bytesOf 37 = 40 by kernel_rfl]; simp only [List.length_map, List.length_append, List.length_cons, List.length_nil]; omega)) (fun k hk => List.mem_append_left _ hk) rfl rfl ?_
  rintro _ _ ⟨r33, rfl, rfl⟩
  refine SX.eff rfl (Eff.mapPut (a := ((l[z.1]'hzl)[y.1]'hyl).seq) (v := r33) (m' := rawM (aput y.2 ((l[z.1]'hzl)[y.1]'hyl).seq (r33, rowD y.2 ((l[z.1]'hzl)[y.1]'hyl).seq [] ++ [((l[z.1]'hzl)[y.1]'hyl)]))) (int_fit Try.underlying2) Try.underlying73 rfl (by repeat first|assumption|exact Upd.here|apply Upd.there) rfl is_v (i64_in hdi.seq) rfl is_v (rawM_put _ _ _ _).symm) (fun k hk => List.mem_append_right _ hk) rfl rfl ?_
  rintro _ _ ⟨rfl, rfl⟩
  refine SX.nil ?_
  refine SE.inBlock ?_
  refine SE.seq ?_
  refine SC.region ?_
  first
   | refine SL.val (Val.addI rfl rfl (by simp only [InR, lo, hi]; omega)) rfl rfl ?_
   | refine SL.val (Val.addW rfl rfl) rfl rfl ?_
  refine SL.val (Val.move rfl) rfl rfl ?_
  refine SL.nil ?_
  refine SE.re [_] (Re.rowIn hy.2.nd) rfl ?_
  refine SE.round (y.1 + 1, aput y.2 ((l[z.1]'hzl)[y.1]'hyl).seq (r33, rowD y.2 ((l[z.1]'hzl)[y.1]'hyl).seq [] ++ [((l[z.1]'hzl)[y.1]'hyl)])) (by first | omega | (dsimp only; omega)) (⟨by dsimp only; omega, by rw [List.take_succ_eq_append_getElem hyl, ← List.append_assoc]; exact hy.2.put (by simpa using hc23) hdi.seq r33⟩) (by exact ⟨rfl, rfl, rfl, rfl, rfl, rfl, rfl, trivial⟩) (by repeat first|exact s0_ _|exact s1_ _|apply s2_|apply s3_)
 ·skip
  refine SX.eff rfl (Eff.buildSl tabOk Try.underlying39 rfl rfl rfl rfl rfl rfl rfl) (by simp) rfl rfl ?_
  rintro _ _ ⟨rfl, rfl⟩
  refine SX.valE rfl (Val.mapGet (a := ((l[z.1]'hzl)[y.1]'hyl).seq) (zv := .slice none 0 0) (C := .v (rowV y.2 ((l[z.1]'hzl)[y.1]'hyl).seq)) (int_fit Try.underlying2) Try.underlying73 zero_sl rfl (by repeat first|assumption|exact o0_|exact o1_|apply o2_) List.not_mem_nil rfl is_v (i64_in hdi.seq) (by rw [rowV_raw]; exact is_v)) rfl rfl ?_
  refine SX.eff rfl (Eff.appendE (zs := (rowD y.2 ((l[z.1]'hzl)[y.1]'hyl).seq [] ++ [((l[z.1]'hzl)[y.1]'hyl)]).map Dd.abs) tabOk [_] (by simp only [List.map_append]; rfl) Try.underlying39 rfl rfl rfl rfl rfl rfl (by intro c hc; rw [List.mem_singleton] at hc; subst hc; rfl) (by unfold maxLen; simp only [List.length_map, List.length_append, List.length_cons, List.length_nil]; omega) (by rw [show Try.prog.bytesOf 37 = 40 by kernel_rfl]; simp only [List.length_map, List.length_append, List.length_cons, List.length_nil]; omega)) (fun k hk => List.mem_append_left _ hk) rfl rfl ?_
  rintro _ _ ⟨r33, rfl, rfl⟩
  refine SX.eff rfl (Eff.mapPut (a := ((l[z.1]'hzl)[y.1]'hyl).seq) (v := r33) (m' := rawM (aput y.2 ((l[z.1]'hzl)[y.1]'hyl).seq (r33, rowD y.2 ((l[z.1]'hzl)[y.1]'hyl).seq [] ++ [((l[z.1]'hzl)[y.1]'hyl)]))) (int_fit Try.underlying2) Try.underlying73 rfl (by repeat first|assumption|exact Upd.here|apply Upd.there) rfl is_v (i64_in hdi.seq) rfl is_v (rawM_put _ _ _ _).symm) (fun k hk => List.mem_append_right _ hk) rfl rfl ?_
  rintro _ _ ⟨rfl, rfl⟩
  refine SX.nil ?_
  refine SE.inBlock ?_
  refine SE.seq ?_
  refine SC.region ?_
  first
   | refine SL.val (Val.addI rfl rfl (by simp only [InR, lo, hi]; omega)) rfl rfl ?_
   | refine SL.val (Val.addW rfl rfl) rfl rfl ?_
  refine SL.val (Val.move rfl) rfl rfl ?_
  refine SL.nil ?_
  refine SE.re [_] (Re.rowIn hy.2.nd) rfl ?_
  refine SE.round (y.1 + 1, aput y.2 ((l[z.1]'hzl)[y.1]'hyl).seq (r33, rowD y.2 ((l[z.1]'hzl)[y.1]'hyl).seq [] ++ [((l[z.1]'hzl)[y.1]'hyl)])) (by first | omega | (dsimp only; omega)) (⟨by dsimp only; omega, by rw [List.take_succ_eq_append_getElem hyl, ← List.append_assoc]; exact hy.2.put (by simpa using hc23) hdi.seq r33⟩) (by exact ⟨rfl, rfl, rfl, rfl, rfl, rfl, rfl, trivial⟩) (by repeat first|exact s0_ _|exact s1_ _|apply s2_|apply s3_)
end
end Go.Proofs.Ytiaeochlepkleaa.A
/-
  Ledgers: letters and outcomes put in where they belong.
-/
namespace Go.Proofs.Ytiaeochlepkleaa.A
open Go.RowKit

section
variable {x : Oc} {xs : List Oc} {p q : Nat} {k : Int} {v : Value}
end
section
variable {x : Oc} {xs : List Oc} {p q : Nat} {k : Int} {v : Value}
end
section
variable {x : Ltr} {xs : List Ltr} {p q : Nat} {k : ByteArray} {v : Value}
end
section
variable {x : Ltr} {xs : List Ltr} {p q : Nat} {k : ByteArray} {v : Value}
end
end Go.Proofs.Ytiaeochlepkleaa.A
/-
  The document's ledgers: the same, found.
-/
namespace Go.Proofs.Ytiaeochlepkleaa.A
open Go.RowKit

theorem boo_dec0 {p : Prop} [Decidable p] (h : ¬ p) : retA [boo false] = boo (decide p) := by rw [decide_eq_false h]; rfl
section
variable {l a b : Lg} {x : Ltr} {o : Oc} {k n : Int} {s : ByteArray} {c : Core} {e : Ent} {p : Nat} {es : List Ent}
end
end Go.Proofs.Ytiaeochlepkleaa.A
/-
  The document's ledgers: which may be.
-/
namespace Go.Proofs.Ytiaeochlepkleaa.A
open Go.RowKit

section
variable {l a b : Lg} {x : Ltr} {o : Oc} {k n : Int} {s : ByteArray} {c : Core} {e : Ent} {p : Nat} {es : List Ent} {ls : List Ltr}
end
end Go.Proofs.Ytiaeochlepkleaa.A
