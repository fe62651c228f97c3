/-
  Packed out of the texts: A5, Rd, A6, Oc, Idx, Names, Cores, ACor, EntD, A8, A10, A11, A12, Frm, Trm, A13, A22, Led, LetterRef, LedW, Rds, FrmS, LedS, Maps, A9, A18, A15, Sum, Doc, A14, A16, A19, A20, A24.
-/
import Derived.Test.YtiaeochlepkleaaW02
import Derived.Sort.Walk0
import Derived.Maps.Keyed
import Derived.Maps.OwnSet
import Derived.Lib.AppendZerosOnto
import Derived.Lib.Overlaps
/-
  The second engine: slices of rows, a call's begin and end, contracts of the first engine.
-/
set_option maxRecDepth 100000
set_option linter.unusedSimpArgs false
set_option linter.unusedVariables false
namespace Go.Proofs.Ytiaeochlepkleaa.A
open Go.RowKit

section
variable {K : List Nat} {w : World} {s : Nat}
theorem repss_drop {xs : List (List Abs)} {us : List Value} (h : repss K w s xs us) (q : Nat) (hq : q ≤ xs.length) : repss K w s (xs.drop q) (us.drop (q * s)) ∧ repss K w s (xs.take q) (us.take (q * s)) := by
  have h1 := h
  rw [← List.take_append_drop q xs] at h1
  obtain ⟨u1, u2, rfl, h2, h3⟩ := repss_split h1
  have hl : u1.length = q * s := by rw [repss_length h2, List.length_take, Nat.min_eq_left hq]
  rw [← hl]
  simp [h2, h3]
theorem IsRow.headN {A : Option Addr} {m c q : Nat} {us : List Value} (h : IsRow K w (.slice A m c) m us) (hq : q ≤ m) (k : Nat) (hk : q ≤ k) (hkc : k ≤ c) (hkA : A = none → k = 0) : IsRow K w (.slice A q k) q (us.take (q * s)) := by
  obtain ⟨A', c', hv, h1, h2, h3⟩ := h.shape
  simp at hv
  obtain ⟨rfl, rfl⟩ := hv
  refine ⟨⟨_, k, rfl, hk, by omega, hkA⟩, fun hn => ?_⟩
  obtain ⟨b, off, n', c2, hv, hb, hc⟩ := h.cells (by rintro rfl; simp at hn)
  simp at hv
  obtain ⟨rfl, rfl, rfl⟩ := hv
  refine ⟨b, off, q, k, rfl, hb, fun j u hu => ?_⟩
  rw [List.getElem?_take] at hu
  split at hu
  · exact hc j u hu
  · cases hu
end
section
variable {P : Program} {n : Nat} {W : Wd} {σ τ : Blks} {l : Slots} {X : List Nat} {x y z : Operand} {d : Option Nat} {ty t t' e : TypeId} {pos : String} {aft : Array Edge} {g : Option (Nat × Bool)} {v u : Value} {k k' : IntKind} {a b r : Int} {o : Oper} {A B : Abs} {tab : List (Nat × TI)} {xs ys : List (List Abs)} {s q : Nat} {fn : Func}
/-- 's[:q]' -/
theorem Val.sliceHi (hT : TabOk P tab) {i : TI} (hu : P.underlying t = some (.slice e)) (hi : ti tab e = some i) (hsz : Nat.beq s i.size = true) (hx : look l x = some (.sl s xs)) (hy : look l y = some (.v (.int k r))) (hr : r = (q : Nat)) (hq : q ≤ xs.length) :
    Val P n W σ l X ⟨d, .slice t x none (some y) none, ty, pos, aft, g⟩ (.sl s (xs.take q)) := fun a w hs _ => by
  subst hr
  have hsz := Nat.eq_of_beq_eq_true hsz
  subst hsz
  obtain ⟨us, h1, h2⟩ := hs.eval hx
  obtain ⟨A', c, hsh, h3, h4, h5⟩ := h1.shape
  rw [hsh] at h1
  have h6 := IsRow.headN (s := i.size) h1 hq c (by omega) (Nat.le_refl _) h5
  refine ⟨.slice A' q c, ⟨_, by rw [List.length_take, Nat.min_eq_left hq]; exact h6, (repss_drop h2 q hq).2⟩, fun w' _ => ?_⟩
  have h7 := (hT _ _ hi).sizeOf (w := w')
  have hA : (if (c : Int) = 0 then A' else A'.map (·.add (0 * i.size))) = A' := by
    cases A' <;> simp [Addr.add]
  have hqc : q ≤ c := by omega
  have hA2 : (if c = 0 then A' else A'.map fun x => x.add 0) = A' := by cases A' <;> simp [Addr.add]
  simp [execOp, Instr.sliceAt, Instr.slice, Instr.sliceBounds, Instr.sliceBound, asIntOf, hsh, hs.plain hy, run_underlying hu, Sem.run_bind, Result.andThen, h7, hqc, Addr.add]
  try (cases A' <;> simp)

/-! ### A call's begin and end -/
def args0 : List Abs → Nat → Slots
  | [], _ => []
  | v :: vs, i => (i, v) :: args0 vs (i + 1)
theorem slot_args0 : ∀ (vs : List Abs) (i t : Nat) (v : Abs), slot (args0 vs i) t = some v → i ≤ t ∧ vs[t - i]? = some v
  | [], i, t, v, h => by simp [args0, slot] at h
  | u :: vs, i, t, v, h => by
    unfold args0 slot at h
    by_cases hit : i = t
    · subst hit
      simp at h
      subst h
      simp
    · rw [beq_ne hit] at h
      obtain ⟨h1, h2⟩ := slot_args0 vs (i + 1) t v h
      refine ⟨by omega, ?_⟩
      rw [show t - i = (t - (i + 1)) + 1 by omega]
      simpa using h2
section
variable {ι : Type} {τ' : ι → Blks} {res : ι → Abs} {args : List Abs}
/-- What a contract's end says. -/
def Post (G : List Nat) (σ : Blks) (τ' : ι → Blks) (res : ι → Abs) (w : World) (e : Ending) (w' : World) : Prop :=
  ∃ z r, e = .returned r ∧ (∀ x ∈ τ' z, x.rids = []) ∧ Mem w (mids σ) G (τ' z) w' ∧ rep (mids (τ' z) ++ G) w' (res z) r
/-- A call is its body, from its arguments on. -/
theorem spec_of {f : FuncId} {c : Code} (hf : P.funcs[f]? = some fn) (hb : fn.body = some c) (hn : fn.ntmps = n) (hle : Nat.ble args.length n = true)
    (h : ∀ G w, SC P c (St n ⟨w, mids σ, G⟩ σ (args0 args 0)) (bodyPost P fn (Post G σ τ' res w))) : Spec P f args σ τ' res := fun G w vals hm hv => by
  have hlen := reps_length hv
  refine calls_of vals hf hb hn (by rw [hlen]; exact hle) (fun w1 => w1 = w) rfl fun a w1 hfr hw => ?_
  subst hw
  refine h G w1 a w1 ⟨hfr.defers, hfr.size, fun t x hx => ?_, hm⟩
  have h1 := (slot_args0 args 0 t x hx).2
  rw [Nat.sub_zero] at h1
  obtain ⟨u, h2, h3⟩ := reps_get hv h1
  refine ⟨u, hfr.at_ t u ?_, h3⟩
  have h4 := slot_full vals 0 t u h2
  rw [Nat.zero_add] at h4
  exact h4
/-- What the results are. -/
inductive RV (P : Program) (n : Nat) (W : Wd) (σ : Blks) (l : Slots) : List ResultVar → List Abs → Prop
  | nil : RV P n W σ l [] []
  | tmp {t : Nat} {v : Abs} {rs : List ResultVar} {vs : List Abs} (h : slot l t = some v) (k : RV P n W σ l rs vs) : RV P n W σ l (.tmp t :: rs) (v :: vs)
  | cell {p ty b : Nat} {v : Abs} {rs : List ResultVar} {vs : List Abs} (h : slot l p = some (.v (.pointer (some ⟨b, 0, none⟩)))) (hv : ∀ a w, St n W σ l a w → ∃ u, rep (mids σ ++ W.G) w v u ∧ (loadVar ty ⟨b, 0, none⟩).run P w = .ok u w) (k : RV P n W σ l rs vs) : RV P n W σ l (.cell p ty :: rs) (v :: vs)
theorem RV.run {rs : List ResultVar} {vs : List Abs} (h : RV P n W σ l rs vs) {a : Act} {w : World} (hs : St n W σ l a w) : ∃ us, reps (mids σ ++ W.G) w vs us ∧ (rs.mapM (resV a.tmps)).run P w = .ok us w := by
  induction h with
  | nil => exact ⟨[], rfl, rfl⟩
  | @tmp t v rs vs h _ ih =>
    obtain ⟨us, h3, h4⟩ := ih
    obtain ⟨u, h1, h2⟩ := hs.slots t v h
    have h5 : (resV a.tmps (.tmp t)).run P w = .ok u w := by simp [resV, h1]
    exact ⟨u :: us, ⟨u, us, rfl, h2, h3⟩, by simp only [List.mapM_cons, Sem.run_bind, h5, Result.andThen_ok, h4, Sem.run_pure]⟩
  | @cell q ty b v rs vs h hv _ ih =>
    obtain ⟨us, h3, h4⟩ := ih
    obtain ⟨u, h1, h2⟩ := hv a w hs
    obtain ⟨p, h6, h7⟩ := hs.slots q _ h
    have h8 : p = .pointer (some ⟨b, 0, none⟩) := h7
    subst h8
    have h5 : (resV a.tmps (.cell q ty)).run P w = .ok u w := by simp [resV, h6, asAddr]; exact h2
    exact ⟨u :: us, ⟨u, us, rfl, h1, h3⟩, by simp only [List.mapM_cons, Sem.run_bind, h5, Result.andThen_ok, h4, Sem.run_pure]⟩
theorem RV.cellA (hT : TabOk P tab) {i : TI} {b : Nat} {cs : List Abs} (ht : ti tab t = some i) (hk : (match i.k with | .one => false | _ => true) = true) (hb : isBlk σ b t' cs) (hl : cs.length = i.size) : ∀ a w, St n W σ l a w → ∃ u, rep (mids σ ++ W.G) w (.agg cs) u ∧ (loadVar t ⟨b, 0, none⟩).run P w = .ok u w := fun a w hs => by
  obtain ⟨us, h1, h2⟩ := hs.mem.blk hb
  exact ⟨_, ⟨us, rfl, h2⟩, run_loadAgg hT ht hk (by rw [reps_length h2]; exact hl) fun j u hu => by rw [Nat.zero_add, mem_cell h1]; exact hu⟩
def retA : List Abs → Abs
  | [v] => v
  | vs => .tup vs
theorem ret_rep {K : List Nat} {w : World} : ∀ {vs : List Abs} {us : List Value}, reps K w vs us → rep K w (retA vs) (retOf us)
  | [], us, h => by have : us = [] := h; subst this; exact ⟨[], rfl, rfl⟩
  | [v], us, ⟨u, us', h1, h2, h3⟩ => by have : us' = [] := h3; subst this h1; exact h2
  | v :: v2 :: vs, us, h => by
    obtain ⟨u, us', h1, h2, u2, us2, h3, h4, h5⟩ := id h
    subst h1 h3
    exact ⟨_, rfl, h⟩
theorem RV.results {rs : List ResultVar} {vs : List Abs} (hr : fn.results = rs.toArray) (h : RV P n W σ l rs vs) {a : Act} {w : World} (hs : St n W σ l a w) : ∃ us, reps (mids σ ++ W.G) w vs us ∧ (results fn a.tmps).run P w = .ok (retOf us) w := by
  obtain ⟨us, h1, h2⟩ := h.run hs
  refine ⟨us, h1, ?_⟩
  rw [results_eq, hr, Array.mapM_eq_mapM_toList, Sem.run_bind, Sem.run_map]
  dsimp only
  rw [h2]
  match us with
  | [] => rfl
  | [v] => rfl
  | v :: u :: vs => simp [retOf, Result.andThen]
theorem SE.retG {R : Ending → World → Prop} {rs : List ResultVar} {vs : List Abs} (hr : fn.results = rs.toArray) (h : RV P n W σ l rs vs) (k : ∀ a w us, St n W σ l a w → reps (mids σ ++ W.G) w vs us → R (.returned (retOf us)) w) : SE .ret (St n W σ l) (bodyPost P fn R) := fun a w hs => by
  obtain ⟨us, h1, h2⟩ := h.results hr hs
  exact ⟨hs.defers, _, h2, k a w us hs h1⟩
theorem post_of {G : List Nat} {w0 : World} {σ0 : Blks} {vs : List Abs} (z : ι) (hsub : (τ' z).Sublist σ) (hro : ∀ x ∈ τ' z, x.rids = []) (hres : retA vs = res z) {a : Act} {w : World} {us : List Value} (hs : St n ⟨w0, mids σ0, G⟩ σ l a w) (hv : reps (mids σ ++ G) w vs us) : Post G σ0 τ' res w0 (.returned (retOf us)) w := by
  obtain ⟨h1, h2⟩ := hs.mem.sub hsub
  exact ⟨z, _, rfl, hro, h1, hres ▸ ret_rep (reps_carry h2 _ _ hv)⟩
/-- The end of a contract: z tells which pieces and which value come of it. -/
theorem SE.fin {G : List Nat} {w0 : World} {σ0 : Blks} {rs : List ResultVar} {vs : List Abs} (hr : fn.results = rs.toArray) (h : RV P n ⟨w0, mids σ0, G⟩ σ l rs vs) (z : ι) (hsub : (τ' z).Sublist σ) (hro : ∀ x ∈ τ' z, x.rids = []) (hres : retA vs = res z) : SE .ret (St n ⟨w0, mids σ0, G⟩ σ l) (bodyPost P fn (Post G σ0 τ' res w0)) :=
  SE.retG hr h fun _ _ _ hs hv => post_of z hsub hro hres hs hv
/-- The same, the results said otherwise. -/
theorem SE.finC {G : List Nat} {w0 : World} {σ0 : Blks} {rs : List ResultVar} {vs vs2 : List Abs} (hr : fn.results = rs.toArray) (h : RV P n ⟨w0, mids σ0, G⟩ σ l rs vs) (hca : Casts vs vs2) (z : ι) (hsub : (τ' z).Sublist σ) (hro : ∀ x ∈ τ' z, x.rids = []) (hres : retA vs2 = res z) : SE .ret (St n ⟨w0, mids σ0, G⟩ σ l) (bodyPost P fn (Post G σ0 τ' res w0)) :=
  SE.retG hr h fun _ _ _ hs hv => post_of z hsub hro hres hs (hca _ _ _ hv)
theorem cast_agg {cs ds : List Abs} (h : Casts cs ds) : ∀ K w u, rep K w (.agg cs) u → rep K w (.agg ds) u := fun K w _ ⟨us, h1, h2⟩ => ⟨us, h1, h K w us h2⟩
theorem Casts.nils {s : Nat} {xs ys : List Abs} (k : Casts xs ys) : Casts (.v (.slice none 0 0) :: xs) (.sl s [] :: ys) := k.cons fun _ _ _ h => rep_nil h
end

/-! ### Contracts of the first engine -/
/-- The blocks of K in the world w, as they were, as a piece of the first engine. -/
def old2 (w : World) (K : List Nat) : Proofs.Ytiaeochlepkleaa.It := .pc
  { ids := (List.range w.heap.size).filter fun k => decide (k ∈ K)
    p := fun w' => w.heap.size ≤ w'.heap.size ∧ ∀ k, k < w.heap.size → k ∈ K → w'.heap[k]? = w.heap[k]?
    st := fun F w1 w2 hx hF h => ⟨Nat.le_trans h.1 hx.size, fun k hk hm => (hx.block k (Nat.lt_of_lt_of_le hk h.1) (hF k (by simp [hk, hm]))).trans (h.2 k hk hm)⟩
    lt := fun w' h k hk => by
      have : k < w.heap.size := by have := (List.mem_filter.1 hk).1; simpa using this
      exact Nat.lt_of_lt_of_le this h.1 }
theorem old2_ids {w : World} {K : List Nat} {k : Nat} : k ∈ (old2 w K).ids ↔ k < w.heap.size ∧ k ∈ K := by simp [old2, Proofs.Ytiaeochlepkleaa.It.ids]
theorem enter2 (w : World) (K : List Nat) : Proofs.Ytiaeochlepkleaa.Mem [(w, K)] [old2 w K] [] w := by
  refine ⟨fun s hs => ?_, fun x hx k hk s hs => ?_, ?_, fun x hx => ?_, by simp⟩
  · rw [List.mem_singleton] at hs; subst hs; exact Ext.refl w
  · rw [List.mem_singleton] at hs hx; subst hs hx; exact .inl (old2_ids.1 hk).2
  · simp only [List.flatMap_cons, List.flatMap_nil, List.append_nil]
    exact List.Nodup.sublist List.filter_sublist List.nodup_range
  · rw [List.mem_singleton] at hx; subst hx; exact ⟨Nat.le_refl _, fun _ _ _ => rfl⟩
theorem leave2 {w w' : World} {K : List Nat} {ρ : List Dt} {σ2 : Proofs.Ytiaeochlepkleaa.Blks} (h : Proofs.Ytiaeochlepkleaa.Mem [(w, K)] σ2 ρ w') (hm : old2 w K ∈ σ2) : Ext [] w w' := by
  have h1 := h.ext (w, K) (by simp)
  have h2 : _ ∧ _ := h.hold _ hm
  exact ⟨h1.os, h1.tape, h1.output, h1.size, fun k hk _ => by
    by_cases hK : k ∈ K
    · exact h2.2 k hk hK
    · exact h1.block k hk hK⟩
theorem row2 {w : World} {K : List Nat} {v : Value} {n : Nat} {cs : List Value} (h : IsRow K w v n cs) : IsRow ([old2 w K].flatMap Proofs.Ytiaeochlepkleaa.It.ids) w v n cs :=
  h.grow fun k hk => .inl (by
    simp only [List.flatMap_cons, List.flatMap_nil, List.append_nil] at hk
    exact (old2_ids.1 hk).2)
theorem Pure.of2 {f : FuncId} {args : List Abs} {res : Abs} (h : ∀ (K : List Nat) (w : World) (vals : List Value), (∀ k ∈ K, k < w.heap.size) → reps K w args vals → Calls P f vals.toArray w fun e w' => ∃ r, e = .returned r ∧ Ext [] w w' ∧ rep K w' res r) : Pure P f args res := fun G w vals hm hv =>
  (h G w vals hm.old hv).mono fun e w' ⟨r, he, hx, hr⟩ => ⟨(), r, he, by simp, ⟨hx, by simp [mids], by simp [mids], fun k hk => Nat.lt_of_lt_of_le (hm.old k hk) hx.size, by simp, by simp [mids], by simp⟩, hr⟩
end
end Go.Proofs.Ytiaeochlepkleaa.A
/-
  Readers, in plain Lean: what is read turns on the bytes alone.
-/
namespace Go.Proofs.Ytiaeochlepkleaa
open Go.RowKit

/-- Two readers of the same bytes. -/
def Rd.as (s t : Rd) : Prop := s.l = t.l ∧ s.e = t.e
section
variable {s t : Rd}
theorem Rd.as.bad (h : s.as t) (n : Int) : s.bad n ↔ t.bad n := by unfold Rd.bad; rw [h.1]
theorem Rd.as.fixed (h : s.as t) (n : Int) : (s.fixed n).as (t.fixed n) := by
  unfold Rd.fixed Rd.as
  by_cases he : t.e = 0
  · have he' : s.e = 0 := by rw [h.2, he]
    by_cases hb : t.bad n
    · simp [he, he', hb, (h.bad n).2 hb, h.1]
    · have hb' : ¬ s.bad n := fun x => hb ((h.bad n).1 x)
      simp [he, he', hb, hb', h.1]
  · have he' : s.e ≠ 0 := by rw [h.2]; exact he
    simp [he, h.1, h.2]
theorem Rd.as.out (h : s.as t) (n : Int) : s.out n = t.out n := by
  unfold Rd.out
  rw [h.1, h.2]
  by_cases hb : t.bad n
  · simp [hb, (h.bad n).2 hb]
  · have hb' : ¬ s.bad n := fun x => hb ((h.bad n).1 x)
    simp [hb, hb']
theorem Rd.as.num (h : s.as t) (n : Int) : s.num n = t.num n := by unfold Rd.num; rw [h.out]
theorem Rd.as.row (h : s.as t) (most : Int) : (s.row most).as (t.row most) := by
  have h1 := h.fixed 4
  unfold Rd.row
  rw [h1.2, h.num 4]
  split
  · exact h1
  · split
    · exact ⟨h1.1, rfl⟩
    · exact h1.fixed _
theorem Rd.as.rowOut (h : s.as t) (most : Int) : s.rowOut most = t.rowOut most := by
  have h1 := h.fixed 4
  unfold Rd.rowOut
  rw [h1.2, h.num 4, h1.out]
theorem Rd.as.end_ (h : s.as t) : s.end_ = t.end_ := by unfold Rd.end_; rw [h.1, h.2]
end
def Rd.of (l : List UInt8) : Rd := ⟨.slice none 0 0, l, 0⟩
section
variable {P : Program} {n : Nat} {l : Slots} {D : World → Prop} {x y : Operand} {d : Option Nat} {ty t t' : TypeId} {pos : String} {aft : Array Edge} {g : Option (Nat × Bool)}
end
end Go.Proofs.Ytiaeochlepkleaa
/-
  The second engine: the contracts of octets, as they stand.
-/
namespace Go.Proofs.Ytiaeochlepkleaa.A
open Go.RowKit

abbrev int (x : Int) : Abs := .v (.int .i64 x)
abbrev boo (b : Bool) : Abs := .v (.bool b)
abbrev ptr (b : Nat) : Abs := .v (.pointer (some ⟨b, 0, none⟩))
section
variable {P : Program} {f : FuncId}
/-- Rows of elements of plain cells. -/
abbrev flat {α : Type} (s : Nat) (c : α → List Value) (xs : List α) : Abs := .sl s (xs.map fun a => (c a).map .v)
theorem reps_plain {K : List Nat} {w : World} : ∀ {us vs : List Value}, reps K w (us.map .v) vs ↔ vs = us
  | [], vs => Iff.rfl
  | u :: us, vs => by
    constructor
    · rintro ⟨u', us', h1, h2, h3⟩
      have h2 : u' = u := h2
      rw [h1, h2, reps_plain.1 h3]
    · rintro rfl; exact ⟨u, us, rfl, rfl, reps_plain.2 rfl⟩
theorem repss_flat {K : List Nat} {w : World} {α : Type} {s : Nat} {c : α → List Value} (hc : ∀ a, (c a).length = s) : ∀ {xs : List α} {us : List Value}, repss K w s (xs.map fun a => (c a).map .v) us ↔ us = xs.flatMap c
  | [], us => Iff.rfl
  | x :: xs, us => by
    constructor
    · rintro ⟨u1, u2, h1, h2, h3, h4⟩
      rw [h1, reps_plain.1 h3, (repss_flat hc).1 h4, List.flatMap_cons]
    · rintro rfl
      exact ⟨c x, _, rfl, hc x, reps_plain.2 rfl, (repss_flat hc).2 rfl⟩
theorem rep_flat {K : List Nat} {w : World} {α : Type} {s : Nat} {c : α → List Value} (hc : ∀ a, (c a).length = s) {xs : List α} {x : Value} : rep K w (flat s c xs) x ↔ IsRow K w x xs.length (xs.flatMap c) := by
  constructor
  · rintro ⟨us, h1, h2⟩
    have := (repss_flat hc).1 h2
    subst this
    simpa using h1
  · intro h
    exact ⟨_, by simpa using h, (repss_flat hc).2 rfl⟩
end
section
variable {l m : List UInt8} {p : Nat} {s : Rd}
abbrev pv (p : Nat) : Value := .pointer (some ⟨p, 0, none⟩)
end
end Go.Proofs.Ytiaeochlepkleaa.A
/-
  Outcomes, plain.
-/
namespace Go.Proofs.Ytiaeochlepkleaa.A
open Go.RowKit

/-- An outcome. -/
structure Oc where
  client : Int
  stamp : Int
  result : Int
def Oc.abs (o : Oc) : List Abs := [int o.client, int o.stamp, int o.result]
def outA (l : List Oc) : Abs := .sl 3 (l.map Oc.abs)
end Go.Proofs.Ytiaeochlepkleaa.A
/-
  Places in rows, plain.
-/
namespace Go.Proofs.Ytiaeochlepkleaa.A
open Go.RowKit

/-- The place of the first one, or -1. -/
def IdxOf {α : Type} (p : α → Bool) (xs : List α) (r : Int) : Prop := (r = -1 ∧ ∀ x ∈ xs, p x = false) ∨ ∃ i, ∃ h : i < xs.length, r = (i : Nat) ∧ p xs[i] = true ∧ ∀ j (hj : j < i), p (xs[j]'(by omega)) = false
/-- The same, as a number. -/
theorem IdxOf.eq {α : Type} {p : α → Bool} : ∀ {xs : List α} {r : Int}, IdxOf p xs r → r = if xs.any p then ((xs.findIdx p : Nat) : Int) else -1 := fun {xs r} h => by
  rcases h with ⟨rfl, h⟩ | ⟨i, hi, rfl, h1, h2⟩
  · rw [if_neg]
    rw [Bool.not_eq_true, List.any_eq_false]
    intro x hx
    rw [h x hx]; decide
  · rw [if_pos (List.any_eq_true.2 ⟨_, List.getElem_mem hi, h1⟩)]
    refine congrArg Int.ofNat (Eq.symm ?_)
    rw [List.findIdx_eq hi]
    exact ⟨h1, fun j hj => h2 j hj⟩
end Go.Proofs.Ytiaeochlepkleaa.A
/-
  Names of letters, and cores that may be: the program's and the document's, over the engine.
-/
namespace Go.Proofs.Ytiaeochlepkleaa
open Go.RowKit

/-- A letter of a name. -/
def nameC (c : Nat) : Bool := (decide (97 ≤ c) && decide (c ≤ 122)) || (decide (48 ≤ c) && decide (c ≤ 57)) || decide (c = 45)
def nameB (s : ByteArray) : Bool := s.data.toList.all (fun c => nameC c.toNat) && decide (1 ≤ s.size) && decide (s.size ≤ 16)
section
variable {S : List (World × List Nat)} {σ τ : Blks} {ρ : List Dt} {w : World}
end
end Go.Proofs.Ytiaeochlepkleaa
/-
  Cores: whether they may be, and their bytes: the program's and the document's, over the engine.
-/
namespace Go.Proofs.Ytiaeochlepkleaa
open Go.RowKit

structure Core where
  client : Int
  stamp : Int
  op : Int
  letter : ByteArray
  a : Int
  b : Int
  text : ByteArray
def Core.cells (c : Core) : List Value := [.int .i64 c.client, .int .i64 c.stamp, .int .i64 c.op, .string c.letter, .int .i64 c.a, .int .i64 c.b, .string c.text]
def Core.check (c : Core) (n : Int) : Int :=
  if n < 1 ∨ 7 < n then 1 else if c.client < n ∨ n + 4 ≤ c.client then 17 else if c.stamp < 1 ∨ 1099511627776 < c.stamp ∨ c.op < 1 ∨ 9 < c.op then 5 else if nameB c.letter = false then 7 else if 200 < c.text.size then 3 else 0
def rowB (m : List UInt8) : List UInt8 := beBytes m.length 4 ++ m
def Core.bytes (c : Core) : List UInt8 :=
  beBytes (u64 c.client) 1 ++ beBytes (u64 c.stamp) 8 ++ beBytes (u64 c.op) 1 ++ rowB c.letter.data.toList ++ beBytes (u64 c.a) 8 ++ beBytes (u64 c.b) 8 ++ rowB c.text.data.toList
section
variable {S : List (World × List Nat)} {σ τ : Blks} {ρ : List Dt} {w : World} {P : Program} {n : Nat} {l : Slots} {D : World → Prop} {x y : Operand} {d : Option Nat} {ty t : TypeId} {pos : String} {aft : Array Edge} {g : Option (Nat × Bool)} {v : Value}
end
end Go.Proofs.Ytiaeochlepkleaa
/-
  The second engine: the bytes of cores.
-/
namespace Go.Proofs.Ytiaeochlepkleaa.A
open Go.RowKit

section
variable {c : Core} {n : Int}
end
end Go.Proofs.Ytiaeochlepkleaa.A
/-
  Entries, plain.
-/
namespace Go.Proofs.Ytiaeochlepkleaa
open Go.RowKit

/-- A core, and who stands behind it. -/
structure Ent where
  core : Core
  mask : Nat
def Ent.cells (e : Ent) : List Value := [.int .i64 e.core.client, .int .i64 e.core.stamp, .int .i64 e.core.op, .string e.core.letter, .int .i64 e.core.a, .int .i64 e.core.b, .string e.core.text, .int .u32 e.mask]
theorem Ent.one (e : Ent) : ∀ u ∈ e.cells, u.oneCell' = true := by
  intro u hu
  simp only [Ent.cells, List.mem_cons, List.not_mem_nil, or_false] at hu
  rcases hu with rfl | rfl | rfl | rfl | rfl | rfl | rfl | rfl <;> rfl
end Go.Proofs.Ytiaeochlepkleaa
/-
  The second engine: arrays, copies, blocks that are only read from then on.
-/
namespace Go.Proofs.Ytiaeochlepkleaa.A
open Go.RowKit

section
variable {P : Program} {n : Nat} {W : Wd} {σ τ : Blks} {l : Slots} {X : List Nat} {x y z : Operand} {d : Option Nat} {ty t t' e : TypeId} {pos : String} {aft : Array Edge} {g : Option (Nat × Bool)} {v u : Value} {k k' : IntKind} {a b : Nat} {o : Oper} {A B : Abs} {tab : List (Nat × TI)} {ops : Array Oper} {rest : List Oper} {Q : Exit → Act → World → Prop} {ix : Plan} {xs ys : List (List Abs)} {s q : Nat} {cs : List Abs}
theorem SC.known {c : Code} {p : Prop} {T : Act → World → Prop} (h : ∀ a w, T a w → p) (k : p → SC P c T Q) : SC P c T Q := fun a w ha => k (h a w ha) a w ha
theorem SL.known {p : Prop} {T : Act → World → Prop} (h : ∀ a w, T a w → p) (k : p → SL P ops rest T Q) : SL P ops rest T Q := fun a w ha => k (h a w ha) a w ha
theorem reps_set {K : List Nat} {w : World} {z : Abs} : ∀ {ps : List Abs} {us : List Value} {o : Nat} {u : Value}, reps K w ps us → us[o]? = some u → rep K w z u → reps K w (putL ps o [z]) us
  | [], us, o, u, h, hu, _ => by have : us = [] := h; subst this; simp at hu
  | a :: ps, _, 0, u, ⟨x, us', h1, h2, h3⟩, hu, hz => by
    subst h1
    simp at hu
    subst hu
    exact ⟨x, us', rfl, hz, h3⟩
  | a :: ps, _, o + 1, u, ⟨x, us', h1, h2, h3⟩, hu, hz => by
    subst h1
    exact ⟨x, us', rfl, h2, reps_set h3 (by simpa using hu) hz⟩
/-- A row of the call's own, that a block's cell holds, is only read from then on. -/
theorem St.freezeC {a : Act} {w : World} {pre post : Blks} {o : Nat} (h : St n W (pre ++ own e s v xs :: post) l a w) (hu : Upd (.blk b t cs) (.blk b t (putL cs o [.sl s xs])) (pre ++ post) τ) (hv : cs[o]? = some (.v v)) : St n W τ l a w := by
  have hsub : (pre ++ post).Sublist (pre ++ own e s v xs :: post) := List.Sublist.append (List.Sublist.refl _) (List.sublist_cons_self _ _)
  have h1 := own_sl h.mem
  have h2 := h.less hsub
  obtain ⟨us, hb, hr⟩ := h2.mem.hold _ hu.mem
  obtain ⟨u, h3, h4⟩ := reps_get hr hv
  have h4 : u = v := h4
  subst h4
  have hm := h2.mem.upd hu (Ext.refl w) (by simp [It.mids]) (by simp [It.mids]) rfl fun hc => ⟨us, hb, reps_carry hc _ _ (reps_set hr h3 h1)⟩
  exact h2.to hm.1 hm.2
theorem SC.freezeC {c : Code} (pre : Blks) {post : Blks} (o : Nat) (hσ : σ = pre ++ own e s v xs :: post) (hu : Upd (.blk b t cs) (.blk b t (putL cs o [.sl s xs])) (pre ++ post) τ) (hv : cs[o]? = some (.v v)) (k : SC P c (St n W τ l) Q) : SC P c (St n W σ l) Q := by
  subst hσ; exact fun a w h => k a w (h.freezeC hu hv)
theorem SL.freezeC (pre : Blks) {post : Blks} (o : Nat) (hσ : σ = pre ++ own e s v xs :: post) (hu : Upd (.blk b t cs) (.blk b t (putL cs o [.sl s xs])) (pre ++ post) τ) (hv : cs[o]? = some (.v v)) (k : SL P ops rest (St n W τ l) Q) : SL P ops rest (St n W σ l) Q := by
  subst hσ; exact fun a w h => k a w (h.freezeC hu hv)
end
abbrev ints (xs : List Int) : Abs := .sl 1 (xs.map fun x => [int x])
end Go.Proofs.Ytiaeochlepkleaa.A
/-
  The second engine: rows of one's own, read; calls that change several pieces.
-/
namespace Go.Proofs.Ytiaeochlepkleaa.A
open Go.RowKit

def isOwn (σ : Blks) (e : TypeId) (s : Nat) (v : Value) (xs : List (List Abs)) : Prop := own e s v xs ∈ σ ∨ It.rdpc (ownPc e s v xs) ∈ σ
/-- The address of so many cells behind a row's first one. -/
def eptr : Value → Nat → Value
  | .slice (some ⟨b, off, _⟩) _ _, o => .pointer (some ⟨b, off + o, none⟩)
  | v, _ => v
section
variable {P : Program} {n : Nat} {W : Wd} {σ τ : Blks} {l : Slots} {X : List Nat} {x y z : Operand} {d : Option Nat} {ty t e e' : TypeId} {pos : String} {aft : Array Edge} {g : Option (Nat × Bool)} {v : Value} {k : IntKind} {A : Abs} {tab : List (Nat × TI)} {xs : List (List Abs)} {s q : Nat} {cs : List Abs}
theorem Mem.ownR {w0 w : World} {F G : List Nat} (h : Mem w0 F G σ w) (hb : isOwn σ e s v xs) : ∃ us, IsRow [] w v xs.length us ∧ repss (mids σ ++ G) w s xs us := by
  have hp : (ownPc e s v xs).p (mids σ ++ G) w := by
    rcases hb with hb | hb
    · exact h.hold _ hb
    · exact h.hold _ hb
  obtain ⟨us, h1, h2⟩ := hp
  exact ⟨us, ownsRow.isRow h1 (by simp), h2⟩
theorem Val.lenOwnR {m : Nat} (hx : look l x = some (.v v)) (hb : isOwn σ e' s v xs) (ht : P.underlying t = some (.slice e)) (hm : xs.length = m) : Val P n W σ l X ⟨d, .call { callee := .builtin .len, args := #[x], argTypes := #[t] }, ty, pos, aft, g⟩ (.v (.int .i64 m)) := Val.mk' fun a w hs _ => by
  subst hm
  obtain ⟨us, h1, _⟩ := hs.mem.ownR hb
  obtain ⟨A', c, h2, _⟩ := h1.shape
  exact ⟨_, rfl, fun w' _ => Proofs.Ytiaeochlepkleaa.Val.lenSl (by rw [hs.at2 hx, hs.plain hx, h2]) ht⟩
theorem own_at {w : World} {us : List Value} (hr : IsRow [] w v xs.length us) (hp : repss (mids σ ++ W.G) w s xs us) (hpos : 0 < s) (hq : xs[q]? = some cs) : ∃ b off c, v = .slice (some ⟨b, off, none⟩) xs.length c ∧ b < w.heap.size ∧ ∃ vs : List Value, vs.length = s ∧ reps (mids σ ++ W.G) w cs vs ∧ ∀ j u, vs[j]? = some u → w.cell? ⟨b, off + q * s + j, none⟩ = some u := by
  obtain ⟨vs, h3, h4, h5⟩ := repss_get hp hq
  have hlt : q < xs.length := (List.getElem?_eq_some_iff.1 hq).1
  have hlen := repss_length hp
  have hne : us ≠ [] := by
    rintro rfl
    have : xs.length * s = 0 := by simpa using hlen.symm
    rcases Nat.mul_eq_zero.1 this with h | h <;> omega
  obtain ⟨A', c, hsh, h6, h7, h8⟩ := hr.shape
  obtain ⟨b, off, n', c', hv, hb, hc⟩ := hr.cells hne
  have hv2 := hv
  rw [hsh] at hv2
  simp at hv2
  obtain ⟨rfl, rfl, rfl⟩ := hv2
  have hcell : ∀ j u, vs[j]? = some u → w.cell? ⟨b, off + q * s + j, none⟩ = some u := fun j u hu => by rw [Nat.add_assoc]; exact hc _ u (h5 j u hu)
  have hbl : b < w.heap.size := by
    cases vs with
    | nil => simp at h3; omega
    | cons u vs => exact block_lt_of_cell (hcell 0 u rfl)
  exact ⟨b, off, _, hsh, hbl, vs, h3, h4, hcell⟩
/-- The address of an element. -/
theorem Val.indexOwn (hT : TabOk P tab) {j : TI} (hu : P.underlying t = some (.slice e)) (hj : ti tab e = some j) (hx : look l x = some (.v v)) (hb : isOwn σ e' s v xs) {r : Int} (hy : look l y = some (.v (.int k r))) (hr : r = (q : Nat)) (hq : q < xs.length) (hsz : Nat.beq s j.size = true) (hpos : Nat.blt 0 s = true) :
    Val P n W σ l X ⟨d, .indexAddr t x y, ty, pos, aft, g⟩ (.v (eptr v (q * s))) := Val.mk' fun a w hs hX => by
  subst hr
  have hsz := Nat.eq_of_beq_eq_true hsz
  have hpos : 0 < s := by simpa [Nat.blt_eq] using hpos
  obtain ⟨us, h1, h2⟩ := hs.mem.ownR hb
  obtain ⟨b, off, c, hv, _⟩ := own_at h1 h2 hpos (List.getElem?_eq_getElem hq)
  refine ⟨_, rfl, fun w' _ => ?_⟩
  rw [hv]
  show Proofs.Ytiaeochlepkleaa.Val _ _ _ _ _ (.pointer (some ⟨b, off + q * s, none⟩))
  rw [hsz]
  exact Proofs.Ytiaeochlepkleaa.Val.indexSlN hT hu hj (by rw [hs.at2 hx, hs.plain hx, hv]) (by rw [hs.at2 hy, hs.plain hy]) hq
theorem Val.loadOwnA (hT : TabOk P tab) {i : TI} (ht : ti tab t = some i) (hk : (match i.k with | .one => false | _ => true) = true) (hx : look l x = some (.v (eptr v (q * s)))) (hb : isOwn σ e' s v xs) (hpos : Nat.blt 0 s = true) (hq : xs[q]? = some cs) (hs0 : Nat.beq s i.size = true) : Val P n W σ l [] ⟨d, .load t x, ty, pos, aft, g⟩ (.agg cs) := Val.mk' fun a w hs hX => by
  have hpos : 0 < s := by simpa [Nat.blt_eq] using hpos
  have hs0 := Nat.eq_of_beq_eq_true hs0
  obtain ⟨us, h1, h2⟩ := hs.mem.ownR hb
  obtain ⟨b, off, c, hvv, hbl, vs, h3, h4, h5⟩ := own_at h1 h2 hpos hq
  exact ⟨_, ⟨vs, rfl, h4⟩, fun w' hw' => Proofs.Ytiaeochlepkleaa.Val.loadAC (b := b) (o := off + q * s) hT ht hk (by rw [hs.at2 hx, hs.plain hx, hvv]; rfl) (by omega) fun w1 e j u hu => by subst e; exact cell_later hw' (by simp) (h5 j u hu)⟩
/-- It changes pieces that lie side by side. -/
theorem After.mid {ι : Type} {σ1 : Blks} {τ' : ι → Blks} {K : Blks → ι → Prop} (α : Blks) {β : Blks} (hσ : σ = α ++ (σ1 ++ β)) (hr : ∀ x ∈ σ1, x.rids = []) (k : ∀ z, K (α ++ (τ' z ++ β)) z) : After σ σ1 τ' K := by
  subst hσ
  refine ⟨α ++ β, ⟨?_, fun x hx => .inl ⟨by simp [hx], hr x hx⟩, fun x hx => ?_⟩, fun z => ⟨_, ?_, k z⟩⟩
  · simp only [mids_append]
    exact List.perm_append_comm_assoc _ _ _
  · rcases List.mem_append.1 hx with h | h <;> simp [h]
  · exact List.perm_append_comm_assoc _ _ _
end
section
variable {P : Program} {n : Nat} {W : Wd} {ops : Array Oper} {l : Slots} {σ : Blks} {X : List Nat} {Q : Exit → Act → World → Prop} {ix : Plan} {f : FuncId} {args args' : List Abs} {σ1 : Blks} {ι : Type} {τ' : ι → Blks} {res : ι → Abs} {xs : List Operand} {ats : Array TypeId} {d : Option Nat} {ty : TypeId} {pos : String} {aft : Array Edge} {g : Option (Nat × Bool)} {i : Nat}
/-- A call; from then on only the blocks X' may be changed. -/
theorem SX.callX (X' : List Nat) (hi : ops[i]? = some ⟨d, .call { callee := .value (.func f), args := xs.toArray, argTypes := ats }, ty, pos, aft, g⟩) (hs : Spec P f args' σ1 τ' res) (hX : ∀ k ∈ mids σ1, k ∈ X) (hX' : ∀ k ∈ X', k ∈ X) (hca : Casts args args') (hb : goesIn P f = true) (hv : looks l xs = some args)
    (hg : gd ops l ⟨d, .call { callee := .value (.func f), args := xs.toArray, argTypes := ats }, ty, pos, aft, g⟩ = some true) (hd : lt? d n = true)
    (k : After σ σ1 τ' fun ν z => SX P ops ix X' (St n W ν (put? l d (res z))) Q) : SX P ops (.e i ix) X (St n W σ l) Q := fun a w h => by
  unfold planW wpOp
  simp only [hi, h.wanted hg, if_true]
  refine .inl ?_
  unfold Oper.wp
  rw [run_call hb rfl, Oper.upon_enter]
  refine (hs.after h.mem (hca _ _ _ (h.evals hv)) k).mono fun e w' ⟨z, r, ν, he, hx, _, hm, hc, hr, hk⟩ => ?_
  subst he
  exact ⟨fun w2 => Ext X' w' w2, fun w2 h2 => (hx.mono (fun k hk => .inl (hX k hk))).trans h2 fun k hk => .inl (hX' k hk), Ext.refl w', hk _ _ ((h.to hm hc).put hd hr)⟩
end
end Go.Proofs.Ytiaeochlepkleaa.A
/-
  The second engine: a constant's bytes: a row that was just made, marked as a text's.
-/
namespace Go.Proofs.Ytiaeochlepkleaa.A
open Go.RowKit

end Go.Proofs.Ytiaeochlepkleaa.A
/-
  The second engine: words of 32 bits; parts of an array of the call's own as an array.
-/
namespace Go.Proofs.Ytiaeochlepkleaa
open Go.RowKit
/-! ### Regions that draw, whose last operation comes behind all others -/
section
variable {P : Program} {ops : Array Oper}
def anyZ (P : Program) (ops : Array Oper) (D : World → Prop) (z : Nat) (Q : Act → World → Prop) : Nat → Array Bool → Act → World → Prop
  | 0, listed, a, w => Region.ready .any ops listed = [] ∧ Q a w
  | fuel + 1, listed, a, w => (Region.ready .any ops listed = [] → Q a w) ∧
      ∀ i ∈ Region.ready .any ops listed, wpOp P ops NoExit i (fun a' w' => (i = z ∨ D w') ∧ anyZ P ops D z Q fuel (listed.setIfInBounds i true) a' w') a w
theorem anyZ.wpAny {D : World → Prop} {z : Nat} {Q : Exit → Act → World → Prop} : ∀ (fuel : Nat) (listed : Array Bool) (a : Act) (w : World),
    anyZ P ops D z (Q .normal) fuel listed a w → wpAny P .any ops Q fuel listed a w
  | 0, _, _, _, h => h
  | fuel + 1, _, _, _, h => ⟨h.1, fun i hi => wpOp_of_noExit (wpOp_mono (fun a' w' h3 => anyZ.wpAny fuel _ a' w' h3.2) (h.2 i hi))⟩
theorem anyZ.mono {D D' : World → Prop} {z : Nat} {Q : Act → World → Prop} (hD : ∀ w, D' w → D w) : ∀ (fuel : Nat) (listed : Array Bool) (a : Act) (w : World),
    anyZ P ops D' z Q fuel listed a w → anyZ P ops D z Q fuel listed a w
  | 0, _, _, _, h => h
  | fuel + 1, _, _, _, h => ⟨h.1, fun i hi => wpOp_mono (fun a' w' h3 => ⟨h3.1.imp_right (hD _), anyZ.mono hD fuel _ a' w' h3.2⟩) (h.2 i hi)⟩
/-- What is listed has all that it comes behind listed. -/
def Down (ops : Array Oper) (L : Array Bool) : Prop := ∀ (k : Nat) (o : Oper), ops[k]? = some o → L.getD k false = true → ∀ e ∈ o.after, Region.binds .any e = true → L.getD e.on false = true
theorem Down.set {L : Array Bool} (h : Down ops L) {j : Nat} (hj : j ∈ Region.ready .any ops L) : Down ops (L.setIfInBounds j true) := by
  intro k o hk hl e he hb
  refine getD_set_true ?_
  by_cases hkj : k = j
  · subst hkj
    obtain ⟨_, o', ho', hall⟩ := mem_ready.1 hj
    rw [ho'] at hk
    cases hk
    exact hall e he hb
  · have : (L.setIfInBounds j true).getD k false = L.getD k false := getD_set_ne false (Ne.symm hkj)
    exact h k o hk (this ▸ hl) e he hb
/-- Each but the last comes ahead of a later one. -/
def domOk (ops : Array Oper) : Bool := (List.range (ops.size - 1)).all fun i => (List.range ops.size).any fun j => Nat.blt i j && ((ops[j]?).map fun o => o.after.any fun e => Region.binds .any e && e.on == i).getD false
theorem dom_next (hd : domOk ops = true) {i : Nat} (hi : i + 1 < ops.size) : ∃ j o, i < j ∧ j < ops.size ∧ ops[j]? = some o ∧ ∃ e ∈ o.after, Region.binds .any e = true ∧ e.on = i := by
  unfold domOk at hd
  rw [List.all_eq_true] at hd
  have h1 := hd i (by rw [List.mem_range]; omega)
  rw [List.any_eq_true] at h1
  obtain ⟨j, hj, h2⟩ := h1
  rw [List.mem_range] at hj
  simp only [Bool.and_eq_true, Nat.blt_eq] at h2
  obtain ⟨h2, h3⟩ := h2
  cases ho : ops[j]? with
  | none => rw [ho] at h3; cases h3
  | some o =>
    rw [ho] at h3
    simp only [Option.map_some, Option.getD_some, Array.any_eq_true, Bool.and_eq_true, beq_iff_eq] at h3
    obtain ⟨m, hm, hb, hon⟩ := h3
    exact ⟨j, o, h2, hj, ho, _, Array.getElem_mem hm, hb, hon⟩
theorem dom_all (hd : domOk ops = true) {L : Array Bool} (hL : Down ops L) (hz : ops.size - 1 ∈ Region.ready .any ops L) : ∀ m i, ops.size - 1 - i = m → i + 1 < ops.size → L.getD i false = true := by
  intro m
  induction m using Nat.strongRecOn with
  | _ m ih =>
    intro i hm hi
    obtain ⟨j, o, hij, hj, ho, e, he, hb, hon⟩ := dom_next hd hi
    subst hon
    by_cases hjz : j = ops.size - 1
    · subst hjz
      obtain ⟨_, o', ho', hall⟩ := mem_ready.1 hz
      rw [ho'] at ho
      cases ho
      exact hall e he hb
    · exact hL j o ho (ih _ (by omega) j rfl (by omega)) e he hb
theorem getD_ff {L : Array Bool} {i : Nat} (h : L.getD i true = false) : L.getD i false = false := by
  rw [Array.getD_eq_getD_getElem?] at h ⊢
  cases hq : L[i]? with
  | none => rfl
  | some b => rw [hq] at h; exact h
theorem anyZ_first {D : World → Prop} {Q : Act → World → Prop} {i : Nat} {oi : Oper} {v : Value} (hd : domOk ops = true) (hiz : i + 1 < ops.size) (hi : ops[i]? = some oi) (hsel : ∀ (j : Nat) (o : Oper) cs b, ops[j]? = some o → o.op ≠ .select cs b) :
    ∀ (fuel : Nat) (listed : Array Bool) (a : Act) (w : World), D w → Down ops listed →
      (∀ j oj, ops[j]? = some oj → j ≠ i → listed.getD j true = false → (∀ e ∈ oj.after, Region.binds .any e = true → e.on ≠ i) → oi.apart ops oj = true) →
      i ∈ Region.ready .any ops listed → YieldsD P ops D oi v a →
      anyZ P ops D (ops.size - 1) Q fuel (listed.setIfInBounds i true) (a.put oi.dst v) w → anyZ P ops D (ops.size - 1) Q (fuel + 1) listed a w := by
  intro fuel
  induction fuel with
  | zero =>
    intro listed a w hDw _ _ hr hy H
    refine ⟨fun h => (by rw [h] at hr; cases hr), fun j hj => ?_⟩
    by_cases hji : j = i
    · subst hji; exact hy.wpOp hi hDw ⟨.inr hDw, H⟩
    · have := ready_mono hj hji
      rw [H.1] at this
      cases this
  | succ fuel ih =>
    intro listed a w hDw hdn hfree hr hy H
    refine ⟨fun h => (by rw [h] at hr; cases hr), fun j hj => ?_⟩
    by_cases hji : j = i
    · subst hji; exact hy.wpOp hi hDw ⟨.inr hDw, H⟩
    · have hjz : j ≠ ops.size - 1 := fun h => by
        subst h
        have h1 := dom_all hd hdn hj _ i rfl hiz
        have h0 := getD_ff (mem_ready.1 hr).1
        rw [h1] at h0
        cases h0
      have h1 := H.2 j (ready_mono hj hji)
      obtain ⟨hjun, oj, hoj, hall⟩ := mem_ready.1 hj
      have hnot : ∀ e ∈ oj.after, Region.binds .any e = true → e.on ≠ i := fun e he hb heq => by
        have h1 := hall e he hb
        have h0 := (mem_ready.1 hr).1
        rw [heq] at h1
        rw [getD_ff h0] at h1
        cases h1
      have h2 := wpOp_putD hoj (hfree j oj hoj hji hjun hnot) (fun cs b => hsel i oi cs b hi) (fun cs b => hsel j oj cs b hoj) hy h1
      have hfree' : ∀ k ok, ops[k]? = some ok → k ≠ i → (listed.setIfInBounds j true).getD k true = false →
          (∀ e ∈ ok.after, Region.binds .any e = true → e.on ≠ i) → oi.apart ops ok = true := fun k ok hk hki hun hno => by
        refine hfree k ok hk hki ?_ hno
        by_cases hjk : j = k
        · subst hjk; exact hjun
        · rw [getD_set_ne true hjk] at hun; exact hun
      refine wpOp_mono (fun a' w' h3 => ?_) h2
      have hDw' : D w' := h3.2.1.resolve_left hjz
      refine ⟨.inr hDw', ih (listed.setIfInBounds j true) a' w' hDw' (hdn.set hj) hfree' (ready_mono hr (Ne.symm hji)) h3.1 ?_⟩
      rw [Array.setIfInBounds_comm _ _ hji]
      exact h3.2.2
def planOkZ (ops : Array Oper) : Nat → Array Bool → Plan → Bool
  | _ + 1, listed, .nil => (Region.ready .any ops listed == [ops.size - 1]) && (Region.ready .any ops (listed.setIfInBounds (ops.size - 1) true)).isEmpty
  | n + 1, listed, .q i k => Nat.blt (i + 1) ops.size && Region.free .any ops listed i && (Region.ready .any ops listed).contains i && planOkZ ops n (listed.setIfInBounds i true) k
  | n + 1, listed, .e i k => (Region.ready .any ops listed == [i]) && planOkZ ops n (listed.setIfInBounds i true) k
  | n + 1, listed, .two i j k h => (Region.ready .any ops listed == [i, j]) && planOkZ ops n (listed.setIfInBounds i true) k && planOkZ ops n (listed.setIfInBounds j true) h
  | 0, _, _ => false
theorem planW.anyZ {Q : Act → World → Prop} (hs : Region.noSelect ops = true) (hd : domOk ops = true) : ∀ (n : Nat) (ix : Plan) (D : World → Prop) (listed : Array Bool) (a : Act) (w : World), planOkZ ops n listed ix = true → D w → Down ops listed →
    planW P ops (fun a w => wpOp P ops NoExit (ops.size - 1) Q a w) ix D a w → Proofs.Ytiaeochlepkleaa.anyZ P ops D (ops.size - 1) Q n listed a w
  | 0, .nil, _, _, _, _, hok, _, _, _ => by cases hok
  | n + 1, .nil, D, listed, a, w, hok, hD, hdn, h => by
    simp only [planOkZ, Bool.and_eq_true, beq_iff_eq, List.isEmpty_iff] at hok
    refine ⟨fun h0 => (by rw [hok.1] at h0; cases h0), fun j hj => ?_⟩
    rw [hok.1] at hj
    simp only [List.mem_singleton] at hj
    subst hj
    refine wpOp_mono (fun a' w' hq => ⟨.inl rfl, ?_⟩) h
    cases n with
    | zero => exact ⟨hok.2, hq⟩
    | succ n => exact ⟨fun _ => hq, fun i hi => by rw [hok.2] at hi; cases hi⟩
  | n + 1, .q i ix, D, listed, a, w, hok, hD, hdn, ⟨o, v, hi, hy, h⟩ => by
    simp only [planOkZ, Bool.and_eq_true, Nat.blt_eq] at hok
    have hrd : i ∈ Region.ready .any ops listed := by simpa using hok.1.2
    exact anyZ_first hd hok.1.1.1 hi (Region.noSelect_spec hs) n listed a w hD hdn (Region.free_spec hi hok.1.1.2) hrd hy (planW.anyZ hs hd n ix D _ _ _ hok.2 hD (hdn.set hrd) h)
  | n + 1, .e i ix, D, listed, a, w, hok, hD, hdn, h => by
    simp only [planOkZ, Bool.and_eq_true, beq_iff_eq] at hok
    refine ⟨fun h0 => (by rw [hok.1] at h0; cases h0), fun j hj => ?_⟩
    have hj0 := hj
    rw [hok.1] at hj
    simp only [List.mem_singleton] at hj
    subst hj
    exact wpOp_mono (fun a' w' ⟨D', hD', hw', h'⟩ => ⟨.inr (hD' _ hw'), anyZ.mono hD' _ _ _ _ (planW.anyZ hs hd n ix D' _ a' w' hok.2 hw' (hdn.set hj0) h')⟩) h
  | n + 1, .two i j k m, D, listed, a, w, hok, hD, hdn, h => by
    simp only [planOkZ, Bool.and_eq_true, beq_iff_eq] at hok
    refine ⟨fun h0 => (by rw [hok.1.1] at h0; cases h0), fun r hr => ?_⟩
    have hr0 := hr
    rw [hok.1.1] at hr
    simp only [List.mem_cons, List.not_mem_nil, or_false] at hr
    rcases hr with rfl | rfl
    · exact wpOp_mono (fun a' w' ⟨D', hD', hw', h'⟩ => ⟨.inr (hD' _ hw'), anyZ.mono hD' _ _ _ _ (planW.anyZ hs hd n k D' _ a' w' hok.1.2 hw' (hdn.set hr0) h')⟩) h.1
    · exact wpOp_mono (fun a' w' ⟨D', hD', hw', h'⟩ => ⟨.inr (hD' _ hw'), anyZ.mono hD' _ _ _ _ (planW.anyZ hs hd n m D' _ a' w' hok.2 hw' (hdn.set hr0) h')⟩) h.2
theorem down_none (n : Nat) : Down ops (Array.replicate n false) := by
  intro k o _ h
  rw [Array.getD_eq_getD_getElem?, Array.getElem?_replicate] at h
  split at h <;> cases h
theorem wp_region_planZ {id : Nat} {a : Act} {w : World} {Q : Exit → Act → World → Prop} (D : World → Prop) (ix : Plan) (hm : P.follows .mixedOrders = true)
    (hok : (Region.noSelect ops && domOk ops && planOkZ ops ops.size (Array.replicate ops.size false) ix) = true) (hD : D w.drew)
    (h : planW P ops (fun a w => wpOp P ops NoExit (ops.size - 1) (Q .normal) a w) ix D a w.drew) : (Code.region id ops true).wp P Q a w := by
  simp only [Bool.and_eq_true] at hok
  refine wp_region_any hm ?_
  exact anyZ.wpAny _ _ _ _ (planW.anyZ hok.1.1 hok.1.2 _ ix D _ a _ hok.2 hD (down_none _) h)
end
end Go.Proofs.Ytiaeochlepkleaa
namespace Go.Proofs.Ytiaeochlepkleaa.A
open Go.RowKit
section
variable {P : Program} {n : Nat} {W : Wd} {σ : Blks} {l : Slots} {o : Oper} {ops : Array Oper} {Q : Exit → Act → World → Prop}
/-- What is to be shown ahead of a region's last operation. -/
def LastOp (P : Program) (ops : Array Oper) (Q : Exit → Act → World → Prop) : Exit → Act → World → Prop := fun _ a w => wpOp P ops NoExit (ops.size - 1) (Q .normal) a w
theorem SC.drawZ {id : Nat} (X : List Nat) (ix : Plan) (hm : P.follows .mixedOrders = true)
    (hok : (Region.noSelect ops && domOk ops && planOkZ ops ops.size (Array.replicate ops.size false) ix) = true) (h : SX P ops ix X (St n W σ l) (LastOp P ops Q)) : SC P (.region id ops true) (St n W σ l) Q := fun a w hs =>
  wp_region_planZ (fun w' => Ext X w.drew w') ix hm hok (Ext.refl _) (h a _ hs.drew)
theorem SE.effZ {Y : List Nat} {R : Abs → Blks → Prop} (hi : ops[ops.size - 1]? = some o) (hv : Eff P n W σ l Y o R) (hg : gd ops l o = some true) (hd : lt? o.dst n = true)
    (k : ∀ y τ, R y τ → SE .normal (St n W τ (put? l o.dst y)) Q) : SE .normal (St n W σ l) (LastOp P ops Q) := fun a w hs => by
  unfold LastOp wpOp
  simp only [hi, hs.wanted hg, if_true]
  refine .inl ?_
  unfold Oper.wp
  obtain ⟨v, w', y, τ, hR, hx, hr, hm, hc, hrun | ⟨rfl, hrun⟩⟩ := hv a w hs
  · rw [hrun]; exact k _ _ hR _ _ ((hs.to hm hc).put hd hr)
  · rw [hrun]; exact k _ _ hR _ _ ((hs.to hm hc).put hd hr)
end

abbrev Wo := BitVec 32
/-- A word's value. -/
def u32 (p : Wo) : Abs := .v (.int .u32 (p.toNat : Nat))
theorem putL_whole {L ys : List Abs} (h : ys.length = L.length) : putL L 0 ys = ys := by
  rw [putL_eq _ _ _ (Nat.zero_le _), Nat.zero_add, h]
  simp
section
variable {P : Program} {n : Nat} {W : Wd} {σ τ : Blks} {l : Slots} {X : List Nat} {x y z : Operand} {d : Option Nat} {ty t t' e : TypeId} {pos : String} {aft : Array Edge} {g : Option (Nat × Bool)} {k k' : IntKind} {b : Nat} {A B : Abs} {tab : List (Nat × TI)} {ops : Array Oper} {rest : List Oper} {Q : Exit → Act → World → Prop} {p q : Wo}
/-- A new block in a region that draws: what follows may change it. -/
theorem SX.alloc {ix : Plan} (hT : TabOk P tab) {i : TI} {j : Nat} (ht : ti tab t = some i) (hi : ops[j]? = some ⟨d, .alloc t, ty, pos, aft, g⟩) (hg : gd ops l ⟨d, .alloc t, ty, pos, aft, g⟩ = some true) (hd : lt? d n = true)
    (k : ∀ b, SX P ops ix (b :: X) (St n W (.blk b t (zabs i.zero) :: σ) (put? l d (.v (.pointer (some ⟨b, 0, none⟩))))) Q) : SX P ops (.e j ix) X (St n W σ l) Q := fun a w hs => by
  unfold planW wpOp
  simp only [hi, hs.wanted hg, if_true]
  refine .inl ?_
  unfold Oper.wp
  obtain ⟨zv, hz, hc⟩ := (hT t _ ht).zeroValue (w := w)
  obtain ⟨h1, h2⟩ := hs.mem.alloc t (reps_zabs i.zero)
  have hrun : (execOp a.eval ⟨d, .alloc t, ty, pos, aft, g⟩).run P w = .ok (.value (.pointer (some ⟨w.heap.size, 0, none⟩))) (w.alloc (row t i.zero)) := by
    simp [execOp, Instr.alloc, Sem.run_bind, hz, Result.andThen, newVar, newRow, newObj, Sem.run, hc, row]
  rw [hrun]
  refine ⟨fun w2 => Ext (w.heap.size :: X) (w.alloc (row t i.zero)) w2, fun w2 h3 => ((Ext.refl w).alloc _).trans (h3 : Ext (w.heap.size :: X) _ w2) fun x hx => ?_, Ext.refl _, k _ _ _ ((hs.to h1 h2).put hd (show rep _ _ (.v (.pointer (some ⟨w.heap.size, 0, none⟩))) _ from rfl))⟩
  rcases List.mem_cons.1 hx with rfl | hx
  · exact .inr (Nat.le_refl _)
  · exact .inl hx
/-- A call that takes the two pieces on top. -/
theorem After.two {ι : Type} {x1 x2 : It} {β : Blks} {τ' : ι → Blks} {y1 y2 : ι → It} {K : Blks → ι → Prop} (hr : x1.rids = [] ∧ x2.rids = []) (hτ : ∀ z, τ' z = [y1 z, y2 z]) (k : ∀ z, K (y1 z :: y2 z :: β) z) : After (x1 :: x2 :: β) [x1, x2] τ' K :=
  After.mid [] (β := β) rfl (by intro x hx; simp only [List.mem_cons, List.not_mem_nil, or_false] at hx; rcases hx with rfl | rfl; exact hr.1; exact hr.2) fun z => by rw [hτ z]; exact k z
/-- A row is never longer than may be. -/
theorem SC.rowLe {c : Code} {s i : Nat} {xs : List (List Abs)} (hs : slot l i = some (.sl s xs)) (k : xs.length ≤ maxLen → SC P c (St n W σ l) Q) : SC P c (St n W σ l) Q := fun a w h => by
  have h1 : rep (mids σ ++ W.G) w (.sl s xs) (a.eval (.tmp i)) := h.eval (x := .tmp i) hs
  obtain ⟨us, h2, _⟩ := h1
  obtain ⟨_, _, _, h3, h4, _⟩ := h2.shape
  exact k (Nat.le_trans h3 h4) a w h
theorem SE.perm {ex : Exit} (h : τ.Perm σ) (k : SE ex (St n W τ l) Q) : SE ex (St n W σ l) Q := fun a w hs => k a w (hs.perm h)
theorem SE.swap {ex : Exit} {x y : It} (k : SE ex (St n W (y :: x :: σ) l) Q) : SE ex (St n W (x :: y :: σ) l) Q := SE.perm (List.Perm.swap x y σ) k
end
section
variable {P : Program} {n : Nat} {W : Wd} {σ : Blks} {l : Slots} {X : List Nat} {x : Operand} {d : Option Nat} {ty t t' e tp : TypeId} {pos : String} {aft : Array Edge} {gq : Option (Nat × Bool)} {A : Abs} {ms : Array (String × TypeId)} {ops : Array Oper} {rest : List Oper} {Q : Exit → Act → World → Prop} {s : Nat} {xs : List (List Abs)}
/-- Is a slice nil? Then it is empty. -/
theorem SL.eqNil (ht : P.underlying t = some (.slice e)) (hx : look l x = some (.sl s xs)) (hg : gd ops l ⟨d, .binOp .eql t x (.const (.slice none 0 0)) t', ty, pos, aft, gq⟩ = some true) (hd : lt? d n = true)
    (k : ∀ b : Bool, (b = true → xs = []) → SL P ops rest (St n W σ (put? l d (.v (.bool b)))) Q) : SL P ops (⟨d, .binOp .eql t x (.const (.slice none 0 0)) t', ty, pos, aft, gq⟩ :: rest) (St n W σ l) Q := fun a w hs =>
  wpList_step fun K hK => by
    rw [if_pos (hs.wanted hg)]
    unfold Oper.wp
    obtain ⟨us, hr, h2⟩ := hs.eval hx
    obtain ⟨A', c, h1, h3, h4, h5⟩ := hr.shape
    have e1 : a.eval (.const (.slice none 0 0)) = .slice none 0 0 := rfl
    have hrun : (binOp .eql t (.slice A' xs.length c) (.slice none 0 0)).run P w = .ok (.bool A'.isNone) w := by
      have h : ∀ d : Nat, (Op.equalIn (d + 1) t (.slice A' xs.length c) (.slice none 0 0)).run P w = .ok A'.isNone w := fun d => by cases A' <;> simp [Op.equalIn, run_underlying ht]
      simp only [binOp]
      simp [Op.equal, Op.maxDepth, h 9999]
    have hrun2 : (execOp a.eval ⟨d, .binOp .eql t x (.const (.slice none 0 0)) t', ty, pos, aft, gq⟩).run P w = .ok (.value (.bool A'.isNone)) w := by simp [execOp, h1, e1, eqGuard, hrun]
    rw [hrun2]
    refine hK _ _ (k A'.isNone (fun hb => ?_) _ _ (hs.put hd (show rep _ _ (.v (.bool A'.isNone)) _ from rfl)))
    cases A' with
    | none =>
      have := h5 rfl
      exact List.length_eq_zero_iff.1 (by omega)
    | some A' => cases hb
end
end Go.Proofs.Ytiaeochlepkleaa.A
/-
  Policies as trees, plain: how many nodes, how deep, whether numbers are in their ranges, whether they hold.
-/
namespace Go.Proofs.Ytiaeochlepkleaa.A
open Go.RowKit

inductive Frm where
  | mk (org at_ : Int) (kids : List Frm)
mutual
def Frm.abs : Frm → List Abs
  | .mk o a ks => [int o, int a, .sl 3 (Frm.abss ks)]
def Frm.abss : List Frm → List (List Abs)
  | [] => []
  | k :: ks => k.abs :: Frm.abss ks
end
mutual
def Frm.nodes : Frm → Nat
  | .mk _ _ ks => 1 + Frm.nodess ks
def Frm.nodess : List Frm → Nat
  | [] => 0
  | k :: ks => k.nodes + Frm.nodess ks
end
mutual
def Frm.depth : Frm → Nat
  | .mk _ _ ks => 1 + Frm.depths ks
def Frm.depths : List Frm → Nat
  | [] => 0
  | k :: ks => max k.depth (Frm.depths ks)
end
mutual
def Frm.ranges (n : Int) : Frm → Bool
  | .mk o a ks => match ks with
    | [] => decide (0 ≤ o ∧ o < n ∧ a = 0)
    | k :: ks => (k.ranges n && Frm.rangess n ks) && decide (1 ≤ a ∧ a ≤ ((ks.length + 1 : Nat) : Int) ∧ o = 0)
def Frm.rangess (n : Int) : List Frm → Bool
  | [] => true
  | k :: ks => k.ranges n && Frm.rangess n ks
end
mutual
def Frm.holds (s : Wo) : Frm → Bool
  | .mk o a ks => match ks with
    | [] => s.getLsbD o.toNat
    | k :: ks => decide (a ≤ (((if k.holds s then 1 else 0) + Frm.holdss s ks : Nat) : Int))
def Frm.holdss (s : Wo) : List Frm → Nat
  | [] => 0
  | k :: ks => (if k.holds s then 1 else 0) + Frm.holdss s ks
end
mutual
/-- Numbers as they come in. -/
def Frm.ints : Frm → Prop
  | .mk o a ks => InR .i64 o ∧ InR .i64 a ∧ Frm.intss ks
def Frm.intss : List Frm → Prop
  | [] => True
  | k :: ks => k.ints ∧ Frm.intss ks
end
theorem Frm.nodes_mk (o a : Int) (ks : List Frm) : (Frm.mk o a ks).nodes = 1 + Frm.nodess ks := by rw [Frm.nodes]
theorem Frm.nodes_pos (f : Frm) : 1 ≤ f.nodes := by
  cases f
  rw [Frm.nodes_mk]
  omega
theorem Frm.length_le : ∀ ks : List Frm, ks.length ≤ Frm.nodess ks
  | [] => Nat.le_refl _
  | k :: ks => by
    have := Frm.length_le ks
    have := k.nodes_pos
    rw [Frm.nodess, List.length_cons]
    omega
/-- What layer 8 says of a policy. -/
def Frm.check (f : Frm) (n : Int) : Int := if n < 1 ∨ 7 < n then 1 else if 32 < f.nodes then 4 else if 5 < f.depth then 3 else if f.ranges n = true then 0 else 5
end Go.Proofs.Ytiaeochlepkleaa.A
/-
  Policies' texts, plain: which policy a text tells.
-/
namespace Go.Proofs.Ytiaeochlepkleaa.A
open Go.RowKit

abbrev Txt := List UInt8
def isDig (c : UInt8) : Bool := decide (48 ≤ c.toNat ∧ c.toNat ≤ 57)
/-- Without blanks at its beginning. -/
def bare : Txt → Txt
  | [] => []
  | c :: t => if c = 32 then bare t else c :: t
def begins (t s : Txt) : Bool := s.isPrefixOf t
def digs (t : Txt) : Txt := t.takeWhile isDig
def decV (l : Txt) : Nat := l.foldl (fun a c => a * 10 + (c.toNat - 48)) 0
/-- A number, and the rest. -/
def numT (t : Txt) : Option (Nat × Txt) :=
  if (digs t).length = 0 ∨ 4 < (digs t).length ∨ (1 < (digs t).length ∧ (digs t).head? = some 48) then none else some (decV (digs t), t.drop (digs t).length)
/-- Policies in brackets, one behind the other; the rest. -/
def rowL (p : Txt → Option (Frm × Txt)) : Nat → Txt → List Frm → Option (List Frm × Txt)
  | 0, _, _ => none
  | n + 1, t, acc => match p t with
    | none => none
    | some (f, r) => if begins (bare r) [41] = true then some (acc ++ [f], (bare r).drop 1) else if begins (bare r) [44] = true then rowL p n ((bare r).drop 1) (acc ++ [f]) else none
def rowT (p : Txt → Option (Frm × Txt)) (t : Txt) : Option (List Frm × Txt) := if begins (bare t) [40] = true then rowL p (t.length + 1) ((bare t).drop 1) [] else none
/-- A policy of so many levels at most, and the rest. -/
def polT : Nat → Txt → Option (Frm × Txt)
  | 0, _ => none
  | k + 1, t =>
    if begins (bare t) [97, 108, 108] = true then (rowT (polT k) ((bare t).drop 3)).map fun x => (.mk 0 x.1.length x.1, x.2)
    else if begins (bare t) [97, 110, 121] = true then (rowT (polT k) ((bare t).drop 3)).map fun x => (.mk 0 1 x.1, x.2)
    else match numT (bare t) with
    | none => none
    | some (v, r) => if begins (bare r) [111, 102] = true then (if 1 ≤ v ∧ v ≤ 99 then (rowT (polT k) ((bare r).drop 2)).map fun x => (.mk 0 v x.1, x.2) else none) else some (.mk v 0 [], r)
/-- What a text tells, of n organizations. -/
def parseF (t : Txt) (n : Int) : Frm × Int :=
  if 200 < t.length then (.mk 0 0 [], 3) else match polT 10 t with
    | none => (.mk 0 0 [], 2)
    | some (f, r) => if bare r ≠ [] then (.mk 0 0 [], 2) else if f.check n ≠ 0 then (.mk 0 0 [], f.check n) else (f, 0)
/-! ### Numbers -/
end Go.Proofs.Ytiaeochlepkleaa.A
/-
  The second engine: regions that draw, in two parts; an element of a row of the call's own stored; words of 64 bits.
-/
namespace Go.Proofs.Ytiaeochlepkleaa
open Go.RowKit
section
variable {P : Program} {ops : Array Oper}
/-- In whatever order; what the operations from m on leave is asked nothing. -/
def anyS (P : Program) (ops : Array Oper) (D : World → Prop) (m : Nat) (Q : Act → World → Prop) : Nat → Array Bool → Act → World → Prop
  | 0, listed, a, w => Region.ready .any ops listed = [] ∧ Q a w
  | fuel + 1, listed, a, w => (Region.ready .any ops listed = [] → Q a w) ∧
      ∀ i ∈ Region.ready .any ops listed, wpOp P ops NoExit i (fun a' w' => (m ≤ i ∨ D w') ∧ anyS P ops D m Q fuel (listed.setIfInBounds i true) a' w') a w
theorem anyS.wpAny {D : World → Prop} {m : Nat} {Q : Exit → Act → World → Prop} : ∀ (fuel : Nat) (listed : Array Bool) (a : Act) (w : World),
    anyS P ops D m (Q .normal) fuel listed a w → wpAny P .any ops Q fuel listed a w
  | 0, _, _, _, h => h
  | fuel + 1, _, _, _, h => ⟨h.1, fun i hi => wpOp_of_noExit (wpOp_mono (fun a' w' h3 => anyS.wpAny fuel _ a' w' h3.2) (h.2 i hi))⟩
theorem anyS.mono {D D' : World → Prop} {m : Nat} {Q : Act → World → Prop} (hD : ∀ w, D' w → D w) : ∀ (fuel : Nat) (listed : Array Bool) (a : Act) (w : World),
    anyS P ops D' m Q fuel listed a w → anyS P ops D m Q fuel listed a w
  | 0, _, _, _, h => h
  | fuel + 1, _, _, _, h => ⟨h.1, fun i hi => wpOp_mono (fun a' w' h3 => ⟨h3.1.imp_right (hD _), anyS.mono hD fuel _ a' w' h3.2⟩) (h.2 i hi)⟩
/-- Those ahead of m are listed. -/
def headIn (m : Nat) (L : Array Bool) : Bool := (List.range m).all fun i => L.getD i false
theorem headIn_set {m : Nat} {L : Array Bool} (h : headIn m L = true) (j : Nat) : headIn m (L.setIfInBounds j true) = true := by
  unfold headIn at *
  rw [List.all_eq_true] at *
  exact fun i hi => getD_set_true (h i hi)
theorem headIn_get {m : Nat} {L : Array Bool} (h : headIn m L = true) {i : Nat} (hi : i < m) : L.getD i false = true := by
  unfold headIn at h
  rw [List.all_eq_true] at h
  exact h i (List.mem_range.2 hi)
theorem anyD.toS {D D2 : World → Prop} {m : Nat} {Q : Act → World → Prop} : ∀ (fuel : Nat) (listed : Array Bool) (a : Act) (w : World), headIn m listed = true →
    anyD P ops D2 Q fuel listed a w → anyS P ops D m Q fuel listed a w
  | 0, _, _, _, _, h => h
  | fuel + 1, L, _, _, hL, h => ⟨h.1, fun i hi => wpOp_mono (fun a' w' h3 => ⟨.inl (by
      rcases Nat.lt_or_ge i m with h1 | h1
      · have h2 := headIn_get hL h1
        rw [getD_ff (mem_ready.1 hi).1] at h2
        cases h2
      · exact h1), anyD.toS fuel _ a' w' (headIn_set hL i) h3.2⟩) (h.2 i hi)⟩
/-- Each ahead of m comes ahead of a later one up to m; each behind m comes behind one from m on. -/
def domOkS (ops : Array Oper) (m : Nat) : Bool :=
  ((List.range m).all fun i => (List.range (m + 1)).any fun j => Nat.blt i j && ((ops[j]?).map fun o => o.after.any fun e => Region.binds .any e && e.on == i).getD false) &&
  ((List.range ops.size).all fun j => Nat.ble j m || ((ops[j]?).map fun o => o.after.any fun e => Region.binds .any e && Nat.ble m e.on && Nat.blt e.on j).getD false)
theorem domS_next {m : Nat} (hd : domOkS ops m = true) {i : Nat} (hi : i < m) : ∃ j o, i < j ∧ j ≤ m ∧ ops[j]? = some o ∧ ∃ e ∈ o.after, Region.binds .any e = true ∧ e.on = i := by
  unfold domOkS at hd
  rw [Bool.and_eq_true, List.all_eq_true] at hd
  have h1 := hd.1 i (by rw [List.mem_range]; omega)
  rw [List.any_eq_true] at h1
  obtain ⟨j, hj, h2⟩ := h1
  rw [List.mem_range] at hj
  simp only [Bool.and_eq_true, Nat.blt_eq] at h2
  obtain ⟨h2, h3⟩ := h2
  cases ho : ops[j]? with
  | none => rw [ho] at h3; cases h3
  | some o =>
    rw [ho] at h3
    simp only [Option.map_some, Option.getD_some, Array.any_eq_true, Bool.and_eq_true, beq_iff_eq] at h3
    obtain ⟨x, hx, hb, hon⟩ := h3
    exact ⟨j, o, h2, by omega, ho, _, Array.getElem_mem hx, hb, hon⟩
theorem domS_back {m : Nat} (hd : domOkS ops m = true) {j : Nat} {o : Oper} (ho : ops[j]? = some o) (hj : m < j) : ∃ e ∈ o.after, Region.binds .any e = true ∧ m ≤ e.on ∧ e.on < j := by
  unfold domOkS at hd
  rw [Bool.and_eq_true, List.all_eq_true, List.all_eq_true] at hd
  have h1 := hd.2 j (by rw [List.mem_range]; exact (Array.getElem?_eq_some_iff.1 ho).1)
  rw [ho] at h1
  simp only [Option.map_some, Option.getD_some, Bool.or_eq_true, Nat.ble_eq, Array.any_eq_true, Bool.and_eq_true, Nat.blt_eq] at h1
  rcases h1 with h1 | ⟨x, hx, ⟨hb, h2⟩, h3⟩
  · omega
  · exact ⟨_, Array.getElem_mem hx, hb, h2, h3⟩
/-- All that one comes behind is listed. -/
def Due (ops : Array Oper) (L : Array Bool) (j : Nat) : Prop := ∃ o, ops[j]? = some o ∧ ∀ e ∈ o.after, Region.binds .any e = true → L.getD e.on false = true
theorem Due.down {m : Nat} (hd : domOkS ops m = true) {L : Array Bool} (hL : Down ops L) (hin : ∀ k, L.getD k false = true → ∃ o, ops[k]? = some o) : ∀ j, m ≤ j → Due ops L j → Due ops L m := by
  intro j
  induction j using Nat.strongRecOn with
  | _ j ih =>
    intro hj h
    by_cases hjm : j = m
    · subst hjm; exact h
    · obtain ⟨o, ho, hall⟩ := h
      obtain ⟨e, he, hb, h1, h2⟩ := domS_back hd ho (by omega)
      have h3 := hall e he hb
      obtain ⟨o2, ho2⟩ := hin _ h3
      exact ih e.on h2 h1 ⟨o2, ho2, hL _ _ ho2 h3⟩
theorem domS_all {m : Nat} (hd : domOkS ops m = true) {L : Array Bool} (hL : Down ops L) (hz : Due ops L m) : ∀ k i, m - i = k → i < m → L.getD i false = true := by
  intro k
  induction k using Nat.strongRecOn with
  | _ k ih =>
    intro i hk hi
    obtain ⟨j, o, hij, hj, ho, e, he, hb, hon⟩ := domS_next hd hi
    subst hon
    by_cases hjz : j = m
    · subst hjz
      obtain ⟨o', ho', hall⟩ := hz
      rw [ho'] at ho
      cases ho
      exact hall e he hb
    · exact hL j o ho (ih _ (by omega) j rfl (by omega)) e he hb
/-- What is listed is there, with all that it comes behind. -/
structure Listed (ops : Array Oper) (L : Array Bool) : Prop where
  down : Down ops L
  there : ∀ k, L.getD k false = true → ∃ o, ops[k]? = some o
theorem Listed.set {L : Array Bool} (h : Listed ops L) {j : Nat} (hj : j ∈ Region.ready .any ops L) : Listed ops (L.setIfInBounds j true) := by
  refine ⟨h.down.set hj, fun k hk => ?_⟩
  by_cases hkj : k = j
  · subst hkj
    obtain ⟨_, o, ho, _⟩ := mem_ready.1 hj
    exact ⟨o, ho⟩
  · have : (L.setIfInBounds j true).getD k false = L.getD k false := getD_set_ne false (Ne.symm hkj)
    exact h.there k (this ▸ hk)
theorem Listed.none (n : Nat) : Listed ops (Array.replicate n false) := by
  refine ⟨down_none n, fun k h => ?_⟩
  rw [Array.getD_eq_getD_getElem?, Array.getElem?_replicate] at h
  split at h <;> cases h
theorem anyS_first {D : World → Prop} {m : Nat} {Q : Act → World → Prop} {i : Nat} {oi : Oper} {v : Value} (hd : domOkS ops m = true) (hiz : i < m) (hi : ops[i]? = some oi) (hsel : ∀ (j : Nat) (o : Oper) cs b, ops[j]? = some o → o.op ≠ .select cs b) :
    ∀ (fuel : Nat) (listed : Array Bool) (a : Act) (w : World), D w → Listed ops listed →
      (∀ j oj, ops[j]? = some oj → j ≠ i → listed.getD j true = false → (∀ e ∈ oj.after, Region.binds .any e = true → e.on ≠ i) → oi.apart ops oj = true) →
      i ∈ Region.ready .any ops listed → YieldsD P ops D oi v a →
      anyS P ops D m Q fuel (listed.setIfInBounds i true) (a.put oi.dst v) w → anyS P ops D m Q (fuel + 1) listed a w := by
  intro fuel
  induction fuel with
  | zero =>
    intro listed a w hDw _ _ hr hy H
    refine ⟨fun h => (by rw [h] at hr; cases hr), fun j hj => ?_⟩
    by_cases hji : j = i
    · subst hji; exact hy.wpOp hi hDw ⟨.inr hDw, H⟩
    · have := ready_mono hj hji
      rw [H.1] at this
      cases this
  | succ fuel ih =>
    intro listed a w hDw hdn hfree hr hy H
    refine ⟨fun h => (by rw [h] at hr; cases hr), fun j hj => ?_⟩
    by_cases hji : j = i
    · subst hji; exact hy.wpOp hi hDw ⟨.inr hDw, H⟩
    · have hjz : ¬ m ≤ j := fun h => by
        have h2 : Due ops listed j := (mem_ready.1 hj).2
        have h1 := domS_all hd hdn.down (h2.down hd hdn.down hdn.there j h) _ i rfl hiz
        have h0 := getD_ff (mem_ready.1 hr).1
        rw [h1] at h0
        cases h0
      have h1 := H.2 j (ready_mono hj hji)
      obtain ⟨hjun, oj, hoj, hall⟩ := mem_ready.1 hj
      have hnot : ∀ e ∈ oj.after, Region.binds .any e = true → e.on ≠ i := fun e he hb heq => by
        have h1 := hall e he hb
        have h0 := (mem_ready.1 hr).1
        rw [heq] at h1
        rw [getD_ff h0] at h1
        cases h1
      have h2 := wpOp_putD hoj (hfree j oj hoj hji hjun hnot) (fun cs b => hsel i oi cs b hi) (fun cs b => hsel j oj cs b hoj) hy h1
      have hfree' : ∀ k ok, ops[k]? = some ok → k ≠ i → (listed.setIfInBounds j true).getD k true = false →
          (∀ e ∈ ok.after, Region.binds .any e = true → e.on ≠ i) → oi.apart ops ok = true := fun k ok hk hki hun hno => by
        refine hfree k ok hk hki ?_ hno
        by_cases hjk : j = k
        · subst hjk; exact hjun
        · rw [getD_set_ne true hjk] at hun; exact hun
      refine wpOp_mono (fun a' w' h3 => ?_) h2
      have hDw' : D w' := h3.2.1.resolve_left hjz
      refine ⟨.inr hDw', ih (listed.setIfInBounds j true) a' w' hDw' (hdn.set hj) hfree' (ready_mono hr (Ne.symm hji)) h3.1 ?_⟩
      rw [Array.setIfInBounds_comm _ _ hji]
      exact h3.2.2
def planOkS (ops : Array Oper) (m : Nat) (k2 : Plan) : Nat → Array Bool → Plan → Bool
  | n, listed, .nil => headIn m listed && planOk ops n listed k2
  | n + 1, listed, .q i k => Nat.blt i m && Region.free .any ops listed i && (Region.ready .any ops listed).contains i && planOkS ops m k2 n (listed.setIfInBounds i true) k
  | n + 1, listed, .e i k => (Region.ready .any ops listed == [i]) && planOkS ops m k2 n (listed.setIfInBounds i true) k
  | n + 1, listed, .two i j k h => (Region.ready .any ops listed == [i, j]) && planOkS ops m k2 n (listed.setIfInBounds i true) k && planOkS ops m k2 n (listed.setIfInBounds j true) h
  | 0, _, _ => false
/-- What is to be shown ahead of a region's other part. -/
def RestOf (P : Program) (ops : Array Oper) (k2 : Plan) (Q : Exit → Act → World → Prop) : Exit → Act → World → Prop := fun _ a w => ∃ D : World → Prop, D w ∧ planW P ops (Q .normal) k2 D a w
theorem planW.anyS {Q : Exit → Act → World → Prop} {m : Nat} {k2 : Plan} (hs : Region.noSelect ops = true) (hd : domOkS ops m = true) : ∀ (n : Nat) (ix : Plan) (D : World → Prop) (listed : Array Bool) (a : Act) (w : World), planOkS ops m k2 n listed ix = true → D w → Listed ops listed →
    planW P ops (RestOf P ops k2 Q .normal) ix D a w → Proofs.Ytiaeochlepkleaa.anyS P ops D m (Q .normal) n listed a w
  | n, .nil, D, listed, a, w, hok, hD, hdn, ⟨D2, h1, h2⟩ => by
    unfold planOkS at hok
    simp only [Bool.and_eq_true] at hok
    exact anyD.toS _ _ _ _ hok.1 (planW.anyD hs n k2 D2 _ _ _ hok.2 h1 h2)
  | n + 1, .q i ix, D, listed, a, w, hok, hD, hdn, ⟨o, v, hi, hy, h⟩ => by
    simp only [planOkS, Bool.and_eq_true, Nat.blt_eq] at hok
    have hrd : i ∈ Region.ready .any ops listed := by simpa using hok.1.2
    exact anyS_first hd hok.1.1.1 hi (Region.noSelect_spec hs) n listed a w hD hdn (Region.free_spec hi hok.1.1.2) hrd hy (planW.anyS hs hd n ix D _ _ _ hok.2 hD (hdn.set hrd) h)
  | n + 1, .e i ix, D, listed, a, w, hok, hD, hdn, h => by
    simp only [planOkS, Bool.and_eq_true, beq_iff_eq] at hok
    refine ⟨fun h0 => (by rw [hok.1] at h0; cases h0), fun j hj => ?_⟩
    have hj0 := hj
    rw [hok.1] at hj
    simp only [List.mem_singleton] at hj
    subst hj
    exact wpOp_mono (fun a' w' ⟨D', hD', hw', h'⟩ => ⟨.inr (hD' _ hw'), anyS.mono hD' _ _ _ _ (planW.anyS hs hd n ix D' _ a' w' hok.2 hw' (hdn.set hj0) h')⟩) h
  | n + 1, .two i j k r, D, listed, a, w, hok, hD, hdn, h => by
    simp only [planOkS, Bool.and_eq_true, beq_iff_eq] at hok
    refine ⟨fun h0 => (by rw [hok.1.1] at h0; cases h0), fun q hq => ?_⟩
    have hq0 := hq
    rw [hok.1.1] at hq
    simp only [List.mem_cons, List.not_mem_nil, or_false] at hq
    rcases hq with rfl | rfl
    · exact wpOp_mono (fun a' w' ⟨D', hD', hw', h'⟩ => ⟨.inr (hD' _ hw'), anyS.mono hD' _ _ _ _ (planW.anyS hs hd n k D' _ a' w' hok.1.2 hw' (hdn.set hq0) h')⟩) h.1
    · exact wpOp_mono (fun a' w' ⟨D', hD', hw', h'⟩ => ⟨.inr (hD' _ hw'), anyS.mono hD' _ _ _ _ (planW.anyS hs hd n r D' _ a' w' hok.2 hw' (hdn.set hq0) h')⟩) h.2
end
end Go.Proofs.Ytiaeochlepkleaa
namespace Go.Proofs.Ytiaeochlepkleaa.A
open Go.RowKit
section
variable {P : Program} {n : Nat} {W : Wd} {σ τ : Blks} {l : Slots} {X : List Nat} {x y : Operand} {d : Option Nat} {ty t t' e : TypeId} {pos : String} {aft : Array Edge} {g : Option (Nat × Bool)} {A : Abs} {tab : List (Nat × TI)} {ops : Array Oper} {Q : Exit → Act → World → Prop} {v : Value} {xs : List (List Abs)} {s q : Nat} {a b : Int}
theorem SE.rest {k2 : Plan} (X : List Nat) (h : SX P ops k2 X (St n W σ l) Q) : SE .normal (St n W σ l) (RestOf P ops k2 Q) := fun a w hs => ⟨fun w' => Ext X w w', Ext.refl w, h a w hs⟩
end
end Go.Proofs.Ytiaeochlepkleaa.A
/-
  The second engine: parts of texts; texts gone through letter by letter.
-/
namespace Go.Proofs.Ytiaeochlepkleaa.A
open Go.RowKit

section
variable {P : Program} {n : Nat} {W : Wd} {σ τ : Blks} {l : Slots} {X : List Nat} {x y z : Operand} {d : Option Nat} {ty t : TypeId} {pos : String} {aft : Array Edge} {g : Option (Nat × Bool)} {s : ByteArray} {k k' : IntKind} {r r' : Int} {q q' b p : Nat}
end
/-! ### Texts as rows of bytes -/
abbrev tx (s : ByteArray) : List UInt8 := s.data.toList
theorem tx_inj {s r : ByteArray} (h : tx s = tx r) : s = r := by
  cases s; cases r
  simp [tx] at h
  simp [h]
end Go.Proofs.Ytiaeochlepkleaa.A
/-
  Ledgers, plain: letters and outcomes put in where they belong; what an entry does.
-/
namespace Go.Proofs.Ytiaeochlepkleaa.A
open Go.RowKit

/-! ### Rows with keys -/
section
variable {α : Type} {p eq gt : α → Bool} {x y : α}
/-- Put in ahead of the first one that p holds of, or in its stead; or at the end. -/
def putG (p : α → Bool) (r : Bool) (x : α) : List α → List α
  | [] => [x]
  | y :: ys => if p y = true then (if r = true then x :: ys else x :: y :: ys) else y :: putG p r x ys
/-- Put in for the one of its key, or where it belongs. -/
def withG (eq gt : α → Bool) (x : α) (l : List α) : List α := if l.any eq = true then putG eq true x l else putG gt false x l
end
/-! ### Letters and outcomes -/
/-- A text ahead of another one. -/
def ltB (a b : ByteArray) : Prop := a.data.toList < b.data.toList
instance (a b : ByteArray) : Decidable (ltB a b) := by unfold ltB; infer_instance
theorem ltB_irr (a : ByteArray) : ¬ ltB a a := List.lt_irrefl _
theorem ltB_trans {a b c : ByteArray} (h : ltB a b) (k : ltB b c) : ltB a c := List.lt_trans h k
theorem ltB_tri (a b : ByteArray) : ltB a b ∨ a = b ∨ ltB b a := by
  by_cases h : ltB a b
  · exact .inl h
  · by_cases k : ltB b a
    · exact .inr (.inr k)
    · exact .inr (.inl (tx_inj (List.le_antisymm (show ¬ b.data.toList < a.data.toList from k) h)))
section
variable {P : Program} {n : Nat} {W : Wd} {σ : Blks} {l : Slots} {X : List Nat} {x y : Operand} {d : Option Nat} {ty t t' : TypeId} {pos : String} {aft : Array Edge} {g : Option (Nat × Bool)} {s r : ByteArray}
end
abbrev st (s : ByteArray) : Abs := .v (.string s)
def ltrA (x : Ltr) : List Abs := [st x.name, int x.state, int x.amount, int x.due, st x.policy, st x.papers]
def entA (e : Ent) : List Abs := e.cells.map .v
abbrev ltrsA (l : List Ltr) : Abs := .sl 6 (l.map ltrA)
/-- A ledger. -/
structure Lg where
  seq : Int
  total : Int
  ls : List Ltr
  os : List Oc
def Lg.abs (l : Lg) : List Abs := [int l.seq, int l.total, ltrsA l.ls, outA l.os]
def Lg.zero : Lg := ⟨0, 0, [], []⟩
abbrev eqL (s : ByteArray) (x : Ltr) : Bool := decide (x.name = s)
abbrev gtL (s : ByteArray) (x : Ltr) : Bool := decide (ltB s x.name)
abbrev eqO (k : Int) (o : Oc) : Bool := decide (o.client = k)
abbrev gtO (k : Int) (o : Oc) : Bool := decide (k < o.client)
def Lg.find (l : Lg) (s : ByteArray) : Option Ltr := l.ls.find? (eqL s)
def Lg.last (l : Lg) (k : Int) : Option Oc := l.os.find? (eqO k)
/-- With an outcome. -/
def Lg.told (l : Lg) (o : Oc) : Lg := { l with os := withG (eqO o.client) (gtO o.client) o l.os }
def Lg.putL (l : Lg) (x : Ltr) : Lg := { l with ls := withG (eqL x.name) (gtL x.name) x l.ls }
/-- With a letter. -/
def Lg.with_ (l : Lg) (x : Ltr) : Lg × Int := if nameB x.name = false then (Lg.zero, 7) else if 16 < (l.putL x).ls.length then (Lg.zero, 11) else (l.putL x, 0)
def Lg.stale (l : Lg) (c : Core) : Bool := match l.last c.client with
  | some o => decide (c.stamp ≤ o.stamp)
  | none => false
def Lg.old (l : Lg) (s : ByteArray) : Ltr := (l.find s).getD Ltr.none
def Lg.known (l : Lg) (c : Core) : Int := if (l.find c.letter).isNone = true ∧ c.op ≠ 1 then 7 else 0
/-- The policy that counts. -/
def polB (x : Ltr) (c : Core) : ByteArray := if c.op = 1 then c.text else x.policy
def endorsedF (x : Ltr) (e : Ent) (n : Int) : Int := if (parseF (tx (polB x e.core)) n).2 ≠ 0 then 2 else if (parseF (tx (polB x e.core)) n).1.holds (BitVec.ofNat 32 e.mask) = false then 9 else 0
/-- The step, of a letter. -/
def Lg.stepped (l : Lg) (x : Ltr) (c : Core) : Lg × Int :=
  if (x.step c.op c.a c.b c.text).2 ≠ 0 then (l, (x.step c.op c.a c.b c.text).2)
  else if (l.with_ { (x.step c.op c.a c.b c.text).1 with name := c.letter }).2 ≠ 0 then (l, (l.with_ { (x.step c.op c.a c.b c.text).1 with name := c.letter }).2)
  else if c.op ≠ 7 then ((l.with_ { (x.step c.op c.a c.b c.text).1 with name := c.letter }).1, 0)
  else if (amtAdd l.total (x.step c.op c.a c.b c.text).1.amount).2 ≠ 0 then (l, 6)
  else ({ (l.with_ { (x.step c.op c.a c.b c.text).1 with name := c.letter }).1 with total := (amtAdd l.total (x.step c.op c.a c.b c.text).1.amount).1 }, 0)
/-- What comes of an entry that may be. -/
def Lg.res (l : Lg) (e : Ent) (n : Int) : Lg × Int :=
  if l.known e.core ≠ 0 then (l, l.known e.core) else if endorsedF (l.old e.core.letter) e n ≠ 0 then (l, endorsedF (l.old e.core.letter) e n) else l.stepped (l.old e.core.letter) e.core
/-- What an entry does. -/
def Lg.doF (l : Lg) (e : Ent) (n : Int) : Lg × Int :=
  if l.stale e.core = true then (l, 10) else if e.core.check n ≠ 0 then (l, e.core.check n) else ((l.res e n).1.told ⟨e.core.client, e.core.stamp, (l.res e n).2⟩, (l.res e n).2)
/-- All entries of a batch, one behind the other. -/
def Lg.goes (n : Int) (l : Lg) : List Ent → Lg × List Int
  | [] => (l, [])
  | e :: es => ((Lg.goes n (l.doF e n).1 es).1, (l.doF e n).2 :: (Lg.goes n (l.doF e n).1 es).2)
/-- Numbers as they come in. -/
structure Lg.Wf (l : Lg) : Prop where
  seq : i64ok l.seq
  total : i64ok l.total
  ls : ∀ x ∈ l.ls, x.Wf
end Go.Proofs.Ytiaeochlepkleaa.A
/-
  Layer 10: a step of a letter: the document; the laws.
-/
namespace Go.Proofs.Ytiaeochlepkleaa
open Go.RowKit

end Go.Proofs.Ytiaeochlepkleaa
/-
  What the layers below say, as contracts of the second engine: names, sums, steps of letters.
-/
namespace Go.Proofs.Ytiaeochlepkleaa.A
open Go.RowKit

section
variable {K : List Nat} {w : World} {vals : List Value}
end
end Go.Proofs.Ytiaeochlepkleaa.A
/-
  Pieces that are read alone.
-/
namespace Go.Proofs.Ytiaeochlepkleaa.A
open Go.RowKit

def Rds (σ : Blks) : Prop := ∀ x ∈ σ, (∃ b t cs, x = .rd b t cs) ∨ ∃ c, x = .rdpc c
theorem Rds.reads {σ τ : Blks} (h : Rds τ) (hs : ∀ x ∈ τ, x ∈ σ) : Reads σ τ := by
  induction τ with
  | nil => exact .nil
  | cons x τ ih =>
    have h1 := ih (fun y hy => h y (List.mem_cons_of_mem _ hy)) (fun y hy => hs y (List.mem_cons_of_mem _ hy))
    have hx := hs x List.mem_cons_self
    rcases h x List.mem_cons_self with ⟨b, t, cs, rfl⟩ | ⟨c, rfl⟩
    · exact .rd hx h1
    · exact .rdpc hx h1
end Go.Proofs.Ytiaeochlepkleaa.A
/-
  Policies: the program's formula, and the document's layer 8.
-/
namespace Go.Proofs.Ytiaeochlepkleaa.A
open Go.RowKit

section
variable {o a n deep : Int} {ks : List Frm} {s : Wo} {f : Frm}
end
end Go.Proofs.Ytiaeochlepkleaa.A
/-
  What an entry does, plain: step by step.
-/
namespace Go.Proofs.Ytiaeochlepkleaa.A
open Go.RowKit

section
variable {l : Lg} {x : Ltr} {e : Ent} {c : Core} {n : Int} {op a b : Int} {t : ByteArray}
end
end Go.Proofs.Ytiaeochlepkleaa.A
/-
  Maps of the program's own, as lists of pairs: look up, store, delete, length.
-/
namespace Go.Proofs.Ytiaeochlepkleaa
open Go.RowKit

section
variable {α β : Type} [DecidableEq α]
def aget (m : List (α × β)) (a : α) : Option β := (m.find? fun p => decide (p.1 = a)).map (·.2)
def aput (m : List (α × β)) (a : α) (b : β) : List (α × β) := if (aget m a).isSome then m.map fun p => if p.1 = a then (a, b) else p else m ++ [(a, b)]
def adel (m : List (α × β)) (a : α) : List (α × β) := m.filter fun p => decide (p.1 ≠ a)
theorem aget_isSome (m : List (α × β)) (a : α) : (aget m a).isSome = true ↔ a ∈ m.map (·.1) := by
  unfold aget
  rw [Option.isSome_map, List.find?_isSome]
  simp
theorem aget_none (m : List (α × β)) (a : α) : aget m a = none ↔ a ∉ m.map (·.1) := by
  rw [← aget_isSome]
  cases aget m a <;> simp
theorem aput_keys (m : List (α × β)) (a : α) (b : β) : (aput m a b).map (·.1) = if a ∈ m.map (·.1) then m.map (·.1) else m.map (·.1) ++ [a] := by
  unfold aput
  by_cases h : a ∈ m.map (·.1)
  · rw [if_pos ((aget_isSome m a).2 h), if_pos h, List.map_map]
    apply List.map_congr_left
    intro p _
    simp only [Function.comp]
    split
    · rename_i h1; exact h1.symm
    · rfl
  · rw [if_neg (fun hc => h ((aget_isSome m a).1 hc)), if_neg h]
    simp
theorem aput_nodup {m : List (α × β)} (hm : (m.map (·.1)).Nodup) (a : α) (b : β) : ((aput m a b).map (·.1)).Nodup := by
  rw [aput_keys]
  split
  · exact hm
  · rename_i h
    rw [List.nodup_append]
    exact ⟨hm, by simp, by intro x hx y hy; simp at hy; subst hy; rintro rfl; exact h hx⟩
theorem aget_aput (m : List (α × β)) (a c : α) (b : β) : aget (aput m a b) c = if c = a then some b else aget m c := by
  unfold aput
  by_cases h : (aget m a).isSome = true
  · rw [if_pos h]
    have hmap : ∀ (m : List (α × β)), ((m.map fun p => if p.1 = a then (a, b) else p).find? fun p => decide (p.1 = c)).map (·.2) = if c = a then (if a ∈ m.map (·.1) then some b else none) else aget m c := by
      intro m
      induction m with
      | nil => simp [aget]
      | cons p m ih =>
        simp only [List.map_cons, List.find?_cons]
        by_cases hp : p.1 = a
        · rw [if_pos hp]
          by_cases hc : c = a
          · subst hc; simp [hp]
          · have hac : ¬ a = c := fun h => hc h.symm
            simp only [hac, decide_false, if_neg hc]
            rw [ih, if_neg hc]
            unfold aget
            simp [hp, hac]
        · rw [if_neg hp]
          by_cases hpc : p.1 = c
          · have hca : ¬ c = a := fun h => hp (hpc.trans h)
            simp [hpc, hca, aget]
          · simp only [hpc, decide_false]
            rw [ih]
            by_cases hca : c = a
            · subst hca
              rw [if_pos rfl, if_pos rfl]
              have : (c ∈ p.1 :: m.map (·.1)) ↔ c ∈ m.map (·.1) := by
                simp only [List.mem_cons]
                constructor
                · rintro (h1 | h1)
                  · exact absurd h1.symm hp
                  · exact h1
                · exact Or.inr
              by_cases hin : c ∈ m.map (·.1)
              · rw [if_pos hin, if_pos (this.2 hin)]
              · rw [if_neg hin, if_neg (fun hh => hin (this.1 hh))]
            · rw [if_neg hca, if_neg hca]
              unfold aget
              simp [hpc]
    have h0 := hmap m
    rw [if_pos ((aget_isSome m a).1 h)] at h0
    exact h0
  · rw [if_neg h]
    unfold aget
    rw [List.find?_append]
    by_cases hc : c = a
    · subst hc
      have hn : aget m c = none := by cases hg : aget m c <;> simp_all
      have hf : (m.find? fun p => decide (p.1 = c)) = none := by
        unfold aget at hn
        simpa using hn
      rw [hf]
      simp
    · have hac : ¬ a = c := fun h => hc h.symm
      simp [hac, hc]
end

/-- What the laws ask of a key type and of how keys stand in it. -/
structure KeyFit {α : Type} (P : Program) (k : TypeId) (K : α → Value) (Good : α → Prop) : Prop where
  keyed : Maps.Keyed P k
  lit : ∀ a, Good a → ∃ l, keyOf P k (K a) = some l
  inj : ∀ a b, Good a → Good b → K a = K b → a = b

/-- Block b is a map that holds the pairs m. -/
def MapOf {α β : Type} (w : World) (b : Nat) (K : α → Value) (V : β → Value) (Good : α → Prop) (m : List (α × β)) : Prop :=
  ∃ es clock, w.heap[b]? = some (.map es clock) ∧ es.toList.map (fun e => (e.key, e.val)) = m.map (fun p => (K p.1, V p.2)) ∧ (m.map (·.1)).Nodup ∧ (∀ p ∈ m, Good p.1) ∧
    (∀ e ∈ es.toList, e.born < clock) ∧ (es.toList.map (·.born)).Nodup

section
variable {α β : Type} {P : Program} {w w' : World} {b : Nat} {k e t : TypeId} {K : α → Value} {V : β → Value} {Good : α → Prop} {m : List (α × β)}

theorem MapOf.lt (h : MapOf w b K V Good m) : b < w.heap.size := by
  obtain ⟨es, clock, hb, _⟩ := h
  rcases Nat.lt_or_ge b w.heap.size with hlt | hge
  · exact hlt
  · rw [Array.getElem?_eq_none hge] at hb; cases hb
theorem MapOf.ext {F : List Nat} (h : MapOf w b K V Good m) (hx : Ext F w w') (hb : b ∉ F) : MapOf w' b K V Good m := by
  have hl := h.lt
  obtain ⟨es, clock, h1, h2⟩ := h
  exact ⟨es, clock, (hx.block b hl hb).trans h1, h2⟩
theorem MapOf.new (w : World) : MapOf (w.alloc (.map #[] 0)) w.heap.size K V Good [] :=
  ⟨#[], 0, heap_alloc_new w _, rfl, by simp, by simp, by simp, by simp⟩
theorem MapOf.alloc (h : MapOf w b K V Good m) (o : Obj) : MapOf (w.alloc o) b K V Good m := h.ext ((Ext.refl (F := []) _).alloc _) (by simp)
theorem MapOf.nodup (h : MapOf w b K V Good m) : (m.map (·.1)).Nodup := by obtain ⟨_, _, _, _, h, _⟩ := h; exact h
theorem MapOf.good (h : MapOf w b K V Good m) : ∀ p ∈ m, Good p.1 := by obtain ⟨_, _, _, _, _, h, _⟩ := h; exact h

theorem map_entry {es : List MapEntry} (he : es.map (fun e => (e.key, e.val)) = m.map (fun p => (K p.1, V p.2))) {j : Nat} {x : MapEntry} (hx : es[j]? = some x) : ∃ p, m[j]? = some p ∧ x.key = K p.1 ∧ x.val = V p.2 := by
  have h1 : (es.map (fun e => (e.key, e.val)))[j]? = some (x.key, x.val) := by rw [List.getElem?_map, hx]; rfl
  rw [he, List.getElem?_map] at h1
  cases hm : m[j]? with
  | none => rw [hm] at h1; cases h1
  | some p =>
    rw [hm] at h1
    simp at h1
    exact ⟨p, rfl, h1.1.symm, h1.2.symm⟩

variable [DecidableEq α]
/-- Where the key is found. -/
theorem find_run (kf : KeyFit P k K Good) {es : List MapEntry} (he : es.map (fun e => (e.key, e.val)) = m.map (fun p => (K p.1, V p.2))) (hg : ∀ p ∈ m, Good p.1) (hnd : (m.map (·.1)).Nodup) {a : α} (ha : Good a) (w : World) :
    (aget m a = none ∧ (Instr.findKey k (K a) es).run P w = .ok none w) ∨
    ∃ j v, m[j]? = some (a, v) ∧ aget m a = some v ∧ (Instr.findKey k (K a) es).run P w = .ok (some (j, V v)) w := by
  obtain ⟨l, hl⟩ := kf.lit a ha
  have hall : ∀ x ∈ es, ∃ l, keyOf P k x.key = some l := by
    intro x hx
    obtain ⟨j, hj⟩ := List.getElem?_of_mem hx
    obtain ⟨p, hp, hk, _⟩ := map_entry he hj
    rw [hk]
    exact kf.lit _ (hg p (List.mem_of_getElem? hp))
  rcases kf.keyed.find w hl es hall with ⟨hrun, hne⟩ | ⟨j, x, hrun, hj, hk⟩
  · refine .inl ⟨?_, hrun⟩
    rw [aget_none]
    intro hin
    simp only [List.mem_map] at hin
    obtain ⟨p, hp, rfl⟩ := hin
    obtain ⟨j, hj⟩ := List.getElem?_of_mem hp
    have h1 : (m.map (fun p => (K p.1, V p.2)))[j]? = some (K p.1, V p.2) := by rw [List.getElem?_map, hj]; rfl
    rw [← he, List.getElem?_map] at h1
    cases hx : es[j]? with
    | none => rw [hx] at h1; cases h1
    | some x =>
      rw [hx] at h1
      simp at h1
      exact hne x (List.mem_of_getElem? hx) h1.1
  · obtain ⟨p, hp, hk2, hv⟩ := map_entry he hj
    have hpa : p.1 = a := kf.inj _ _ (hg p (List.mem_of_getElem? hp)) ha (hk2.symm.trans hk)
    obtain ⟨pa, pv⟩ := p
    dsimp only at hpa hv
    subst hpa
    refine .inr ⟨j, pv, hp, ?_, by rw [← hv]; exact hrun⟩
    unfold aget
    have hfind : m.find? (fun p => decide (p.1 = pa)) = some (pa, pv) := by
      rw [List.find?_eq_some_iff_append]
      refine ⟨by simp, ?_⟩
      have hjl := (List.getElem?_eq_some_iff.1 hp)
      obtain ⟨hjl, hje⟩ := hjl
      refine ⟨m.take j, m.drop (j + 1), ?_, ?_⟩
      · rw [← hje, List.getElem_cons_drop, List.take_append_drop]
      · intro q hq
        simp only [Bool.not_eq_true', decide_eq_false_iff_not]
        intro hqa
        obtain ⟨i, hi⟩ := List.getElem?_of_mem hq
        rw [List.getElem?_take] at hi
        split at hi
        · rename_i hij
          have h1 : (m.map (·.1))[i]? = some pa := by rw [List.getElem?_map, hi]; simp [hqa]
          have h2 : (m.map (·.1))[j]? = some pa := by rw [List.getElem?_map, hp]; rfl
          have hil : i < (m.map (·.1)).length := (List.getElem?_eq_some_iff.1 h1).1
          have := (List.getElem?_inj hil hnd).1 (h1.trans h2.symm)
          omega
        · cases hi
    rw [hfind]
    rfl

theorem MapOf.look_run (h : MapOf w b K V Good m) (kf : KeyFit P k K Good) (ht : P.underlying t = some (.map k e)) {z : Value} (hz : (zeroValue e).run P w = .ok z w) {a : α} (ha : Good a) (c : Bool) :
    (Instr.lookup t (.map (some b)) (K a) c).run P w = .ok (if c then .tuple #[((aget m a).map V).getD z, .bool (aget m a).isSome] else ((aget m a).map V).getD z) w := by
  obtain ⟨es, clock, hb, he, hnd, hg, _⟩ := h
  obtain ⟨l, hl⟩ := kf.lit a ha
  have hgo : (getObj b).run P w = .ok (.map es clock) w := by simp [getObj, Sem.run, hb]
  simp only [Instr.lookup, Sem.run_bind, run_underlying ht, Result.andThen_ok, Sem.run_pure, hgo, kf.keyed.check w es.isEmpty hl]
  rcases find_run kf he hg hnd ha w with ⟨h1, h2⟩ | ⟨j, v, _, h1, h2⟩
  · rw [h1, h2]
    cases c <;> simp [hz]
  · rw [h1, h2]
    cases c <;> simp

theorem Ext.setMap {b : Nat} {es es' : Array MapEntry} {clock clock' : Nat} (_hb : w.heap[b]? = some (.map es clock)) : Ext [b] w { w with heap := w.heap.setIfInBounds b (.map es' clock') } :=
  ⟨rfl, rfl, rfl, by simp, fun k _ hn => by
    have : b ≠ k := fun h => hn (by simp [h])
    simp [this]⟩
theorem heap_setMap {b : Nat} {es es' : Array MapEntry} {clock clock' : Nat} (hb : w.heap[b]? = some (.map es clock)) : ({ w with heap := w.heap.setIfInBounds b (.map es' clock') } : World).heap[b]? = some (.map es' clock') := by
  have hlt : b < w.heap.size := by
    rcases Nat.lt_or_ge b w.heap.size with hlt | hge
    · exact hlt
    · rw [Array.getElem?_eq_none hge] at hb; cases hb
  simp [hlt]
theorem run_getMap {b : Nat} {es : Array MapEntry} {clock : Nat} (hb : w.heap[b]? = some (.map es clock)) : (getObj b).run P w = .ok (.map es clock) w := by simp [getObj, Sem.run, hb]
theorem run_setMap {b : Nat} {es es' : Array MapEntry} {clock clock' : Nat} (hb : w.heap[b]? = some (.map es clock)) : (setObj b (.map es' clock')).run P w = .ok () { w with heap := w.heap.setIfInBounds b (.map es' clock') } := by simp [setObj, Sem.run, hb]

theorem aput_at {m : List (α × β)} (hnd : (m.map (·.1)).Nodup) {j : Nat} {a : α} {v v' : β} (hj : m[j]? = some (a, v)) : aput m a v' = m.set j (a, v') := by
  have hin : (aget m a).isSome = true := (aget_isSome m a).2 (List.mem_map.2 ⟨_, List.mem_of_getElem? hj, rfl⟩)
  unfold aput
  rw [if_pos hin]
  apply List.ext_getElem?
  intro i
  rw [List.getElem?_map, List.getElem?_set]
  have hjl : j < m.length := (List.getElem?_eq_some_iff.1 hj).1
  by_cases hij : j = i
  · subst hij
    rw [if_pos rfl, if_pos hjl, hj]
    simp
  · rw [if_neg hij]
    cases hi : m[i]? with
    | none => rfl
    | some p =>
      simp only [Option.map_some, Option.some.injEq]
      rw [if_neg]
      intro hpa
      have h1 : (m.map (·.1))[i]? = some a := by rw [List.getElem?_map, hi]; simp [hpa]
      have h2 : (m.map (·.1))[j]? = some a := by rw [List.getElem?_map, hj]; rfl
      have hil : i < (m.map (·.1)).length := (List.getElem?_eq_some_iff.1 h1).1
      exact hij ((List.getElem?_inj hil hnd).1 (h1.trans h2.symm)).symm

theorem MapOf.put_run (h : MapOf w b K V Good m) (kf : KeyFit P k K Good) (ht : P.underlying t = some (.map k e)) {a : α} (ha : Good a) (v : β) :
    ∃ w', (Instr.mapUpdate t (.map (some b)) (K a) (V v)).run P w = .ok () w' ∧ MapOf w' b K V Good (aput m a v) ∧ Ext [b] w w' := by
  obtain ⟨es, clock, hb, he, hnd, hg, hborn, hbnd⟩ := h
  obtain ⟨l, hl⟩ := kf.lit a ha
  rcases find_run kf he hg hnd ha w with ⟨h1, h2⟩ | ⟨j, u, hj, h1, h2⟩
  · refine ⟨{ w with heap := w.heap.setIfInBounds b (.map (es.push { key := K a, val := V v, born := clock }) (clock + 1)) }, ?_, ⟨_, _, heap_setMap hb, ?_, aput_nodup hnd a v, ?_, ?_, ?_⟩, Ext.setMap hb⟩
    · simp only [Instr.mapUpdate, Sem.run_bind, run_underlying ht, Result.andThen_ok, run_getMap hb, kf.keyed.check w false hl, h2, run_setMap hb]
    · rw [Array.toList_push, List.map_append, he]
      unfold aput
      rw [if_neg (by rw [h1]; simp)]
      simp
    · intro p hp
      unfold aput at hp
      rw [if_neg (by rw [h1]; simp)] at hp
      simp only [List.mem_append, List.mem_singleton] at hp
      rcases hp with hp | rfl
      · exact hg p hp
      · exact ha
    · intro x hx
      rw [Array.toList_push, List.mem_append, List.mem_singleton] at hx
      rcases hx with hx | rfl
      · have := hborn x hx; omega
      · exact Nat.lt_succ_self _
    · rw [Array.toList_push, List.map_append, List.nodup_append]
      refine ⟨hbnd, by simp, ?_⟩
      intro x hx y hy
      simp at hy
      subst hy
      simp only [List.mem_map] at hx
      obtain ⟨z, hz, rfl⟩ := hx
      have := hborn z hz
      omega
  · have hjl : j < es.toList.length := by
      have h3 := congrArg List.length he
      simp only [List.length_map] at h3
      rw [h3]
      exact (List.getElem?_eq_some_iff.1 hj).1
    have hk : (es[j]?).map (·.key) = some (K a) := by
      rw [← Array.getElem?_toList]
      have h3 : (es.toList.map (fun e => (e.key, e.val)))[j]? = some (K a, V u) := by rw [he, List.getElem?_map, hj]; rfl
      rw [List.getElem?_map] at h3
      cases hx : es.toList[j]? with
      | none => rw [hx] at h3; cases h3
      | some x => rw [hx] at h3; simp at h3; simp [h3.1]
    have hmod : (es.modify j fun e => { e with key := K a, val := V v }).toList = es.toList.modify j fun e => { e with key := K a, val := V v } := by simp
    refine ⟨{ w with heap := w.heap.setIfInBounds b (.map (es.modify j fun e => { e with key := K a, val := V v }) clock) }, ?_, ⟨_, _, heap_setMap hb, ?_, aput_nodup hnd a v, ?_, ?_, ?_⟩, Ext.setMap hb⟩
    · simp only [Instr.mapUpdate, Sem.run_bind, run_underlying ht, Result.andThen_ok, run_getMap hb, kf.keyed.check w false hl, h2, hk, Option.getD_some, kf.keyed.stays w hl, run_setMap hb]
    · rw [hmod, aput_at hnd hj]
      apply List.ext_getElem?
      intro i
      have hei : (es.toList.map (fun e => (e.key, e.val)))[i]? = (m.map (fun p => (K p.1, V p.2)))[i]? := by rw [he]
      rw [List.getElem?_map, List.getElem?_map] at hei
      rw [List.getElem?_map, List.getElem?_map, List.getElem?_modify, List.getElem?_set]
      have hml : j < m.length := (List.getElem?_eq_some_iff.1 hj).1
      by_cases hij : j = i
      · subst hij
        rw [if_pos rfl, if_pos hml, List.getElem?_eq_getElem hjl]
        simp
      · rw [if_neg hij]
        simp only [if_neg hij]
        rw [← hei]
        cases es.toList[i]? <;> rfl
    · intro p hp
      have h4 : p.1 ∈ (aput m a v).map (·.1) := List.mem_map.2 ⟨p, hp, rfl⟩
      rw [aput_keys, if_pos (by rw [← aget_isSome, h1]; rfl)] at h4
      simp only [List.mem_map] at h4
      obtain ⟨q, hq, hqe⟩ := h4
      rw [← hqe]
      exact hg q hq
    · intro x hx
      rw [hmod] at hx
      obtain ⟨i, hi⟩ := List.getElem?_of_mem hx
      rw [List.getElem?_modify] at hi
      cases hx2 : es.toList[i]? with
      | none => rw [hx2] at hi; simp at hi
      | some y =>
        rw [hx2] at hi
        have := hborn y (List.mem_of_getElem? hx2)
        simp at hi
        rw [← hi]
        split <;> exact this
    · have hb2 : (es.toList.modify j fun e => { e with key := K a, val := V v }).map (·.born) = es.toList.map (·.born) := by
        apply List.ext_getElem?
        intro i
        rw [List.getElem?_map, List.getElem?_modify, List.getElem?_map]
        cases es.toList[i]? with
        | none => simp
        | some y => simp only [Option.map_eq_map, Option.map_some]; split <;> rfl
      rw [hmod, hb2]
      exact hbnd

omit [DecidableEq α] in
theorem MapOf.len_run (h : MapOf w b K V Good m) (ht : P.underlying t = some (.map k e)) (ty : TypeId) : (Builtin.len_ #[t] ty #[.map (some b)]).run P w = .ok (.int .i64 m.length) w := by
  obtain ⟨es, clock, hb, he, _⟩ := h
  have h3 := congrArg List.length he
  simp only [List.length_map, Array.length_toList] at h3
  simp [Builtin.len_, Sem.run_bind, run_underlying ht, Result.andThen_ok, run_getMap hb, goInt, h3]
end

section
variable {α β : Type} [DecidableEq α] {P : Program} {w : World} {b : Nat} {k e : TypeId} {K : α → Value} {V : β → Value} {Good : α → Prop} {m : List (α × β)}
variable {ops : Array Oper} {rest : List Oper} {o : Oper} {a : Act} {Q : Exit → Act → World → Prop}
end
end Go.Proofs.Ytiaeochlepkleaa
/-
  The second engine: maps of plain keys and values as pieces of memory.
-/
namespace Go.Proofs.Ytiaeochlepkleaa.A
open Go.RowKit

theorem map_same {α β : Type} {w w' : World} {b : Nat} {K : α → Value} {V : β → Value} {Good : α → Prop} {m : List (α × β)} (h : MapOf w b K V Good m) (hb : w'.heap[b]? = w.heap[b]?) : MapOf w' b K V Good m := by
  obtain ⟨es, clock, h1, h2⟩ := h
  exact ⟨es, clock, hb.trans h1, h2⟩
/-- A map as a piece of memory. -/
def mapPc {α β : Type} (b : Nat) (K : α → Value) (V : β → Value) (Good : α → Prop) (m : List (α × β)) : Pc where
  ids := [b]
  p := fun _ w => MapOf w b K V Good m
  carry := fun _ _ _ _ _ hs h => map_same h (hs b (by simp))
  lt := fun _ _ h k hk => by simp at hk; subst hk; exact h.lt
abbrev mapV (b : Nat) : Abs := .v (.map (some b))
section
variable {P : Program} {n : Nat} {W : Wd} {σ τ : Blks} {l : Slots} {X : List Nat} {x y z : Operand} {d : Option Nat} {ty t k e : TypeId} {pos : String} {aft : Array Edge} {g : Option (Nat × Bool)} {b : Nat} {A B C : Abs}
variable {α β : Type} [DecidableEq α] {K : α → Value} {V : β → Value} {Good : α → Prop} {m : List (α × β)} {a : α} {v : β} {zv : Value}
/-- The tree stands for just this value. -/
def Abs.is (A : Abs) (u : Value) : Prop := (∀ K w x, rep K w A x → x = u) ∧ ∀ K w, rep K w A u
theorem is_v {u : Value} : (Abs.v u).is u := ⟨fun _ _ _ h => h, fun _ _ => rfl⟩
omit [DecidableEq α] in
theorem mem_map {w0 w : World} {F G : List Nat} {σ : Blks} (h : Mem w0 F G σ w) (hb : It.pc (mapPc b K V Good m) ∈ σ ∨ It.rdpc (mapPc b K V Good m) ∈ σ) : MapOf w b K V Good m := by
  rcases hb with hb | hb
  · exact h.hold _ hb
  · exact h.hold _ hb
/-- 'v, ok := m[k]'. -/
theorem Val.mapGetOk (kf : KeyFit P k K Good) (ht : P.underlying t = some (.map k e)) (hz : ∀ w, (zeroValue e).run P w = .ok zv w) (hx : look l x = some (mapV b)) (hb : It.pc (mapPc b K V Good m) ∈ σ ∨ It.rdpc (mapPc b K V Good m) ∈ σ) (hbX : b ∉ X)
    (hy : look l y = some A) (hA : A.is (K a)) (ha : Good a) (hC : C.is (((aget m a).map V).getD zv)) : Val P n W σ l X ⟨d, .lookup t x y true, ty, pos, aft, g⟩ (.tup [C, .v (.bool (aget m a).isSome)]) := fun ac w hs _ => by
  have h1 := mem_map hs.mem hb
  have e1 := hs.plain hx
  have e2 := hA.1 _ _ _ (hs.eval hy)
  refine ⟨.tuple #[((aget m a).map V).getD zv, .bool (aget m a).isSome], ⟨_, rfl, _, _, rfl, hC.2 _ _, _, _, rfl, rfl, rfl⟩, fun w' hw' => ?_⟩
  simp only [execOp, e1, e2, Sem.run_bind, (h1.ext hw' hbX).look_run kf ht (hz w') ha true, if_true, Result.andThen_ok, Sem.run_pure]
/-- 'm[k]'. -/
theorem Val.mapGet (kf : KeyFit P k K Good) (ht : P.underlying t = some (.map k e)) (hz : ∀ w, (zeroValue e).run P w = .ok zv w) (hx : look l x = some (mapV b)) (hb : It.pc (mapPc b K V Good m) ∈ σ ∨ It.rdpc (mapPc b K V Good m) ∈ σ) (hbX : b ∉ X)
    (hy : look l y = some A) (hA : A.is (K a)) (ha : Good a) (hC : C.is (((aget m a).map V).getD zv)) : Val P n W σ l X ⟨d, .lookup t x y false, ty, pos, aft, g⟩ C := fun ac w hs _ => by
  have h1 := mem_map hs.mem hb
  have e1 := hs.plain hx
  have e2 := hA.1 _ _ _ (hs.eval hy)
  refine ⟨((aget m a).map V).getD zv, hC.2 _ _, fun w' hw' => ?_⟩
  simp only [execOp, e1, e2, Sem.run_bind, (h1.ext hw' hbX).look_run kf ht (hz w') ha false, Bool.false_eq_true, if_false, Result.andThen_ok, Sem.run_pure]
omit [DecidableEq α] in
theorem Val.lenMap (ht : P.underlying t = some (.map k e)) (hx : look l x = some (mapV b)) (hb : It.pc (mapPc b K V Good m) ∈ σ ∨ It.rdpc (mapPc b K V Good m) ∈ σ) (hbX : b ∉ X) : Val P n W σ l X ⟨d, .call { callee := .builtin .len, args := #[x], argTypes := #[t] }, ty, pos, aft, g⟩ (.v (.int .i64 m.length)) := fun ac w hs _ => by
  have h1 : MapOf w b K V Good m := by
    rcases hb with hb | hb
    · exact hs.mem.hold _ hb
    · exact hs.mem.hold _ hb
  refine ⟨_, rfl, fun w' hw' => ?_⟩
  simp [execOp, resolve, invoke, builtin, hs.plain hx, (h1.ext hw' hbX).len_run ht ty, Result.andThen]
/-- 'm[k] = v'. -/
theorem Eff.mapPut {m' : List (α × β)} (kf : KeyFit P k K Good) (ht : P.underlying t = some (.map k e)) (hx : look l x = some (mapV b)) (hu : Upd (.pc (mapPc b K V Good m)) (.pc (mapPc b K V Good m')) σ τ) (hy : look l y = some A) (hA : A.is (K a)) (ha : Good a) (hz : look l z = some B) (hB : B.is (V v)) (hm : aput m a v = m') :
    Eff P n W σ l [b] ⟨d, .mapUpdate t x y z, ty, pos, aft, g⟩ fun u τ' => u = .v undef ∧ τ' = τ := fun ac w hs => by
  subst hm
  have h1 : MapOf w b K V Good m := hs.mem.hold _ hu.mem
  obtain ⟨w', hr, h2, h3⟩ := h1.put_run kf ht ha v
  have h4 := hs.mem.upd hu (h3.mono (by simp [It.mids, mapPc])) (by simp [It.mids, mapPc]) (fun k hk => .inl hk) rfl (fun _ => h2)
  refine ⟨_, w', _, _, ⟨rfl, rfl⟩, h3, rfl, h4.1, h4.2, .inr ⟨rfl, ?_⟩⟩
  simp only [execOp, hs.plain hx, hA.1 _ _ _ (hs.eval hy), hB.1 _ _ _ (hs.eval hz), Sem.run_bind, hr, Result.andThen_ok, Sem.run_pure]
omit [DecidableEq α] in
/-- 'map[K]V{}', 'make(map[K]V)'. -/
theorem Eff.makeMap {o : Op} (K : α → Value) (V : β → Value) (Good : α → Prop) (hrun : ∀ (ac : Act) (w : World), (execOp ac.eval ⟨d, o, ty, pos, aft, g⟩).run P w = .ok (.value (.map (some w.heap.size))) (w.alloc (.map #[] 0))) :
    Eff P n W σ l [] ⟨d, o, ty, pos, aft, g⟩ fun u τ' => ∃ b, u = mapV b ∧ τ' = .pc (mapPc b K V Good []) :: σ := fun ac w hs => by
  have hx : Ext [] w (w.alloc (.map #[] 0)) := (Ext.refl w).alloc _
  have h4 := hs.mem.new (y := .pc (mapPc w.heap.size K V Good [])) hx (by simp [It.mids, mapPc]) (by simp [It.mids, mapPc]) rfl (fun _ => MapOf.new w)
  exact ⟨_, _, _, _, ⟨w.heap.size, rfl, rfl⟩, hx, rfl, h4.1, h4.2, .inl (hrun ac w)⟩
end
end Go.Proofs.Ytiaeochlepkleaa.A
/-
  The second engine: pieces of memory put together to one, and taken apart.
-/
namespace Go.Proofs.Ytiaeochlepkleaa.A
open Go.RowKit

/-- A block, as a piece. -/
def blkP (b : Nat) (t : TypeId) (cs : List Abs) : Pc where
  ids := [b]
  p := fun K w => ∃ us, w.heap[b]? = some (row t us) ∧ reps K w cs us
  carry := fun K w K' w' hc hs ⟨us, h1, h2⟩ => ⟨us, (hs b (by simp)).trans h1, reps_carry hc _ _ h2⟩
  lt := fun K w ⟨us, h1, _⟩ k hk => by
    simp at hk
    subst hk
    exact heap_lt h1
/-- Many pieces as one. -/
def bigP (l : List Pc) : Pc where
  ids := l.flatMap Pc.ids
  p := fun K w => ∀ c ∈ l, c.p K w
  carry := fun K w K' w' hc hs h c hm => c.carry K w K' w' hc (fun k hk => hs k (List.mem_flatMap.2 ⟨c, hm, hk⟩)) (h c hm)
  lt := fun K w h k hk => by
    obtain ⟨c, hm, hk⟩ := List.mem_flatMap.1 hk
    exact c.lt K w (h c hm) k hk
section
variable {w0 w : World} {F G : List Nat} {α β xs ys : Blks}
/-- Pieces said otherwise; some may be let go. -/
theorem Mem.regroup {zs : List Nat} (hp : (mids xs).Perm (mids ys ++ zs)) (hr : ∀ y ∈ ys, y.rids = []) (hh : ∀ K, (∀ x ∈ xs, x.holds K w) → ∀ y ∈ ys, y.holds K w) (h : Mem w0 F G (α ++ (xs ++ β)) w) :
    Mem w0 F G (α ++ (ys ++ β)) w ∧ Carry (mids (α ++ (xs ++ β)) ++ G) w (mids (α ++ (ys ++ β)) ++ G) w := by
  have hsub : ∀ k ∈ mids ys, k ∈ mids xs := fun k hk => hp.mem_iff.2 (List.mem_append_left _ hk)
  refine h.step (Y := []) (Ext.refl w) (by simp) (fun k hk => ?_) (fun x hx => ?_) ?_ fun hc x hx => ?_
  · simp only [mids_append, List.mem_append] at hk ⊢
    rcases hk with hk | hk | hk
    · exact .inl (.inl hk)
    · exact .inl (.inr (.inl (hsub k hk)))
    · exact .inl (.inr (.inr hk))
  · simp only [List.mem_append] at hx
    rcases hx with hx | hx | hx
    · exact h.ro x (by simp [hx])
    · rw [hr x hx]; simp
    · exact h.ro x (by simp [hx])
  · have hn := h.nodup
    simp only [mids_append] at hn ⊢
    have h2 : (mids α ++ (mids xs ++ mids β)).Perm ((mids α ++ (mids ys ++ mids β)) ++ zs) := by
      rw [List.append_assoc, List.append_assoc]
      refine List.Perm.append_left _ ?_
      refine (hp.append_right _).trans ?_
      rw [List.append_assoc]
      exact List.Perm.append_left _ List.perm_append_comm
    exact (List.nodup_append.1 (h2.nodup_iff.1 hn)).1
  · simp only [List.mem_append] at hx
    rcases hx with hx | hx | hx
    · exact h.keep (Y := []) (Ext.refl w) hc (by simp [hx]) (by simp) (by simp)
    · exact hh _ (fun z hz => h.keep (Y := []) (Ext.refl w) hc (by simp [hz]) (by simp) (by simp)) x hx
    · exact h.keep (Y := []) (Ext.refl w) hc (by simp [hx]) (by simp) (by simp)
end
section
variable {P : Program} {n : Nat} {W : Wd} {σ τ : Blks} {l : Slots} {X : List Nat} {ops : Array Oper} {rest : List Oper} {Q : Exit → Act → World → Prop} {ix : Plan} {α β xs ys : Blks}
/-- One way to say pieces, and another one. -/
structure Re (xs ys : Blks) : Prop where
  ids : ∃ zs : List Nat, (mids xs).Perm (mids ys ++ zs)
  rd : ∀ y ∈ ys, y.rids = []
  hh : ∀ K w, (∀ x ∈ xs, x.holds K w) → ∀ y ∈ ys, y.holds K w
theorem St.re {a : Act} {w : World} (hr : Re xs ys) (hσ : σ = α ++ (xs ++ β)) (hτ : τ = α ++ (ys ++ β)) (h : St n W σ l a w) : St n W τ l a w := by
  subst hσ hτ
  obtain ⟨zs, hz⟩ := hr.ids
  have h1 := h.mem.regroup hz hr.rd (fun K => hr.hh K w)
  exact h.to h1.1 h1.2
theorem SC.re {c : Code} (α : Blks) {β : Blks} (hr : Re xs ys) (hσ : σ = α ++ (xs ++ β)) (k : SC P c (St n W (α ++ (ys ++ β)) l) Q) : SC P c (St n W σ l) Q := fun a w h => k a w (h.re hr hσ rfl)
theorem SL.re (α : Blks) {β : Blks} (hr : Re xs ys) (hσ : σ = α ++ (xs ++ β)) (k : SL P ops rest (St n W (α ++ (ys ++ β)) l) Q) : SL P ops rest (St n W σ l) Q := fun a w h => k a w (h.re hr hσ rfl)
theorem SX.re (α : Blks) {β : Blks} (hr : Re xs ys) (hσ : σ = α ++ (xs ++ β)) (k : SX P ops ix X (St n W (α ++ (ys ++ β)) l) Q) : SX P ops ix X (St n W σ l) Q := fun a w h => k a w (h.re hr hσ rfl)
theorem SE.re {ex : Exit} (α : Blks) {β : Blks} (hr : Re xs ys) (hσ : σ = α ++ (xs ++ β)) (k : SE ex (St n W (α ++ (ys ++ β)) l) Q) : SE ex (St n W σ l) Q := fun a w h => k a w (h.re hr hσ rfl)
end
theorem Re.refl {xs : Blks} (h : ∀ x ∈ xs, x.rids = []) : Re xs xs := ⟨⟨[], by simp⟩, h, fun _ _ h => h⟩
theorem Re.trans {xs ys zs : Blks} (h : Re xs ys) (k : Re ys zs) : Re xs zs where
  ids := by
    obtain ⟨a, ha⟩ := h.ids
    obtain ⟨b, hb⟩ := k.ids
    exact ⟨b ++ a, ha.trans ((hb.append_right a).trans (by rw [List.append_assoc]))⟩
  rd := k.rd
  hh := fun K w hx => k.hh K w (h.hh K w hx)
/-- One of many, taken out. -/
theorem Re.out {l1 l2 : List Pc} {c : Pc} : Re [.pc (bigP (l1 ++ c :: l2))] [.pc c, .pc (bigP (l1 ++ l2))] where
  ids := ⟨[], by
    simp only [mids, List.flatMap_cons, List.flatMap_nil, It.mids, bigP, List.flatMap_append, List.append_nil]
    exact List.perm_append_comm_assoc _ _ _⟩
  rd := by simp [It.rids]
  hh := fun K w h y hy => by
    have h1 : ∀ d ∈ l1 ++ c :: l2, d.p K w := h _ (List.mem_singleton.2 rfl)
    simp only [List.mem_cons, List.not_mem_nil, or_false] at hy
    rcases hy with rfl | rfl
    · exact h1 c (by simp)
    · intro d hd
      exact h1 d (by
        rcases List.mem_append.1 hd with hd | hd
        · simp [hd]
        · simp [hd])
/-- .. and put back. -/
theorem Re.back {l1 l2 : List Pc} {c : Pc} : Re [.pc c, .pc (bigP (l1 ++ l2))] [.pc (bigP (l1 ++ c :: l2))] where
  ids := ⟨[], by
    simp only [mids, List.flatMap_cons, List.flatMap_nil, It.mids, bigP, List.flatMap_append, List.append_nil]
    exact List.perm_append_comm_assoc _ _ _⟩
  rd := by simp [It.rids]
  hh := fun K w h y hy => by
    have h1 : c.p K w := h (.pc c) (by simp)
    have h2 : ∀ d ∈ l1 ++ l2, d.p K w := h (.pc (bigP (l1 ++ l2))) (by simp)
    rw [List.mem_singleton.1 hy]
    intro d hd
    simp only [List.mem_append, List.mem_cons] at hd
    rcases hd with hd | rfl | hd
    · exact h2 d (by simp [hd])
    · exact h1
    · exact h2 d (by simp [hd])
/-- Some of many are let go; or they stand in another order. -/
theorem Re.part {l l' : List Pc} (h : ∃ z, l.Perm (l' ++ z)) : Re [.pc (bigP l)] [.pc (bigP l')] where
  ids := by
    obtain ⟨z, hz⟩ := h
    refine ⟨z.flatMap Pc.ids, ?_⟩
    simp only [mids, List.flatMap_cons, List.flatMap_nil, It.mids, bigP, List.append_nil]
    rw [← List.flatMap_append]
    exact hz.flatMap_right _
  rd := by simp [It.rids]
  hh := fun K w h1 y hy => by
    obtain ⟨z, hz⟩ := h
    have h2 : ∀ d ∈ l, d.p K w := h1 _ (List.mem_singleton.2 rfl)
    rw [List.mem_singleton.1 hy]
    exact fun d hd => h2 d (hz.mem_iff.2 (List.mem_append_left _ hd))
/-- None, as one. -/
theorem Re.empty : Re [] [.pc (bigP [])] := ⟨⟨[], by simp [mids, It.mids, bigP]⟩, by simp [It.rids], fun K w _ y hy => by
  rw [List.mem_singleton.1 hy]
  intro d hd
  cases hd⟩
theorem Mem.re {w0 w : World} {F G : List Nat} {xs ys : Blks} (hr : Re xs ys) (h : Mem w0 F G xs w) : Mem w0 F G ys w ∧ Carry (mids xs ++ G) w (mids ys ++ G) w := by
  obtain ⟨zs, hz⟩ := hr.ids
  have h1 := Mem.regroup (α := []) (β := []) hz hr.rd (fun K => hr.hh K w) (by simpa using h)
  simpa using h1
end Go.Proofs.Ytiaeochlepkleaa.A
/-
  Maps of the program's own: an entry struck; an entry found or made, and then stored into; as pieces of memory.
-/
namespace Go.Proofs.Ytiaeochlepkleaa
open Go.RowKit
section
variable {α β : Type} [DecidableEq α] {P : Program} {w w' : World} {b : Nat} {k e t : TypeId} {K : α → Value} {V : β → Value} {Good : α → Prop} {m : List (α × β)}
theorem adel_none {m : List (α × β)} {a : α} (h : aget m a = none) : adel m a = m := by
  unfold adel
  rw [List.filter_eq_self]
  intro q hq
  simp only [decide_eq_true_eq]
  intro e
  rw [aget_none] at h
  exact h (e ▸ List.mem_map.2 ⟨q, hq, rfl⟩)
end
end Go.Proofs.Ytiaeochlepkleaa
namespace Go.Proofs.Ytiaeochlepkleaa.A
open Go.RowKit
section
variable {P : Program} {n : Nat} {W : Wd} {σ τ : Blks} {l : Slots} {X : List Nat} {x y z : Operand} {d : Option Nat} {ty t k e : TypeId} {pos : String} {aft : Array Edge} {g : Option (Nat × Bool)} {b s : Nat} {A B C : Abs}
variable {α β : Type} [DecidableEq α] {K : α → Value} {V : β → Value} {Good : α → Prop} {m : List (α × β)} {a : α} {v zv : β}
end
/-! ### Keys that are ints -/
abbrev intK (x : Int) : Value := .int .i64 x
abbrev intOk (x : Int) : Prop := InR .i64 x
theorem int_wf {x : Int} (h : intOk x) : (Lit.int .i64 x).wf = true := by
  simp only [InR, lo, hi] at h
  simp only [Lit.wf, Bool.and_eq_true, decide_eq_true_eq]
  exact ⟨by show (-9223372036854775808 : Int) ≤ _; omega, by show _ ≤ (9223372036854775807 : Int); omega⟩
theorem int_fit {P : Program} {k : TypeId} (hk : P.underlying k = some (.int .i64)) : KeyFit P k intK intOk where
  keyed := Maps.int_keyed hk
  lit a h := ⟨_, Maps.keyOf_int_mk hk (int_wf h)⟩
  inj a b _ _ h := by
    injection h
end Go.Proofs.Ytiaeochlepkleaa.A
/-
  Sums: what the program's rounds come to, as plain functions on words.
-/
namespace Go.Proofs.Ytiaeochlepkleaa.A
open Go.RowKit

abbrev bs (l : List UInt8) : List (List Abs) := l.map fun b => [Abs.v (bc b)]
def rot (x : Wo) (n : Nat) : Wo := x >>> n ||| x <<< (32 - n)
def mixW (x : Wo) (a b c : Nat) : Wo := rot x a ^^^ rot x b ^^^ rot x c
def byW (l : List UInt8) (i : Nat) : Wo := BitVec.ofNat 32 (l.getD i 0).toNat
def wordAt (l : List UInt8) (i : Nat) : Wo := byW l (4 * i + 0) <<< 24 ||| byW l (4 * i + 1) <<< 16 ||| byW l (4 * i + 2) <<< 8 ||| byW l (4 * i + 3)
def nextW (l : List Wo) (z : Nat) : Wo := l.getD z 0 + (rot (l.getD (z + 1) 0) 7 ^^^ rot (l.getD (z + 1) 0) 18 ^^^ l.getD (z + 1) 0 >>> 3) + l.getD (z + 9) 0 + (rot (l.getD (z + 14) 0) 17 ^^^ rot (l.getD (z + 14) 0) 19 ^^^ l.getD (z + 14) 0 >>> 10)
def sched0 (l : List UInt8) (k : Nat) : List Wo := (List.range k).map (wordAt l)
def grow (l : List Wo) : Nat → List Wo
  | 0 => l
  | k + 1 => grow l k ++ [nextW (grow l k) k]
def sched (l : List UInt8) : List Wo := grow (sched0 l 16) 48
def roundsL : List Wo := [0x428a2f98#32, 0x71374491#32, 0xb5c0fbcf#32, 0xe9b5dba5#32, 0x3956c25b#32, 0x59f111f1#32, 0x923f82a4#32, 0xab1c5ed5#32, 0xd807aa98#32, 0x12835b01#32, 0x243185be#32, 0x550c7dc3#32, 0x72be5d74#32, 0x80deb1fe#32, 0x9bdc06a7#32, 0xc19bf174#32, 0xe49b69c1#32, 0xefbe4786#32, 0x0fc19dc6#32, 0x240ca1cc#32, 0x2de92c6f#32, 0x4a7484aa#32, 0x5cb0a9dc#32, 0x76f988da#32, 0x983e5152#32, 0xa831c66d#32, 0xb00327c8#32, 0xbf597fc7#32, 0xc6e00bf3#32, 0xd5a79147#32, 0x06ca6351#32, 0x14292967#32, 0x27b70a85#32, 0x2e1b2138#32, 0x4d2c6dfc#32, 0x53380d13#32, 0x650a7354#32, 0x766a0abb#32, 0x81c2c92e#32, 0x92722c85#32, 0xa2bfe8a1#32, 0xa81a664b#32, 0xc24b8b70#32, 0xc76c51a3#32, 0xd192e819#32, 0xd6990624#32, 0xf40e3585#32, 0x106aa070#32, 0x19a4c116#32, 0x1e376c08#32, 0x2748774c#32, 0x34b0bcb5#32, 0x391c0cb3#32, 0x4ed8aa4a#32, 0x5b9cca4f#32, 0x682e6ff3#32, 0x748f82ee#32, 0x78a5636f#32, 0x84c87814#32, 0x8cc70208#32, 0x90befffa#32, 0xa4506ceb#32, 0xbef9a3f7#32, 0xc67178f2#32]
structure R8 where
  (a0 a1 a2 a3 e0 e1 e2 e3 : Wo)
def R8.a (r : R8) : List Wo := [r.a0, r.a1, r.a2, r.a3]
def R8.e (r : R8) : List Wo := [r.e0, r.e1, r.e2, r.e3]
def R8.l (r : R8) : List Wo := [r.a0, r.a1, r.a2, r.a3, r.e0, r.e1, r.e2, r.e3]
def firstR : R8 := ⟨0x6a09e667#32, 0xbb67ae85#32, 0x3c6ef372#32, 0xa54ff53a#32, 0x510e527f#32, 0x9b05688c#32, 0x1f83d9ab#32, 0x5be0cd19#32⟩
def t1W (r : R8) (k w : Wo) : Wo := r.e3 + mixW r.e0 6 11 25 + (r.e2 ^^^ (r.e0 &&& (r.e1 ^^^ r.e2))) + k + w
def t2W (r : R8) : Wo := mixW r.a0 2 13 22 + ((r.a0 &&& r.a1) ^^^ (r.a0 &&& r.a2) ^^^ (r.a1 &&& r.a2))
def rnd (r : R8) (k w : Wo) : R8 := ⟨t1W r k w + t2W r, r.a0, r.a1, r.a2, r.a3 + t1W r k w, r.e0, r.e1, r.e2⟩
def rnds (r : R8) (ws : List Wo) : Nat → R8
  | 0 => r
  | i + 1 => rnd (rnds r ws i) (roundsL.getD i 0) (ws.getD i 0)
def R8.add (r s : R8) : R8 := ⟨r.a0 + s.a0, r.a1 + s.a1, r.a2 + s.a2, r.a3 + s.a3, r.e0 + s.e0, r.e1 + s.e1, r.e2 + s.e2, r.e3 + s.e3⟩
def blockW (r : R8) (l : List UInt8) : R8 := r.add (rnds r (sched l) 64)
/-- So many blocks of a text. -/
def blocks (r : R8) (l : List UInt8) : Nat → R8
  | 0 => r
  | k + 1 => blockW (blocks r l k) (l.drop (64 * k))
def padded (l : List UInt8) (n : Nat) : List UInt8 := l ++ [128] ++ List.replicate ((119 - l.length) % 64) 0 ++ beBytes (n * 8) 8
def byteAt (ws : List Wo) (q : Nat) : UInt8 := UInt8.ofNat (ws.getD (q / 4) 0 >>> (24 - 8 * (q % 4))).toNat
def outN (ws : List Wo) (j : Nat) : List UInt8 := (List.range j).map (byteAt ws) ++ List.replicate (32 - j) 0
/-- The sum of what was taken in so far. -/
def finish (r : R8) (rest : List UInt8) (n : Nat) : List UInt8 := outN (blocks r (padded rest n) ((padded rest n).length / 64)).l 32
/-- A sum that is under way. -/
structure Sm where
  (r : R8) (rest : List UInt8) (n : Nat)
def Sm.new : Sm := ⟨firstR, [], 0⟩
def Sm.add (s : Sm) (l : List UInt8) : Sm := ⟨blocks s.r (s.rest ++ l) ((s.rest ++ l).length / 64), (s.rest ++ l).drop (64 * ((s.rest ++ l).length / 64)), s.n + l.length⟩
def Sm.sum (s : Sm) : List UInt8 := finish s.r s.rest s.n
def Sm.Ok (s : Sm) : Prop := s.rest.length < 64
end Go.Proofs.Ytiaeochlepkleaa.A
/-
  Sums: what the document's answer comes to, as plain functions; the same as the program's.
-/
namespace Go.Proofs.Ytiaeochlepkleaa.A
open Go.RowKit

section
variable {P : Program} {n : Nat} {W : Wd} {σ τ : Blks} {l : Slots} {X : List Nat} {x y z : Operand} {d : Option Nat} {ty t t' e : TypeId} {pos : String} {aft : Array Edge} {g : Option (Nat × Bool)} {k k' : IntKind} {a b : Int} {p q : Nat} {c : Wo}
end
/-! ### Constants -/
abbrev ws (l : List Wo) : List (List Abs) := l.map fun p => [u32 p]
end Go.Proofs.Ytiaeochlepkleaa.A
/-
  The second engine: slices of arrays in blocks; bytes mixed.
-/
namespace Go.Proofs.Ytiaeochlepkleaa.A
open Go.RowKit
section
variable {P : Program} {n : Nat} {W : Wd} {σ τ : Blks} {l : Slots} {X : List Nat} {x y z : Operand} {d : Option Nat} {ty t t' e : TypeId} {pos : String} {aft : Array Edge} {g : Option (Nat × Bool)} {A : Abs} {tab : List (Nat × TI)} {ops : Array Oper} {Q : Exit → Act → World → Prop} {k : IntKind}
end
/-! ### Rows of words -/
end Go.Proofs.Ytiaeochlepkleaa.A
/-
  The second engine: rows of the call's own, cut; 'clear'.
-/
namespace Go.Proofs.Ytiaeochlepkleaa.A
open Go.RowKit

section
variable {P : Program} {n : Nat} {W : Wd} {σ τ : Blks} {l : Slots} {X : List Nat} {x y z : Operand} {d : Option Nat} {ty t e e' : TypeId} {pos : String} {aft : Array Edge} {g : Option (Nat × Bool)} {v u : Value} {k : IntKind} {tab : List (Nat × TI)} {xs ys : List (List Abs)} {s q : Nat} {ops : Array Oper} {rest : List Oper} {Q : Exit → Act → World → Prop}
end
/-- Pieces that are read alone. -/
def RdAll (σ : Blks) : Prop := ∀ x ∈ σ, (∃ b t cs, x = .rd b t cs) ∨ ∃ c, x = .rdpc c
theorem RdAll.reads {σ τ : Blks} (h : RdAll τ) (hs : ∀ x ∈ τ, x ∈ σ) : Reads σ τ := by
  induction τ with
  | nil => exact .nil
  | cons x τ ih =>
    have h1 := ih (fun y hy => h y (List.mem_cons_of_mem _ hy)) (fun y hy => hs y (List.mem_cons_of_mem _ hy))
    have hx := hs x List.mem_cons_self
    rcases h x List.mem_cons_self with ⟨b, t, cs, rfl⟩ | ⟨c, rfl⟩
    · exact .rd hx h1
    · exact .rdpc hx h1
end Go.Proofs.Ytiaeochlepkleaa.A
/-
  The second engine: regions that draw and make memory of their own.
-/
namespace Go.Proofs.Ytiaeochlepkleaa.A
open Go.RowKit

section
variable {P : Program} {n : Nat} {W : Wd} {σ σ0 : Blks} {l : Slots} {X0 : List Nat} {ops : Array Oper} {Q : Exit → Act → World → Prop} {ix : Plan} {o : Oper}
end
/-- A block's cells said otherwise. -/
theorem Re.cast {b : Nat} {t : TypeId} {cs ds : List Abs} (h : Casts cs ds) : Re [.blk b t cs] [.blk b t ds] := ⟨⟨[], by simp [mids, It.mids]⟩, by simp [It.rids], fun K w hx y hy => by
  rw [List.mem_singleton.1 hy]
  obtain ⟨us, h1, h2⟩ := hx (.blk b t cs) (by simp)
  exact ⟨us, h1, h K w us h2⟩⟩
theorem Re.cons {xs ys : Blks} {x : It} (hx : x.rids = []) (h : Re xs ys) : Re (x :: xs) (x :: ys) where
  ids := by
    obtain ⟨a, ha⟩ := h.ids
    refine ⟨a, ?_⟩
    rw [mids_cons, mids_cons, List.append_assoc]
    exact List.Perm.append_left _ ha
  rd := fun y hy => by
    rcases List.mem_cons.1 hy with rfl | hy
    · exact hx
    · exact h.rd y hy
  hh := fun K w hk y hy => by
    rcases List.mem_cons.1 hy with rfl | hy
    · exact hk _ List.mem_cons_self
    · exact h.hh K w (fun z hz => hk z (List.mem_cons_of_mem _ hz)) y hy
theorem Re.perm {xs ys : Blks} (h : xs.Perm ys) (hr : ∀ x ∈ xs, x.rids = []) : Re xs ys := ⟨⟨[], by rw [List.append_nil]; exact mids_perm h⟩, fun y hy => hr y (h.mem_iff.2 hy), fun K w hx y hy => hx y (h.mem_iff.2 hy)⟩
end Go.Proofs.Ytiaeochlepkleaa.A
/-
  The second engine: what slices.Insert does with a row of the call's own: cut, grown, copied within.
-/
namespace Go.Proofs.Ytiaeochlepkleaa.A
open Go.RowKit

section
variable {P : Program} {n : Nat} {W : Wd} {σ τ : Blks} {l : Slots} {X : List Nat} {x y : Operand} {d : Option Nat} {ty t t' e e' : TypeId} {pos : String} {aft : Array Edge} {g : Option (Nat × Bool)} {v u : Value} {k : IntKind} {tab : List (Nat × TI)} {xs ys : List (List Abs)} {s q : Nat} {ops : Array Oper} {rest : List Oper} {Q : Exit → Act → World → Prop}
end
section
variable {xs js : List (List Abs)} {y : List Abs} {i : Nat}
end
end Go.Proofs.Ytiaeochlepkleaa.A
/-
  The second engine: 'make([]T, n)' as a row of one's own; texts in order.
-/
namespace Go.Proofs.Ytiaeochlepkleaa.A
open Go.RowKit

section
variable {P : Program} {n : Nat} {W : Wd} {σ τ : Blks} {l : Slots} {X : List Nat} {x y : Operand} {d : Option Nat} {ty t e : TypeId} {pos : String} {aft : Array Edge} {g : Option (Nat × Bool)} {tab : List (Nat × TI)} {k k' : IntKind} {r : Int} {m : Nat} {z : Value}
end
end Go.Proofs.Ytiaeochlepkleaa.A
