/-
  Packed out of the texts: A5, Rd, A6, A8, Open, OpenBytes, AOpen, A10, A11, A12, Frm, Trm, A13, A22, Maps, A9, A18, A15, Sum, Doc, A14, A16, A19.
-/
import Derived.Test.YthaahcdfnmfihaaDoorU02
import Derived.Deep.Slices
import Derived.Maps.Keyed
import Derived.Maps.OwnSet
/-
  The second engine: slices of rows, a call's begin and end, contracts of the first engine.
-/
set_option maxRecDepth 100000
set_option linter.unusedSimpArgs false
set_option linter.unusedVariables false
namespace Go.Proofs.YthaahcdfnmfihaaDoor.A
open Go.RowKit

section
variable {K : List Nat} {w : World} {s : Nat}
end
section
variable {P : Program} {n : Nat} {W : Wd} {σ τ : Blks} {l : Slots} {X : List Nat} {x y z : Operand} {d : Option Nat} {ty t t' e : TypeId} {pos : String} {aft : Array Edge} {g : Option (Nat × Bool)} {v u : Value} {k k' : IntKind} {a b r : Int} {o : Oper} {A B : Abs} {tab : List (Nat × TI)} {xs ys : List (List Abs)} {s q : Nat} {fn : Func}
def args0 : List Abs → Nat → Slots
  | [], _ => []
  | v :: vs, i => (i, v) :: args0 vs (i + 1)
theorem slot_args0 : ∀ (vs : List Abs) (i t : Nat) (v : Abs), slot (args0 vs i) t = some v → i ≤ t ∧ vs[t - i]? = some v
  | [], i, t, v, h => by simp [args0, slot] at h
  | u :: vs, i, t, v, h => by
    unfold args0 slot at h
    by_cases hit : i = t
    · subst hit
      simp at h
      subst h
      simp
    · rw [beq_ne hit] at h
      obtain ⟨h1, h2⟩ := slot_args0 vs (i + 1) t v h
      refine ⟨by omega, ?_⟩
      rw [show t - i = (t - (i + 1)) + 1 by omega]
      simpa using h2
section
variable {ι : Type} {τ' : ι → Blks} {res : ι → Abs} {args : List Abs}
/-- What a contract's end says. -/
def Post (G : List Nat) (σ : Blks) (τ' : ι → Blks) (res : ι → Abs) (w : World) (e : Ending) (w' : World) : Prop :=
  ∃ z r, e = .returned r ∧ (∀ x ∈ τ' z, x.rids = []) ∧ Mem w (mids σ) G (τ' z) w' ∧ rep (mids (τ' z) ++ G) w' (res z) r
/-- A call is its body, from its arguments on. -/
theorem spec_of {f : FuncId} {c : Code} (hf : P.funcs[f]? = some fn) (hb : fn.body = some c) (hn : fn.ntmps = n) (hle : Nat.ble args.length n = true)
    (h : ∀ G w, SC P c (St n ⟨w, mids σ, G⟩ σ (args0 args 0)) (bodyPost P fn (Post G σ τ' res w))) : Spec P f args σ τ' res := fun G w vals hm hv => by
  have hlen := reps_length hv
  refine calls_of vals hf hb hn (by rw [hlen]; exact hle) (fun w1 => w1 = w) rfl fun a w1 hfr hw => ?_
  subst hw
  refine h G w1 a w1 ⟨hfr.defers, hfr.size, fun t x hx => ?_, hm⟩
  have h1 := (slot_args0 args 0 t x hx).2
  rw [Nat.sub_zero] at h1
  obtain ⟨u, h2, h3⟩ := reps_get hv h1
  refine ⟨u, hfr.at_ t u ?_, h3⟩
  have h4 := slot_full vals 0 t u h2
  rw [Nat.zero_add] at h4
  exact h4
/-- What the results are. -/
inductive RV (P : Program) (n : Nat) (W : Wd) (σ : Blks) (l : Slots) : List ResultVar → List Abs → Prop
  | nil : RV P n W σ l [] []
  | tmp {t : Nat} {v : Abs} {rs : List ResultVar} {vs : List Abs} (h : slot l t = some v) (k : RV P n W σ l rs vs) : RV P n W σ l (.tmp t :: rs) (v :: vs)
  | cell {p ty b : Nat} {v : Abs} {rs : List ResultVar} {vs : List Abs} (h : slot l p = some (.v (.pointer (some ⟨b, 0, none⟩)))) (hv : ∀ a w, St n W σ l a w → ∃ u, rep (mids σ ++ W.G) w v u ∧ (loadVar ty ⟨b, 0, none⟩).run P w = .ok u w) (k : RV P n W σ l rs vs) : RV P n W σ l (.cell p ty :: rs) (v :: vs)
theorem RV.run {rs : List ResultVar} {vs : List Abs} (h : RV P n W σ l rs vs) {a : Act} {w : World} (hs : St n W σ l a w) : ∃ us, reps (mids σ ++ W.G) w vs us ∧ (rs.mapM (resV a.tmps)).run P w = .ok us w := by
  induction h with
  | nil => exact ⟨[], rfl, rfl⟩
  | @tmp t v rs vs h _ ih =>
    obtain ⟨us, h3, h4⟩ := ih
    obtain ⟨u, h1, h2⟩ := hs.slots t v h
    have h5 : (resV a.tmps (.tmp t)).run P w = .ok u w := by simp [resV, h1]
    exact ⟨u :: us, ⟨u, us, rfl, h2, h3⟩, by simp only [List.mapM_cons, Sem.run_bind, h5, Result.andThen_ok, h4, Sem.run_pure]⟩
  | @cell q ty b v rs vs h hv _ ih =>
    obtain ⟨us, h3, h4⟩ := ih
    obtain ⟨u, h1, h2⟩ := hv a w hs
    obtain ⟨p, h6, h7⟩ := hs.slots q _ h
    have h8 : p = .pointer (some ⟨b, 0, none⟩) := h7
    subst h8
    have h5 : (resV a.tmps (.cell q ty)).run P w = .ok u w := by simp [resV, h6, asAddr]; exact h2
    exact ⟨u :: us, ⟨u, us, rfl, h1, h3⟩, by simp only [List.mapM_cons, Sem.run_bind, h5, Result.andThen_ok, h4, Sem.run_pure]⟩
theorem RV.cellA (hT : TabOk P tab) {i : TI} {b : Nat} {cs : List Abs} (ht : ti tab t = some i) (hk : (match i.k with | .one => false | _ => true) = true) (hb : isBlk σ b t' cs) (hl : cs.length = i.size) : ∀ a w, St n W σ l a w → ∃ u, rep (mids σ ++ W.G) w (.agg cs) u ∧ (loadVar t ⟨b, 0, none⟩).run P w = .ok u w := fun a w hs => by
  obtain ⟨us, h1, h2⟩ := hs.mem.blk hb
  exact ⟨_, ⟨us, rfl, h2⟩, run_loadAgg hT ht hk (by rw [reps_length h2]; exact hl) fun j u hu => by rw [Nat.zero_add, mem_cell h1]; exact hu⟩
def retA : List Abs → Abs
  | [v] => v
  | vs => .tup vs
theorem ret_rep {K : List Nat} {w : World} : ∀ {vs : List Abs} {us : List Value}, reps K w vs us → rep K w (retA vs) (retOf us)
  | [], us, h => by have : us = [] := h; subst this; exact ⟨[], rfl, rfl⟩
  | [v], us, ⟨u, us', h1, h2, h3⟩ => by have : us' = [] := h3; subst this h1; exact h2
  | v :: v2 :: vs, us, h => by
    obtain ⟨u, us', h1, h2, u2, us2, h3, h4, h5⟩ := id h
    subst h1 h3
    exact ⟨_, rfl, h⟩
theorem RV.results {rs : List ResultVar} {vs : List Abs} (hr : fn.results = rs.toArray) (h : RV P n W σ l rs vs) {a : Act} {w : World} (hs : St n W σ l a w) : ∃ us, reps (mids σ ++ W.G) w vs us ∧ (results fn a.tmps).run P w = .ok (retOf us) w := by
  obtain ⟨us, h1, h2⟩ := h.run hs
  refine ⟨us, h1, ?_⟩
  rw [results_eq, hr, Array.mapM_eq_mapM_toList, Sem.run_bind, Sem.run_map]
  dsimp only
  rw [h2]
  match us with
  | [] => rfl
  | [v] => rfl
  | v :: u :: vs => simp [retOf, Result.andThen]
theorem SE.retG {R : Ending → World → Prop} {rs : List ResultVar} {vs : List Abs} (hr : fn.results = rs.toArray) (h : RV P n W σ l rs vs) (k : ∀ a w us, St n W σ l a w → reps (mids σ ++ W.G) w vs us → R (.returned (retOf us)) w) : SE .ret (St n W σ l) (bodyPost P fn R) := fun a w hs => by
  obtain ⟨us, h1, h2⟩ := h.results hr hs
  exact ⟨hs.defers, _, h2, k a w us hs h1⟩
theorem SE.doneG {R : Ending → World → Prop} {rs : List ResultVar} {vs : List Abs} (hr : fn.results = rs.toArray) (h : RV P n W σ l rs vs) (k : ∀ a w us, St n W σ l a w → reps (mids σ ++ W.G) w vs us → R (.returned (retOf us)) w) : SE .normal (St n W σ l) (bodyPost P fn R) := fun a w hs => by
  obtain ⟨us, h1, h2⟩ := h.results hr hs
  exact ⟨hs.defers, _, h2, k a w us hs h1⟩
theorem post_of {G : List Nat} {w0 : World} {σ0 : Blks} {vs : List Abs} (z : ι) (hsub : (τ' z).Sublist σ) (hro : ∀ x ∈ τ' z, x.rids = []) (hres : retA vs = res z) {a : Act} {w : World} {us : List Value} (hs : St n ⟨w0, mids σ0, G⟩ σ l a w) (hv : reps (mids σ ++ G) w vs us) : Post G σ0 τ' res w0 (.returned (retOf us)) w := by
  obtain ⟨h1, h2⟩ := hs.mem.sub hsub
  exact ⟨z, _, rfl, hro, h1, hres ▸ ret_rep (reps_carry h2 _ _ hv)⟩
/-- The end of a contract: z tells which pieces and which value come of it. -/
theorem SE.fin {G : List Nat} {w0 : World} {σ0 : Blks} {rs : List ResultVar} {vs : List Abs} (hr : fn.results = rs.toArray) (h : RV P n ⟨w0, mids σ0, G⟩ σ l rs vs) (z : ι) (hsub : (τ' z).Sublist σ) (hro : ∀ x ∈ τ' z, x.rids = []) (hres : retA vs = res z) : SE .ret (St n ⟨w0, mids σ0, G⟩ σ l) (bodyPost P fn (Post G σ0 τ' res w0)) :=
  SE.retG hr h fun _ _ _ hs hv => post_of z hsub hro hres hs hv
/-- The same, the results said otherwise. -/
theorem SE.finC {G : List Nat} {w0 : World} {σ0 : Blks} {rs : List ResultVar} {vs vs2 : List Abs} (hr : fn.results = rs.toArray) (h : RV P n ⟨w0, mids σ0, G⟩ σ l rs vs) (hca : Casts vs vs2) (z : ι) (hsub : (τ' z).Sublist σ) (hro : ∀ x ∈ τ' z, x.rids = []) (hres : retA vs2 = res z) : SE .ret (St n ⟨w0, mids σ0, G⟩ σ l) (bodyPost P fn (Post G σ0 τ' res w0)) :=
  SE.retG hr h fun _ _ _ hs hv => post_of z hsub hro hres hs (hca _ _ _ hv)
theorem cast_agg {cs ds : List Abs} (h : Casts cs ds) : ∀ K w u, rep K w (.agg cs) u → rep K w (.agg ds) u := fun K w _ ⟨us, h1, h2⟩ => ⟨us, h1, h K w us h2⟩
theorem Casts.nils {s : Nat} {xs ys : List Abs} (k : Casts xs ys) : Casts (.v (.slice none 0 0) :: xs) (.sl s [] :: ys) := k.cons fun _ _ _ h => rep_nil h
theorem SE.finN {G : List Nat} {w0 : World} {σ0 : Blks} {rs : List ResultVar} {vs : List Abs} (hr : fn.results = rs.toArray) (h : RV P n ⟨w0, mids σ0, G⟩ σ l rs vs) (z : ι) (hsub : (τ' z).Sublist σ) (hro : ∀ x ∈ τ' z, x.rids = []) (hres : retA vs = res z) : SE .normal (St n ⟨w0, mids σ0, G⟩ σ l) (bodyPost P fn (Post G σ0 τ' res w0)) :=
  SE.doneG hr h fun _ _ _ hs hv => post_of z hsub hro hres hs hv
end

/-! ### Contracts of the first engine -/
theorem Pure.of2 {f : FuncId} {args : List Abs} {res : Abs} (h : ∀ (K : List Nat) (w : World) (vals : List Value), (∀ k ∈ K, k < w.heap.size) → reps K w args vals → Calls P f vals.toArray w fun e w' => ∃ r, e = .returned r ∧ Ext [] w w' ∧ rep K w' res r) : Pure P f args res := fun G w vals hm hv =>
  (h G w vals hm.old hv).mono fun e w' ⟨r, he, hx, hr⟩ => ⟨(), r, he, by simp, ⟨hx, by simp [mids], by simp [mids], fun k hk => Nat.lt_of_lt_of_le (hm.old k hk) hx.size, by simp, by simp [mids], by simp⟩, hr⟩
end
end Go.Proofs.YthaahcdfnmfihaaDoor.A
/-
  Readers, in plain Lean: what is read turns on the bytes alone.
-/
set_option maxRecDepth 100000
namespace Go.Proofs.YthaahcdfnmfihaaDoor
open Go.RowKit

/-- Two readers of the same bytes. -/
def Rd.as (s t : Rd) : Prop := s.l = t.l ∧ s.e = t.e
section
variable {s t : Rd}
theorem Rd.as.bad (h : s.as t) (n : Int) : s.bad n ↔ t.bad n := by unfold Rd.bad; rw [h.1]
theorem Rd.as.fixed (h : s.as t) (n : Int) : (s.fixed n).as (t.fixed n) := by
  unfold Rd.fixed Rd.as
  by_cases he : t.e = 0
  · have he' : s.e = 0 := by rw [h.2, he]
    by_cases hb : t.bad n
    · simp [he, he', hb, (h.bad n).2 hb, h.1]
    · have hb' : ¬ s.bad n := fun x => hb ((h.bad n).1 x)
      simp [he, he', hb, hb', h.1]
  · have he' : s.e ≠ 0 := by rw [h.2]; exact he
    simp [he, h.1, h.2]
theorem Rd.as.out (h : s.as t) (n : Int) : s.out n = t.out n := by
  unfold Rd.out
  rw [h.1, h.2]
  by_cases hb : t.bad n
  · simp [hb, (h.bad n).2 hb]
  · have hb' : ¬ s.bad n := fun x => hb ((h.bad n).1 x)
    simp [hb, hb']
theorem Rd.as.num (h : s.as t) (n : Int) : s.num n = t.num n := by unfold Rd.num; rw [h.out]
theorem Rd.as.row (h : s.as t) (most : Int) : (s.row most).as (t.row most) := by
  have h1 := h.fixed 4
  unfold Rd.row
  rw [h1.2, h.num 4]
  split
  · exact h1
  · split
    · exact ⟨h1.1, rfl⟩
    · exact h1.fixed _
theorem Rd.as.end_ (h : s.as t) : s.end_ = t.end_ := by unfold Rd.end_; rw [h.1, h.2]
end
def Rd.of (l : List UInt8) : Rd := ⟨.slice none 0 0, l, 0⟩
section
variable {P : Program} {n : Nat} {l : Slots} {D : World → Prop} {x y : Operand} {d : Option Nat} {ty t t' : TypeId} {pos : String} {aft : Array Edge} {g : Option (Nat × Bool)}
end
end Go.Proofs.YthaahcdfnmfihaaDoor
/-
  The second engine: the contracts of octets, as they stand.
-/
set_option maxRecDepth 100000
set_option linter.unusedSimpArgs false
set_option linter.unusedVariables false
namespace Go.Proofs.YthaahcdfnmfihaaDoor.A
open Go.RowKit

abbrev int (x : Int) : Abs := .v (.int .i64 x)
abbrev boo (b : Bool) : Abs := .v (.bool b)
abbrev ptr (b : Nat) : Abs := .v (.pointer (some ⟨b, 0, none⟩))
section
variable {P : Program} {f : FuncId}
end
section
variable {l m : List UInt8} {p : Nat} {s : Rd}
end
end Go.Proofs.YthaahcdfnmfihaaDoor.A
/-
  The second engine: arrays, copies, blocks that are only read from then on.
-/
set_option maxRecDepth 100000
set_option linter.unusedSimpArgs false
set_option linter.unusedVariables false
namespace Go.Proofs.YthaahcdfnmfihaaDoor.A
open Go.RowKit

section
variable {P : Program} {n : Nat} {W : Wd} {σ τ : Blks} {l : Slots} {X : List Nat} {x y z : Operand} {d : Option Nat} {ty t t' e : TypeId} {pos : String} {aft : Array Edge} {g : Option (Nat × Bool)} {v u : Value} {k k' : IntKind} {a b : Nat} {o : Oper} {A B : Abs} {tab : List (Nat × TI)} {ops : Array Oper} {rest : List Oper} {Q : Exit → Act → World → Prop} {ix : Plan} {xs ys : List (List Abs)} {s q : Nat} {cs : List Abs}
theorem SC.known {c : Code} {p : Prop} {T : Act → World → Prop} (h : ∀ a w, T a w → p) (k : p → SC P c T Q) : SC P c T Q := fun a w ha => k (h a w ha) a w ha
theorem SL.known {p : Prop} {T : Act → World → Prop} (h : ∀ a w, T a w → p) (k : p → SL P ops rest T Q) : SL P ops rest T Q := fun a w ha => k (h a w ha) a w ha
end
abbrev ints (xs : List Int) : Abs := .sl 1 (xs.map fun x => [int x])
theorem elems_one {s i : Nat} {cs : List Abs} (h : cs.length = s) : elems s [(i, .agg cs)] = some [cs] := by simp [elems, cellsA, h]
end Go.Proofs.YthaahcdfnmfihaaDoor.A
/-
  Arguments opened down to their cells: a struct, however deep, is its cells, each read by its own type.
-/
set_option maxRecDepth 100000
namespace Go.Proofs.YthaahcdfnmfihaaDoor
open Go.RowKit Go.ChangeShapes Go.WideShapes Go.ChangeAt

/-- The types of a type's cells, in order. -/
def leaves (P : Program) : Nat → TypeId → Option (List TypeId)
  | 0, _ => none
  | d + 1, t =>
    match P.underlying t with
    | some (.struct fs) => fs.toList.foldlM (fun acc f => (leaves P d f.type).bind fun l => if f.offset = acc.length ∧ l.length = P.cellsOf f.type then some (acc ++ l) else none) []
    | some (.array n e) => (leaves P d e).bind fun l => if l.length = P.cellsOf e then some (List.replicate n l).flatten else none
    | some _ => some [t]
    | none => none

section
variable {H : Type} {enc : TypeId × Value → H} {P : Program} {w : World} {base : Nat} {spare : Nat → Bool} {held : Bool}

/-- Cell j reads by its own type. -/
def LeafAt (enc : TypeId × Value → H) (P : Program) (w : World) (base : Nat) (spare : Nat → Bool) (held : Bool) (u : TypeId) (v : Value) : Prop := ∃ n y, DataW.trod enc P w base spare held n u [v] = some y

theorem leaves_fields {d : Nat} {cs : List Value} {n : Nat}
    (ih : ∀ (t : TypeId) (ts : List TypeId) (fuel : Nat) (cs : List Value) (x : DataW H × List MemPlace), leaves P d t = some ts → ts.length = cs.length → DataW.trod enc P w base spare held fuel t cs = some x →
      ∀ (j : Nat) (v : Value) (u : TypeId), cs[j]? = some v → ts[j]? = some u → LeafAt enc P w base spare held u v) :
    ∀ (fs : List Field) (acc ts : List TypeId), (∀ f ∈ fs, ∃ y, DataW.trod enc P w base spare held n f.type ((cs.drop f.offset).take (P.cellsOf f.type)) = some y) →
      fs.foldlM (fun acc f => (leaves P d f.type).bind fun l => if f.offset = acc.length ∧ l.length = P.cellsOf f.type then some (acc ++ l) else none) acc = some ts →
      ts.length ≤ cs.length →
      (∀ (j : Nat) (v : Value) (u : TypeId), cs[j]? = some v → acc[j]? = some u → LeafAt enc P w base spare held u v) →
      (∀ (j : Nat) (v : Value) (u : TypeId), cs[j]? = some v → ts[j]? = some u → LeafAt enc P w base spare held u v) := by
  intro fs
  induction fs with
  | nil =>
    intro acc ts _ h _ ha
    simp at h
    subst h
    exact ha
  | cons f fs hfs =>
    intro acc ts hall h hlen ha
    simp only [List.foldlM_cons, Option.bind_eq_bind, Option.bind_eq_some_iff] at h
    obtain ⟨acc', ⟨l, hl, hif⟩, hrest⟩ := h
    split at hif
    · rename_i hc
      obtain ⟨ho, hlc⟩ := hc
      simp only [Option.some.injEq] at hif
      subst hif
      have hmono : ∀ (fs : List Field) (a b : List TypeId), fs.foldlM (fun acc f => (leaves P d f.type).bind fun l => if f.offset = acc.length ∧ l.length = P.cellsOf f.type then some (acc ++ l) else none) a = some b → a.length ≤ b.length := by
        intro fs
        induction fs with
        | nil => intro a b h; simp at h; subst h; exact Nat.le_refl _
        | cons f fs ih2 =>
          intro a b h
          simp only [List.foldlM_cons, Option.bind_eq_bind, Option.bind_eq_some_iff] at h
          obtain ⟨a', ⟨l, _, hif⟩, hr⟩ := h
          split at hif
          · simp only [Option.some.injEq] at hif
            subst hif
            have := ih2 _ _ hr
            simp at this
            omega
          · cases hif
      have hacc := hmono _ _ _ hrest
      refine hfs (acc ++ l) ts (fun g hg => hall g (List.mem_cons_of_mem _ hg)) hrest hlen ?_
      intro j v u hv hu
      rw [List.getElem?_append] at hu
      split at hu
      · exact ha j v u hv hu
      · rename_i hj
        obtain ⟨y, hy⟩ := hall f List.mem_cons_self
        rw [List.length_append] at hacc
        refine ih f.type l n _ y hl ?_ hy (j - acc.length) v u ?_ hu
        · rw [List.length_take, List.length_drop]; omega
        · have hjl : j - acc.length < l.length := (List.getElem?_eq_some_iff.1 hu).1
          rw [List.getElem?_take, if_pos (by omega), List.getElem?_drop, ho, show acc.length + (j - acc.length) = j by omega]
          exact hv
    · cases hif

theorem leaves_trod : ∀ (d : Nat) (t : TypeId) (ts : List TypeId) (fuel : Nat) (cs : List Value) (x : DataW H × List MemPlace), leaves P d t = some ts → ts.length = cs.length → DataW.trod enc P w base spare held fuel t cs = some x →
    ∀ (j : Nat) (v : Value) (u : TypeId), cs[j]? = some v → ts[j]? = some u → LeafAt enc P w base spare held u v := by
  intro d
  induction d with
  | zero => intro t ts fuel cs x h; simp [leaves] at h
  | succ d ih =>
    intro t ts fuel cs x h hlen ht
    unfold leaves at h
    split at h
    · rename_i fs hu
      obtain ⟨xs, n, _, _, hcl, hxl, hf⟩ := DataW.trod_struct hu ht
      refine leaves_fields (n := n) ih fs.toList [] ts ?_ h (by omega) (by simp)
      intro f hfm
      obtain ⟨i, hi, he⟩ := List.getElem_of_mem hfm
      have h1 := hf i f (by rw [← Array.getElem?_toList, List.getElem?_eq_getElem hi, he])
      have : i < xs.length := by rw [hxl]; simpa using hi
      exact ⟨xs[i], by rw [h1, List.getElem?_eq_getElem this]⟩
    · rename_i m e hu
      obtain ⟨xs, n, _, _, hcl, hxl, hf⟩ := DataW.trod_array hu ht
      simp only [Option.bind_eq_some_iff] at h
      obtain ⟨l, hl, hif⟩ := h
      split at hif
      · rename_i hc
        simp only [Option.some.injEq] at hif
        subst hif
        intro j v u hv hu'
        have hjl : j < (List.replicate m l).flatten.length := (List.getElem?_eq_some_iff.1 hu').1
        have hfl : ∀ k, (List.replicate k l).flatten.length = k * l.length := by
          intro k; simp
        rw [hfl] at hjl
        have hl0 : 0 < l.length := by
          rcases Nat.eq_zero_or_pos l.length with h0 | h0
          · rw [h0] at hjl; simp at hjl
          · exact h0
        have hi : j / l.length < m := by rw [Nat.div_lt_iff_lt_mul hl0]; exact hjl
        have hmod := Nat.mod_lt j hl0
        have hjd := Nat.div_add_mod j l.length
        have hget : ∀ (k j : Nat), j < k * l.length → (List.replicate k l).flatten[j]? = l[j % l.length]? := by
          intro k
          induction k with
          | zero => intro j hj; simp at hj
          | succ k ihk =>
            intro j hj
            rw [List.replicate_succ, List.flatten_cons, List.getElem?_append]
            split
            · rename_i h1; rw [Nat.mod_eq_of_lt h1]
            · rename_i h1
              rw [ihk (j - l.length) (by rw [Nat.succ_mul] at hj; omega)]
              rw [← Nat.mod_eq_sub_mod (show l.length ≤ j by omega)]
        rw [hget m j hjl] at hu'
        have h1 := hf (j / l.length) hi
        have hxi : j / l.length < xs.length := by omega
        rw [List.getElem?_eq_getElem hxi] at h1
        have hsz : (j / l.length) * P.cellsOf e + P.cellsOf e ≤ cs.length := by
          rw [← hlen, hfl, ← hc]
          calc (j / l.length) * l.length + l.length = (j / l.length + 1) * l.length := by rw [Nat.succ_mul]
            _ ≤ m * l.length := Nat.mul_le_mul_right _ hi
        refine ih e l n _ _ hl ?_ h1 (j % l.length) v u ?_ hu'
        · rw [List.length_take, List.length_drop]; omega
        · rw [List.getElem?_take, if_pos (by omega), List.getElem?_drop, ← hc, ← hv]
          congr 1
          rw [Nat.mul_comm]; exact hjd
      · cases hif
    · rename_i hu1 hu2 hs
      simp only [Option.some.injEq] at h
      subst h
      intro j v u hv hu'
      have hc1 : cs.length = 1 := by simpa using hlen.symm
      match cs, hc1 with
      | [c], _ =>
        match j with
        | 0 =>
          simp at hv hu'
          subst hv; subst hu'
          exact ⟨fuel, x, ht⟩
        | j + 1 => simp at hv
    · cases h
theorem LeafAt.int {u : TypeId} {v : Value} {k : IntKind} (h : LeafAt enc P w base spare held u v) (hu : P.underlying u = some (.int k)) : ∃ n, v = .int k n ∧ (Lit.int k n).wf = true := by
  obtain ⟨n, y, hy⟩ := h
  obtain ⟨m, h1, _, h2⟩ := DataW.trod_int hu hy
  simp at h1
  exact ⟨m, h1, h2⟩
theorem LeafAt.string {u : TypeId} {v : Value} (h : LeafAt enc P w base spare held u v) (hu : P.underlying u = some .string) : ∃ s, v = .string s ∧ s.size ≤ maxLen := by
  obtain ⟨n, y, hy⟩ := h
  obtain ⟨m, h1, _, h2⟩ := DataW.trod_string hu hy
  simp at h1
  exact ⟨m, h1, h2⟩
theorem LeafAt.bool {u : TypeId} {v : Value} (h : LeafAt enc P w base spare held u v) (hu : P.underlying u = some .bool) : ∃ b, v = .bool b := by
  obtain ⟨n, y, hy⟩ := h
  obtain ⟨m, h1, _⟩ := DataW.trod_bool hu hy
  simp at h1
  exact ⟨m, h1⟩

theorem flatten_get {α : Type} {sz : Nat} (h0 : 0 < sz) : ∀ (xs : List (List α)), (∀ x ∈ xs, x.length = sz) → ∀ j, xs.flatten[j]? = (xs[j / sz]?).bind fun x => x[j % sz]? := by
  intro xs
  induction xs with
  | nil => intro _ j; simp
  | cons x xs ih =>
    intro hx j
    have hxl := hx x List.mem_cons_self
    rw [List.flatten_cons, List.getElem?_append]
    split
    · rename_i h1
      rw [Nat.div_eq_of_lt (by omega), Nat.mod_eq_of_lt (by omega)]
      simp
    · rename_i h1
      rw [ih (fun y hy => hx y (List.mem_cons_of_mem _ hy)), hxl]
      have h2 : j / sz = (j - sz) / sz + 1 := by
        rw [Nat.div_eq_sub_div h0 (by omega)]
      rw [h2, List.getElem?_cons_succ, ← Nat.mod_eq_sub_mod (show sz ≤ j by omega)]
theorem flatten_length {α : Type} {sz : Nat} : ∀ (xs : List (List α)), (∀ x ∈ xs, x.length = sz) → xs.flatten.length = xs.length * sz := by
  intro xs
  induction xs with
  | nil => intro _; simp
  | cons x xs ih =>
    intro hx
    rw [List.flatten_cons, List.length_append, ih (fun y hy => hx y (List.mem_cons_of_mem _ hy)), hx x List.mem_cons_self, List.length_cons, Nat.succ_mul, Nat.add_comm]
theorem add_eq (b off : Nat) (j : Nat) : (⟨b, off, none⟩ : Addr).add j = ⟨b, off + j, none⟩ := by
  unfold Addr.add
  split
  · rename_i h0; subst h0; rfl
  · rfl

/-- A slice that came in: its row, element by element: each element's cells read by the element's type. -/
theorem open_row {t e : TypeId} {fuel : Nat} {A : Option Addr} {n c : Nat} {x : DataW H × List MemPlace} (ht : P.underlying t = some (.slice e)) (h : DataW.trod enc P w base spare held fuel t [.slice A n c] = some x) :
    n ≤ c ∧ c ≤ maxLen ∧ ∃ xs : List (List Value), xs.length = n ∧ (∀ cs ∈ xs, cs.length = P.cellsOf e ∧ ∃ m y, DataW.trod enc P w base spare held m e cs = some y) ∧ (xs.flatten ≠ [] → ∃ b off : Nat, A = some ⟨b, off, none⟩ ∧ ∀ j u, xs.flatten[j]? = some u → w.cell? ⟨b, off + j, none⟩ = some u) := by
  rcases Deep.open_slice ht h with ⟨hcs, _⟩ | ⟨a, len, cap, m, n', D, Pl, hcs, _, hl, hm, hmm, _, hi⟩
  · simp at hcs
    obtain ⟨rfl, rfl, rfl⟩ := hcs
    exact ⟨Nat.le_refl _, Nat.zero_le _, [], rfl, by simp, by simp⟩
  · simp at hcs
    obtain ⟨rfl, rfl, rfl⟩ := hcs
    have hnm : n ≤ m := by rw [hmm]; split <;> omega
    refine ⟨hl, hm, (List.range n).map fun i => ((w.cells? base (a.add (i * P.cellsOf e)) (P.cellsOf e)).getD []), by simp, ?_, ?_⟩
    · intro cs hcs
      simp only [List.mem_map, List.mem_range] at hcs
      obtain ⟨i, hin, rfl⟩ := hcs
      obtain ⟨cs', h1, h2⟩ := hi i (by omega)
      rw [h1]
      exact ⟨(World.cells?_some h1).2.1, n', _, h2⟩
    · intro hne
      have hall : ∀ y ∈ (List.range n).map (fun i => ((w.cells? base (a.add (i * P.cellsOf e)) (P.cellsOf e)).getD [])), y.length = P.cellsOf e := by
        intro y hy
        simp only [List.mem_map, List.mem_range] at hy
        obtain ⟨i, hin, rfl⟩ := hy
        obtain ⟨cs', h1, _⟩ := hi i (by omega)
        rw [h1]
        exact (World.cells?_some h1).2.1
      have hlen0 := flatten_length _ hall
      have hpos : 0 < n * P.cellsOf e := by
        rcases Nat.eq_zero_or_pos (n * P.cellsOf e) with h0 | h0
        · exfalso
          apply hne
          apply List.eq_nil_of_length_eq_zero
          rw [hlen0]
          simpa using h0
        · exact h0
      have hsz : 0 < P.cellsOf e := Nat.pos_of_mul_pos_left hpos
      have hn0 : 0 < n := Nat.pos_of_mul_pos_right hpos
      obtain ⟨b, off, spot⟩ := a
      have hs : spot = none := by
        obtain ⟨cs', h1, _⟩ := hi 0 (by omega)
        obtain ⟨_, hl1, hc1⟩ := World.cells?_some h1
        have h2 := hc1 0 hsz
        have h3 : ((⟨b, off, spot⟩ : Addr).add (0 * P.cellsOf e)).add 0 = ⟨b, off, spot⟩ := by simp [Addr.add]
        rw [h3, List.getElem?_eq_getElem (by omega)] at h2
        exact spot_none h2
      subst hs
      refine ⟨b, off, rfl, fun j u hu => ?_⟩
      rw [flatten_get hsz _ hall] at hu
      simp only [Option.bind_eq_some_iff, List.getElem?_map, Option.map_eq_some_iff] at hu
      obtain ⟨y, ⟨i, hir, rfl⟩, hy⟩ := hu
      have hrl := List.getElem?_eq_some_iff.1 hir
      obtain ⟨hir1, hir2⟩ := hrl
      simp at hir1 hir2
      subst hir2
      obtain ⟨cs', h1, _⟩ := hi (j / P.cellsOf e) (by omega)
      rw [h1] at hy
      simp only [Option.getD_some] at hy
      obtain ⟨_, hl1, hc1⟩ := World.cells?_some h1
      have h2 := hc1 (j % P.cellsOf e) (Nat.mod_lt _ hsz)
      rw [add_eq, add_eq, hy] at h2
      have hjd := Nat.div_add_mod j (P.cellsOf e)
      rw [show off + j = off + j / P.cellsOf e * P.cellsOf e + j % P.cellsOf e by rw [Nat.mul_comm (j / P.cellsOf e)]; omega]
      exact h2
/-- The same, the elements decoded. -/
theorem open_rowOf {α : Type} {cells : α → List Value} {Ok : α → Prop} {t e : TypeId} {fuel : Nat} {A : Option Addr} {n c : Nat} {x : DataW H × List MemPlace} (ht : P.underlying t = some (.slice e)) (h : DataW.trod enc P w base spare held fuel t [.slice A n c] = some x)
    (hdec : ∀ cs, cs.length = P.cellsOf e → (∃ m y, DataW.trod enc P w base spare held m e cs = some y) → ∃ a, cs = cells a ∧ Ok a) :
    n ≤ c ∧ c ≤ maxLen ∧ ∃ xs : List α, xs.length = n ∧ Row w A (xs.flatMap cells) ∧ ∀ a ∈ xs, Ok a := by
  obtain ⟨h1, h2, ys, hl, hall, hrow⟩ := open_row ht h
  have hd : ∀ (ys : List (List Value)), (∀ cs ∈ ys, cs.length = P.cellsOf e ∧ ∃ m y, DataW.trod enc P w base spare held m e cs = some y) → ∃ xs : List α, xs.length = ys.length ∧ ys = xs.map cells ∧ ∀ a ∈ xs, Ok a := by
    intro ys
    induction ys with
    | nil => intro _; exact ⟨[], rfl, rfl, by simp⟩
    | cons cs ys ih =>
      intro hy
      obtain ⟨a, ha, hok⟩ := hdec cs (hy cs List.mem_cons_self).1 (hy cs List.mem_cons_self).2
      obtain ⟨xs, hxl, hxe, hxo⟩ := ih (fun c hc => hy c (List.mem_cons_of_mem _ hc))
      exact ⟨a :: xs, by simp [hxl], by simp [ha, hxe], by simpa using ⟨hok, hxo⟩⟩
  obtain ⟨xs, hxl, hxe, hxo⟩ := hd ys hall
  refine ⟨h1, h2, xs, by omega, ?_, hxo⟩
  intro hne
  have hf : ys.flatten = xs.flatMap cells := by rw [hxe, List.flatMap]
  rw [← hf] at hne
  obtain ⟨b, off, hA, hc⟩ := hrow hne
  exact ⟨b, off, hA, fun j u hu => hc j u (by rw [hf]; exact hu)⟩
end
end Go.Proofs.YthaahcdfnmfihaaDoor
/-
  Rows of bytes that come in as arguments.
-/
set_option maxRecDepth 100000
namespace Go.Proofs.YthaahcdfnmfihaaDoor
open Go.RowKit Go.ChangeShapes Go.WideShapes Go.ChangeAt

section
variable {H : Type} {enc : TypeId × Value → H} {w : World} {base : Nat} {spare : Nat → Bool} {held : Bool}
theorem open_byte (cs : List Value) (hl : cs.length = Tryd.prog.cellsOf 5) (h : ∃ m y, DataW.trod enc Tryd.prog w base spare held m 5 cs = some y) : ∃ c : UInt8, cs = [bc c] ∧ True := by
  obtain ⟨fuel, x, h⟩ := h
  rw [show Tryd.prog.cellsOf 5 = 1 by kernel_rfl] at hl
  have hlv : leaves Tryd.prog 4 5 = some [5] := by kernel_rfl
  have hh := leaves_trod 4 _ _ _ _ _ hlv (by simpa using hl.symm) h
  match cs, hl with
  | [v0], _ =>
    obtain ⟨n, rfl, b⟩ := (hh 0 v0 _ rfl rfl).int Tryd.underlying5
    simp only [Lit.wf, Bool.and_eq_true, decide_eq_true_eq] at b
    have b0 : (0 : Int) ≤ n := b.1
    have b1 : n ≤ (255 : Int) := b.2
    refine ⟨UInt8.ofNat n.toNat, ?_, trivial⟩
    have : ((UInt8.ofNat n.toNat).toNat : Int) = n := by simp; omega
    simp [bc]
    omega
theorem open_bytes {fuel : Nat} {A : Option Addr} {n c : Nat} {x : DataW H × List MemPlace} (h : DataW.trod enc Tryd.prog w base spare held fuel 36 [.slice A n c] = some x) : ∃ l : List UInt8, l.length = n ∧ n ≤ c ∧ c ≤ maxLen ∧ Row w A (l.map bc) := by
  obtain ⟨h1, h2, xs, h3, h4, _⟩ := open_rowOf (cells := fun c : UInt8 => [bc c]) (Ok := fun _ => True) Tryd.underlying36 h (fun cs hl hh => open_byte cs hl hh)
  refine ⟨xs, h3, h1, h2, ?_⟩
  have : xs.flatMap (fun c : UInt8 => [bc c]) = xs.map bc := by
    clear h3 h4
    induction xs with
    | nil => rfl
    | cons a xs ih => simp [ih]
  rw [← this]
  exact h4
theorem open_none {t e : TypeId} {fuel : Nat} {A : Option Addr} {n c : Nat} {x : DataW H × List MemPlace} (ht : Tryd.prog.underlying t = some (.slice e)) (h : DataW.trod enc Tryd.prog w base spare held fuel t [.slice A n c] = some x) : A = none → c = 0 := by
  intro hA
  rcases Deep.open_slice ht h with ⟨hcs, _⟩ | ⟨a, len, cap, m, n', D, Pl, hcs, _⟩
  · simp at hcs
    exact hcs.2.2
  · simp at hcs
    rw [hA] at hcs
    simp at hcs
theorem open_bytesV {fuel : Nat} {A : Option Addr} {n c : Nat} {x : DataW H × List MemPlace} (h : DataW.trod enc Tryd.prog w base spare held fuel 36 [.slice A n c] = some x) : ∃ l : List UInt8, BytesV w (.slice A n c) l := by
  obtain ⟨l, rfl, h1, h2, h3⟩ := open_bytes h
  exact ⟨l, A, c, rfl, h1, h2, open_none Tryd.underlying36 h, h3⟩
end
end Go.Proofs.YthaahcdfnmfihaaDoor
/-
  Arguments that are rows of structs as trees: opened down to their cells; from a walk to the statement.
-/
set_option maxRecDepth 100000
set_option linter.unusedSimpArgs false
set_option linter.unusedVariables false
namespace Go.Proofs.YthaahcdfnmfihaaDoor.A
open Go.RowKit Go.ChangeShapes Go.WideShapes Go.ChangeAt

section
variable {H : Type} {enc : TypeId × Value → H} {w : World} {base : Nat} {spare : Nat → Bool} {held : Bool}
end
theorem _root_.Go.Proofs.YthaahcdfnmfihaaDoor.IsRow.bytesA {K : List Nat} {w : World} {v : Value} {m : List UInt8} (h : IsRow K w v m.length (m.map bc)) : BytesV w v m := by
  obtain ⟨A, c, rfl, h1, h2, h3⟩ := h.shape
  refine ⟨A, c, rfl, h1, h2, h3, fun hn => ?_⟩
  obtain ⟨b, off, n', c', hv, _, hc⟩ := h.cells hn
  simp at hv
  obtain ⟨rfl, _, _⟩ := hv
  exact ⟨b, off, rfl, hc⟩
/-- A row of bytes as a text. -/
theorem Val.strOf {n : Nat} {W : Wd} {σ : Blks} {l : Slots} {X : List Nat} {x : Operand} {d : Option Nat} {ty : TypeId} {pos : String} {aft : Array Edge} {gq : Option (Nat × Bool)} {m : List UInt8} (hx : look l x = some (byt m)) : Val Tryd.prog n W σ l X ⟨d, .convert 36 9 x, ty, pos, aft, gq⟩ (.v (.string ⟨m.toArray⟩)) := fun a w hs hX => ⟨_, rfl, fun w' hw' => by
  have h1 := rep_byt.1 (hs.eval hx)
  have h2 := (Carry.of_ext hw' (K := mids σ ++ W.G) (K' := mids σ ++ W.G) (fun k hk => .inl (List.mem_append_left _ (hX k hk))) (fun k hk => .inl hk)).row h1
  have := conv_txtE h2.bytesA
  simp [execOp, this, Result.andThen]⟩
end Go.Proofs.YthaahcdfnmfihaaDoor.A
/-
  The second engine: rows of one's own, read; calls that change several pieces.
-/
set_option maxRecDepth 100000
set_option linter.unusedSimpArgs false
set_option linter.unusedVariables false
namespace Go.Proofs.YthaahcdfnmfihaaDoor.A
open Go.RowKit

section
variable {P : Program} {n : Nat} {W : Wd} {σ τ : Blks} {l : Slots} {X : List Nat} {x y z : Operand} {d : Option Nat} {ty t e e' : TypeId} {pos : String} {aft : Array Edge} {g : Option (Nat × Bool)} {v : Value} {k : IntKind} {A : Abs} {tab : List (Nat × TI)} {xs : List (List Abs)} {s q : Nat} {cs : List Abs}
/-- It changes pieces that lie side by side. -/
theorem After.mid {ι : Type} {σ1 : Blks} {τ' : ι → Blks} {K : Blks → ι → Prop} (α : Blks) {β : Blks} (hσ : σ = α ++ (σ1 ++ β)) (hr : ∀ x ∈ σ1, x.rids = []) (k : ∀ z, K (α ++ (τ' z ++ β)) z) : After σ σ1 τ' K := by
  subst hσ
  refine ⟨α ++ β, ⟨?_, fun x hx => .inl ⟨by simp [hx], hr x hx⟩, fun x hx => ?_⟩, fun z => ⟨_, ?_, k z⟩⟩
  · simp only [mids_append]
    exact List.perm_append_comm_assoc _ _ _
  · rcases List.mem_append.1 hx with h | h <;> simp [h]
  · exact List.perm_append_comm_assoc _ _ _
end
/-- A cut, from a known state. -/
theorem SC.cutS {P : Program} {n : Nat} {W : Wd} {σ : Blks} {l : Slots} {Q : Exit → Act → World → Prop} {x y : Code} {ι : Type} (H : ι → Blks) (L : ι → Slots) (Φ : ι → Prop) (h : SC P x (St n W σ l) (Exit.then (fun a w => ∃ z, Head n W H L Φ z a w) Q)) (k : ∀ z, Φ z → SC P y (St n W (H z) (L z)) Q) : SC P (.seq x y) (St n W σ l) Q := SC.cut H L Φ h k
section
variable {P : Program} {n : Nat} {W : Wd} {ops : Array Oper} {l : Slots} {σ : Blks} {X : List Nat} {Q : Exit → Act → World → Prop} {ix : Plan} {f : FuncId} {args args' : List Abs} {σ1 : Blks} {ι : Type} {τ' : ι → Blks} {res : ι → Abs} {xs : List Operand} {ats : Array TypeId} {d : Option Nat} {ty : TypeId} {pos : String} {aft : Array Edge} {g : Option (Nat × Bool)} {i : Nat}
/-- A call; from then on only the blocks X' may be changed. -/
theorem SX.callX (X' : List Nat) (hi : ops[i]? = some ⟨d, .call { callee := .value (.func f), args := xs.toArray, argTypes := ats }, ty, pos, aft, g⟩) (hs : Spec P f args' σ1 τ' res) (hX : ∀ k ∈ mids σ1, k ∈ X) (hX' : ∀ k ∈ X', k ∈ X) (hca : Casts args args') (hb : goesIn P f = true) (hv : looks l xs = some args)
    (hg : gd ops l ⟨d, .call { callee := .value (.func f), args := xs.toArray, argTypes := ats }, ty, pos, aft, g⟩ = some true) (hd : lt? d n = true)
    (k : After σ σ1 τ' fun ν z => SX P ops ix X' (St n W ν (put? l d (res z))) Q) : SX P ops (.e i ix) X (St n W σ l) Q := fun a w h => by
  unfold planW wpOp
  simp only [hi, h.wanted hg, if_true]
  refine .inl ?_
  unfold Oper.wp
  rw [run_call hb rfl, Oper.upon_enter]
  refine (hs.after h.mem (hca _ _ _ (h.evals hv)) k).mono fun e w' ⟨z, r, ν, he, hx, _, hm, hc, hr, hk⟩ => ?_
  subst he
  exact ⟨fun w2 => Ext X' w' w2, fun w2 h2 => (hx.mono (fun k hk => .inl (hX k hk))).trans h2 fun k hk => .inl (hX' k hk), Ext.refl w', hk _ _ ((h.to hm hc).put hd hr)⟩
end
/-- 'max' of two numbers. -/
theorem Val.maxI {P : Program} {n : Nat} {W : Wd} {σ : Blks} {l : Slots} {X : List Nat} {x y : Operand} {d : Option Nat} {ty t t' : TypeId} {pos : String} {aft : Array Edge} {gq : Option (Nat × Bool)} {k : IntKind} {a b : Int} (hx : look l x = some (.v (.int k a))) (hy : look l y = some (.v (.int k b))) :
    Val P n W σ l X ⟨d, .call { callee := .builtin .max, args := #[x, y], argTypes := #[t, t'] }, ty, pos, aft, gq⟩ (.v (.int k (max a b))) := fun ac w hs _ => ⟨_, rfl, fun w' _ => by
  have hm : (if a < b then b else a) = max a b := by omega
  simp [execOp, resolve, invoke, builtin, Builtin.max_, Builtin.max2, hs.plain hx, hs.plain hy, List.foldlM, hm]⟩
end Go.Proofs.YthaahcdfnmfihaaDoor.A
/-
  The second engine: a constant's bytes: a row that was just made, marked as a text's.
-/
set_option maxRecDepth 100000
set_option linter.unusedSimpArgs false
set_option linter.unusedVariables false
namespace Go.Proofs.YthaahcdfnmfihaaDoor.A
open Go.RowKit

end Go.Proofs.YthaahcdfnmfihaaDoor.A
/-
  The second engine: words of 32 bits; parts of an array of the call's own as an array.
-/
set_option maxRecDepth 100000
set_option linter.unusedSimpArgs false
set_option linter.unusedVariables false
namespace Go.Proofs.YthaahcdfnmfihaaDoor
open Go.RowKit
/-! ### Regions that draw, whose last operation comes behind all others -/
section
variable {P : Program} {ops : Array Oper}
def anyZ (P : Program) (ops : Array Oper) (D : World → Prop) (z : Nat) (Q : Act → World → Prop) : Nat → Array Bool → Act → World → Prop
  | 0, listed, a, w => Region.ready .any ops listed = [] ∧ Q a w
  | fuel + 1, listed, a, w => (Region.ready .any ops listed = [] → Q a w) ∧
      ∀ i ∈ Region.ready .any ops listed, wpOp P ops NoExit i (fun a' w' => (i = z ∨ D w') ∧ anyZ P ops D z Q fuel (listed.setIfInBounds i true) a' w') a w
theorem anyZ.wpAny {D : World → Prop} {z : Nat} {Q : Exit → Act → World → Prop} : ∀ (fuel : Nat) (listed : Array Bool) (a : Act) (w : World),
    anyZ P ops D z (Q .normal) fuel listed a w → wpAny P .any ops Q fuel listed a w
  | 0, _, _, _, h => h
  | fuel + 1, _, _, _, h => ⟨h.1, fun i hi => wpOp_of_noExit (wpOp_mono (fun a' w' h3 => anyZ.wpAny fuel _ a' w' h3.2) (h.2 i hi))⟩
theorem anyZ.mono {D D' : World → Prop} {z : Nat} {Q : Act → World → Prop} (hD : ∀ w, D' w → D w) : ∀ (fuel : Nat) (listed : Array Bool) (a : Act) (w : World),
    anyZ P ops D' z Q fuel listed a w → anyZ P ops D z Q fuel listed a w
  | 0, _, _, _, h => h
  | fuel + 1, _, _, _, h => ⟨h.1, fun i hi => wpOp_mono (fun a' w' h3 => ⟨h3.1.imp_right (hD _), anyZ.mono hD fuel _ a' w' h3.2⟩) (h.2 i hi)⟩
/-- What is listed has all that it comes behind listed. -/
def Down (ops : Array Oper) (L : Array Bool) : Prop := ∀ (k : Nat) (o : Oper), ops[k]? = some o → L.getD k false = true → ∀ e ∈ o.after, Region.binds .any e = true → L.getD e.on false = true
theorem Down.set {L : Array Bool} (h : Down ops L) {j : Nat} (hj : j ∈ Region.ready .any ops L) : Down ops (L.setIfInBounds j true) := by
  intro k o hk hl e he hb
  refine getD_set_true ?_
  by_cases hkj : k = j
  · subst hkj
    obtain ⟨_, o', ho', hall⟩ := mem_ready.1 hj
    rw [ho'] at hk
    cases hk
    exact hall e he hb
  · have : (L.setIfInBounds j true).getD k false = L.getD k false := getD_set_ne false (Ne.symm hkj)
    exact h k o hk (this ▸ hl) e he hb
/-- Each but the last comes ahead of a later one. -/
def domOk (ops : Array Oper) : Bool := (List.range (ops.size - 1)).all fun i => (List.range ops.size).any fun j => Nat.blt i j && ((ops[j]?).map fun o => o.after.any fun e => Region.binds .any e && e.on == i).getD false
theorem dom_next (hd : domOk ops = true) {i : Nat} (hi : i + 1 < ops.size) : ∃ j o, i < j ∧ j < ops.size ∧ ops[j]? = some o ∧ ∃ e ∈ o.after, Region.binds .any e = true ∧ e.on = i := by
  unfold domOk at hd
  rw [List.all_eq_true] at hd
  have h1 := hd i (by rw [List.mem_range]; omega)
  rw [List.any_eq_true] at h1
  obtain ⟨j, hj, h2⟩ := h1
  rw [List.mem_range] at hj
  simp only [Bool.and_eq_true, Nat.blt_eq] at h2
  obtain ⟨h2, h3⟩ := h2
  cases ho : ops[j]? with
  | none => rw [ho] at h3; cases h3
  | some o =>
    rw [ho] at h3
    simp only [Option.map_some, Option.getD_some, Array.any_eq_true, Bool.and_eq_true, beq_iff_eq] at h3
    obtain ⟨m, hm, hb, hon⟩ := h3
    exact ⟨j, o, h2, hj, ho, _, Array.getElem_mem hm, hb, hon⟩
theorem dom_all (hd : domOk ops = true) {L : Array Bool} (hL : Down ops L) (hz : ops.size - 1 ∈ Region.ready .any ops L) : ∀ m i, ops.size - 1 - i = m → i + 1 < ops.size → L.getD i false = true := by
  intro m
  induction m using Nat.strongRecOn with
  | _ m ih =>
    intro i hm hi
    obtain ⟨j, o, hij, hj, ho, e, he, hb, hon⟩ := dom_next hd hi
    subst hon
    by_cases hjz : j = ops.size - 1
    · subst hjz
      obtain ⟨_, o', ho', hall⟩ := mem_ready.1 hz
      rw [ho'] at ho
      cases ho
      exact hall e he hb
    · exact hL j o ho (ih _ (by omega) j rfl (by omega)) e he hb
theorem getD_ff {L : Array Bool} {i : Nat} (h : L.getD i true = false) : L.getD i false = false := by
  rw [Array.getD_eq_getD_getElem?] at h ⊢
  cases hq : L[i]? with
  | none => rfl
  | some b => rw [hq] at h; exact h
theorem anyZ_first {D : World → Prop} {Q : Act → World → Prop} {i : Nat} {oi : Oper} {v : Value} (hd : domOk ops = true) (hiz : i + 1 < ops.size) (hi : ops[i]? = some oi) (hsel : ∀ (j : Nat) (o : Oper) cs b, ops[j]? = some o → o.op ≠ .select cs b) :
    ∀ (fuel : Nat) (listed : Array Bool) (a : Act) (w : World), D w → Down ops listed →
      (∀ j oj, ops[j]? = some oj → j ≠ i → listed.getD j true = false → (∀ e ∈ oj.after, Region.binds .any e = true → e.on ≠ i) → oi.apart ops oj = true) →
      i ∈ Region.ready .any ops listed → YieldsD P ops D oi v a →
      anyZ P ops D (ops.size - 1) Q fuel (listed.setIfInBounds i true) (a.put oi.dst v) w → anyZ P ops D (ops.size - 1) Q (fuel + 1) listed a w := by
  intro fuel
  induction fuel with
  | zero =>
    intro listed a w hDw _ _ hr hy H
    refine ⟨fun h => (by rw [h] at hr; cases hr), fun j hj => ?_⟩
    by_cases hji : j = i
    · subst hji; exact hy.wpOp hi hDw ⟨.inr hDw, H⟩
    · have := ready_mono hj hji
      rw [H.1] at this
      cases this
  | succ fuel ih =>
    intro listed a w hDw hdn hfree hr hy H
    refine ⟨fun h => (by rw [h] at hr; cases hr), fun j hj => ?_⟩
    by_cases hji : j = i
    · subst hji; exact hy.wpOp hi hDw ⟨.inr hDw, H⟩
    · have hjz : j ≠ ops.size - 1 := fun h => by
        subst h
        have h1 := dom_all hd hdn hj _ i rfl hiz
        have h0 := getD_ff (mem_ready.1 hr).1
        rw [h1] at h0
        cases h0
      have h1 := H.2 j (ready_mono hj hji)
      obtain ⟨hjun, oj, hoj, hall⟩ := mem_ready.1 hj
      have hnot : ∀ e ∈ oj.after, Region.binds .any e = true → e.on ≠ i := fun e he hb heq => by
        have h1 := hall e he hb
        have h0 := (mem_ready.1 hr).1
        rw [heq] at h1
        rw [getD_ff h0] at h1
        cases h1
      have h2 := wpOp_putD hoj (hfree j oj hoj hji hjun hnot) (fun cs b => hsel i oi cs b hi) (fun cs b => hsel j oj cs b hoj) hy h1
      have hfree' : ∀ k ok, ops[k]? = some ok → k ≠ i → (listed.setIfInBounds j true).getD k true = false →
          (∀ e ∈ ok.after, Region.binds .any e = true → e.on ≠ i) → oi.apart ops ok = true := fun k ok hk hki hun hno => by
        refine hfree k ok hk hki ?_ hno
        by_cases hjk : j = k
        · subst hjk; exact hjun
        · rw [getD_set_ne true hjk] at hun; exact hun
      refine wpOp_mono (fun a' w' h3 => ?_) h2
      have hDw' : D w' := h3.2.1.resolve_left hjz
      refine ⟨.inr hDw', ih (listed.setIfInBounds j true) a' w' hDw' (hdn.set hj) hfree' (ready_mono hr (Ne.symm hji)) h3.1 ?_⟩
      rw [Array.setIfInBounds_comm _ _ hji]
      exact h3.2.2
def planOkZ (ops : Array Oper) : Nat → Array Bool → Plan → Bool
  | _ + 1, listed, .nil => (Region.ready .any ops listed == [ops.size - 1]) && (Region.ready .any ops (listed.setIfInBounds (ops.size - 1) true)).isEmpty
  | n + 1, listed, .q i k => Nat.blt (i + 1) ops.size && Region.free .any ops listed i && (Region.ready .any ops listed).contains i && planOkZ ops n (listed.setIfInBounds i true) k
  | n + 1, listed, .e i k => (Region.ready .any ops listed == [i]) && planOkZ ops n (listed.setIfInBounds i true) k
  | n + 1, listed, .two i j k h => (Region.ready .any ops listed == [i, j]) && planOkZ ops n (listed.setIfInBounds i true) k && planOkZ ops n (listed.setIfInBounds j true) h
  | 0, _, _ => false
theorem planW.anyZ {Q : Act → World → Prop} (hs : Region.noSelect ops = true) (hd : domOk ops = true) : ∀ (n : Nat) (ix : Plan) (D : World → Prop) (listed : Array Bool) (a : Act) (w : World), planOkZ ops n listed ix = true → D w → Down ops listed →
    planW P ops (fun a w => wpOp P ops NoExit (ops.size - 1) Q a w) ix D a w → Proofs.YthaahcdfnmfihaaDoor.anyZ P ops D (ops.size - 1) Q n listed a w
  | 0, .nil, _, _, _, _, hok, _, _, _ => by cases hok
  | n + 1, .nil, D, listed, a, w, hok, hD, hdn, h => by
    simp only [planOkZ, Bool.and_eq_true, beq_iff_eq, List.isEmpty_iff] at hok
    refine ⟨fun h0 => (by rw [hok.1] at h0; cases h0), fun j hj => ?_⟩
    rw [hok.1] at hj
    simp only [List.mem_singleton] at hj
    subst hj
    refine wpOp_mono (fun a' w' hq => ⟨.inl rfl, ?_⟩) h
    cases n with
    | zero => exact ⟨hok.2, hq⟩
    | succ n => exact ⟨fun _ => hq, fun i hi => by rw [hok.2] at hi; cases hi⟩
  | n + 1, .q i ix, D, listed, a, w, hok, hD, hdn, ⟨o, v, hi, hy, h⟩ => by
    simp only [planOkZ, Bool.and_eq_true, Nat.blt_eq] at hok
    have hrd : i ∈ Region.ready .any ops listed := by simpa using hok.1.2
    exact anyZ_first hd hok.1.1.1 hi (Region.noSelect_spec hs) n listed a w hD hdn (Region.free_spec hi hok.1.1.2) hrd hy (planW.anyZ hs hd n ix D _ _ _ hok.2 hD (hdn.set hrd) h)
  | n + 1, .e i ix, D, listed, a, w, hok, hD, hdn, h => by
    simp only [planOkZ, Bool.and_eq_true, beq_iff_eq] at hok
    refine ⟨fun h0 => (by rw [hok.1] at h0; cases h0), fun j hj => ?_⟩
    have hj0 := hj
    rw [hok.1] at hj
    simp only [List.mem_singleton] at hj
    subst hj
    exact wpOp_mono (fun a' w' ⟨D', hD', hw', h'⟩ => ⟨.inr (hD' _ hw'), anyZ.mono hD' _ _ _ _ (planW.anyZ hs hd n ix D' _ a' w' hok.2 hw' (hdn.set hj0) h')⟩) h
  | n + 1, .two i j k m, D, listed, a, w, hok, hD, hdn, h => by
    simp only [planOkZ, Bool.and_eq_true, beq_iff_eq] at hok
    refine ⟨fun h0 => (by rw [hok.1.1] at h0; cases h0), fun r hr => ?_⟩
    have hr0 := hr
    rw [hok.1.1] at hr
    simp only [List.mem_cons, List.not_mem_nil, or_false] at hr
    rcases hr with rfl | rfl
    · exact wpOp_mono (fun a' w' ⟨D', hD', hw', h'⟩ => ⟨.inr (hD' _ hw'), anyZ.mono hD' _ _ _ _ (planW.anyZ hs hd n k D' _ a' w' hok.1.2 hw' (hdn.set hr0) h')⟩) h.1
    · exact wpOp_mono (fun a' w' ⟨D', hD', hw', h'⟩ => ⟨.inr (hD' _ hw'), anyZ.mono hD' _ _ _ _ (planW.anyZ hs hd n m D' _ a' w' hok.2 hw' (hdn.set hr0) h')⟩) h.2
theorem down_none (n : Nat) : Down ops (Array.replicate n false) := by
  intro k o _ h
  rw [Array.getD_eq_getD_getElem?, Array.getElem?_replicate] at h
  split at h <;> cases h
end
end Go.Proofs.YthaahcdfnmfihaaDoor
namespace Go.Proofs.YthaahcdfnmfihaaDoor.A
open Go.RowKit
section
variable {P : Program} {n : Nat} {W : Wd} {σ : Blks} {l : Slots} {o : Oper} {ops : Array Oper} {Q : Exit → Act → World → Prop}
end

abbrev Wo := BitVec 32
/-- A word's value. -/
def u32 (p : Wo) : Abs := .v (.int .u32 (p.toNat : Nat))
theorem putL_whole {L ys : List Abs} (h : ys.length = L.length) : putL L 0 ys = ys := by
  rw [putL_eq _ _ _ (Nat.zero_le _), Nat.zero_add, h]
  simp
section
variable {P : Program} {n : Nat} {W : Wd} {σ τ : Blks} {l : Slots} {X : List Nat} {x y z : Operand} {d : Option Nat} {ty t t' e : TypeId} {pos : String} {aft : Array Edge} {g : Option (Nat × Bool)} {k k' : IntKind} {b : Nat} {A B : Abs} {tab : List (Nat × TI)} {ops : Array Oper} {rest : List Oper} {Q : Exit → Act → World → Prop} {p q : Wo}
/-- A new block in a region that draws: what follows may change it. -/
theorem SX.alloc {ix : Plan} (hT : TabOk P tab) {i : TI} {j : Nat} (ht : ti tab t = some i) (hi : ops[j]? = some ⟨d, .alloc t, ty, pos, aft, g⟩) (hg : gd ops l ⟨d, .alloc t, ty, pos, aft, g⟩ = some true) (hd : lt? d n = true)
    (k : ∀ b, SX P ops ix (b :: X) (St n W (.blk b t (zabs i.zero) :: σ) (put? l d (.v (.pointer (some ⟨b, 0, none⟩))))) Q) : SX P ops (.e j ix) X (St n W σ l) Q := fun a w hs => by
  unfold planW wpOp
  simp only [hi, hs.wanted hg, if_true]
  refine .inl ?_
  unfold Oper.wp
  obtain ⟨zv, hz, hc⟩ := (hT t _ ht).zeroValue (w := w)
  obtain ⟨h1, h2⟩ := hs.mem.alloc t (reps_zabs i.zero)
  have hrun : (execOp a.eval ⟨d, .alloc t, ty, pos, aft, g⟩).run P w = .ok (.value (.pointer (some ⟨w.heap.size, 0, none⟩))) (w.alloc (row t i.zero)) := by
    simp [execOp, Instr.alloc, Sem.run_bind, hz, Result.andThen, newVar, newRow, newObj, Sem.run, hc, row]
  rw [hrun]
  refine ⟨fun w2 => Ext (w.heap.size :: X) (w.alloc (row t i.zero)) w2, fun w2 h3 => ((Ext.refl w).alloc _).trans (h3 : Ext (w.heap.size :: X) _ w2) fun x hx => ?_, Ext.refl _, k _ _ _ ((hs.to h1 h2).put hd (show rep _ _ (.v (.pointer (some ⟨w.heap.size, 0, none⟩))) _ from rfl))⟩
  rcases List.mem_cons.1 hx with rfl | hx
  · exact .inr (Nat.le_refl _)
  · exact .inl hx
/-- A call that takes the two pieces on top. -/
theorem After.two {ι : Type} {x1 x2 : It} {β : Blks} {τ' : ι → Blks} {y1 y2 : ι → It} {K : Blks → ι → Prop} (hr : x1.rids = [] ∧ x2.rids = []) (hτ : ∀ z, τ' z = [y1 z, y2 z]) (k : ∀ z, K (y1 z :: y2 z :: β) z) : After (x1 :: x2 :: β) [x1, x2] τ' K :=
  After.mid [] (β := β) rfl (by intro x hx; simp only [List.mem_cons, List.not_mem_nil, or_false] at hx; rcases hx with rfl | rfl; exact hr.1; exact hr.2) fun z => by rw [hτ z]; exact k z
/-- A row is never longer than may be. -/
theorem SC.rowLe {c : Code} {s i : Nat} {xs : List (List Abs)} (hs : slot l i = some (.sl s xs)) (k : xs.length ≤ maxLen → SC P c (St n W σ l) Q) : SC P c (St n W σ l) Q := fun a w h => by
  have h1 : rep (mids σ ++ W.G) w (.sl s xs) (a.eval (.tmp i)) := h.eval (x := .tmp i) hs
  obtain ⟨us, h2, _⟩ := h1
  obtain ⟨_, _, _, h3, h4, _⟩ := h2.shape
  exact k (Nat.le_trans h3 h4) a w h
theorem SE.perm {ex : Exit} (h : τ.Perm σ) (k : SE ex (St n W τ l) Q) : SE ex (St n W σ l) Q := fun a w hs => k a w (hs.perm h)
theorem SE.swap {ex : Exit} {x y : It} (k : SE ex (St n W (y :: x :: σ) l) Q) : SE ex (St n W (x :: y :: σ) l) Q := SE.perm (List.Perm.swap x y σ) k
end
section
variable {P : Program} {n : Nat} {W : Wd} {σ : Blks} {l : Slots} {X : List Nat} {x : Operand} {d : Option Nat} {ty t t' e tp : TypeId} {pos : String} {aft : Array Edge} {gq : Option (Nat × Bool)} {A : Abs} {ms : Array (String × TypeId)} {ops : Array Oper} {rest : List Oper} {Q : Exit → Act → World → Prop} {s : Nat} {xs : List (List Abs)}
end
end Go.Proofs.YthaahcdfnmfihaaDoor.A
/-
  Policies as trees, plain: how many nodes, how deep, whether numbers are in their ranges, whether they hold.
-/
set_option maxRecDepth 100000
set_option linter.unusedSimpArgs false
set_option linter.unusedVariables false
namespace Go.Proofs.YthaahcdfnmfihaaDoor.A
open Go.RowKit

inductive Frm where
  | mk (org at_ : Int) (kids : List Frm)
mutual
theorem Frm.ind {p : Frm → Prop} (h : ∀ o a ks, (∀ k ∈ ks, p k) → p (.mk o a ks)) : ∀ f, p f
  | .mk o a ks => h o a ks (Frm.inds h ks)
theorem Frm.inds {p : Frm → Prop} (h : ∀ o a ks, (∀ k ∈ ks, p k) → p (.mk o a ks)) : ∀ ks : List Frm, ∀ k ∈ ks, p k
  | [], _, hk => (by cases hk)
  | f :: ks, k, hk => by
    rcases List.mem_cons.1 hk with e | hk
    · rw [e]; exact Frm.ind h f
    · exact Frm.inds h ks k hk
end
mutual
def Frm.abs : Frm → List Abs
  | .mk o a ks => [int o, int a, .sl 3 (Frm.abss ks)]
def Frm.abss : List Frm → List (List Abs)
  | [] => []
  | k :: ks => k.abs :: Frm.abss ks
end
mutual
def Frm.nodes : Frm → Nat
  | .mk _ _ ks => 1 + Frm.nodess ks
def Frm.nodess : List Frm → Nat
  | [] => 0
  | k :: ks => k.nodes + Frm.nodess ks
end
mutual
def Frm.depth : Frm → Nat
  | .mk _ _ ks => 1 + Frm.depths ks
def Frm.depths : List Frm → Nat
  | [] => 0
  | k :: ks => max k.depth (Frm.depths ks)
end
mutual
def Frm.ranges (n : Int) : Frm → Bool
  | .mk o a ks => match ks with
    | [] => decide (0 ≤ o ∧ o < n ∧ a = 0)
    | k :: ks => (k.ranges n && Frm.rangess n ks) && decide (1 ≤ a ∧ a ≤ ((ks.length + 1 : Nat) : Int) ∧ o = 0)
def Frm.rangess (n : Int) : List Frm → Bool
  | [] => true
  | k :: ks => k.ranges n && Frm.rangess n ks
end
mutual
def Frm.holds (s : Wo) : Frm → Bool
  | .mk o a ks => match ks with
    | [] => s.getLsbD o.toNat
    | k :: ks => decide (a ≤ (((if k.holds s then 1 else 0) + Frm.holdss s ks : Nat) : Int))
def Frm.holdss (s : Wo) : List Frm → Nat
  | [] => 0
  | k :: ks => (if k.holds s then 1 else 0) + Frm.holdss s ks
end
mutual
/-- Numbers as they come in. -/
def Frm.ints : Frm → Prop
  | .mk o a ks => InR .i64 o ∧ InR .i64 a ∧ Frm.intss ks
def Frm.intss : List Frm → Prop
  | [] => True
  | k :: ks => k.ints ∧ Frm.intss ks
end
theorem Frm.abss_eq : ∀ ks : List Frm, Frm.abss ks = ks.map Frm.abs
  | [] => rfl
  | k :: ks => by rw [Frm.abss, Frm.abss_eq ks, List.map_cons]
theorem Frm.abs_mk (o a : Int) (ks : List Frm) : (Frm.mk o a ks).abs = [int o, int a, .sl 3 (ks.map Frm.abs)] := by rw [Frm.abs, Frm.abss_eq]
theorem Frm.abs_len (f : Frm) : f.abs.length = 3 := by
  cases f
  rw [Frm.abs_mk]
  rfl
theorem Frm.abs_ones (f : Frm) : ones f.abs = true := by
  cases f
  rw [Frm.abs_mk]
  rfl
theorem Frm.nodess_app : ∀ (l m : List Frm), Frm.nodess (l ++ m) = Frm.nodess l + Frm.nodess m
  | [], m => by simp [Frm.nodess]
  | k :: l, m => by rw [List.cons_append, Frm.nodess, Frm.nodess_app l m, Frm.nodess, Nat.add_assoc]
theorem Frm.nodess_one (k : Frm) : Frm.nodess [k] = k.nodes := by simp [Frm.nodess]
theorem Frm.depths_app : ∀ (l m : List Frm), Frm.depths (l ++ m) = max (Frm.depths l) (Frm.depths m)
  | [], m => by simp [Frm.depths]
  | k :: l, m => by rw [List.cons_append, Frm.depths, Frm.depths_app l m, Frm.depths, Nat.max_assoc]
theorem Frm.depths_one (k : Frm) : Frm.depths [k] = k.depth := by simp [Frm.depths]
theorem Frm.rangess_iff {n : Int} : ∀ {ks : List Frm}, Frm.rangess n ks = true ↔ ∀ k ∈ ks, k.ranges n = true
  | [] => by simp [Frm.rangess]
  | k :: ks => by rw [Frm.rangess, Bool.and_eq_true, Frm.rangess_iff]; simp
theorem Frm.ranges_leaf (n o a : Int) : (Frm.mk o a []).ranges n = decide (0 ≤ o ∧ o < n ∧ a = 0) := by rw [Frm.ranges]
theorem Frm.ranges_node (n o a : Int) {ks : List Frm} (h : ks ≠ []) : (Frm.mk o a ks).ranges n = (Frm.rangess n ks && decide (1 ≤ a ∧ a ≤ ((ks.length : Nat) : Int) ∧ o = 0)) := by
  cases ks with
  | nil => exact absurd rfl h
  | cons k ks => rw [Frm.ranges, Frm.rangess, List.length_cons]
theorem Frm.nodes_mk (o a : Int) (ks : List Frm) : (Frm.mk o a ks).nodes = 1 + Frm.nodess ks := by rw [Frm.nodes]
theorem Frm.depth_mk (o a : Int) (ks : List Frm) : (Frm.mk o a ks).depth = 1 + Frm.depths ks := by rw [Frm.depth]
theorem Frm.nodes_mem {ks : List Frm} {k : Frm} (h : k ∈ ks) : k.nodes ≤ Frm.nodess ks := by
  induction ks with
  | nil => cases h
  | cons x ks ih =>
    rw [Frm.nodess]
    rcases List.mem_cons.1 h with e | h
    · rw [e]; omega
    · have := ih h; omega
theorem Frm.nodes_pos (f : Frm) : 1 ≤ f.nodes := by
  cases f
  rw [Frm.nodes_mk]
  omega
theorem Frm.length_le : ∀ ks : List Frm, ks.length ≤ Frm.nodess ks
  | [] => Nat.le_refl _
  | k :: ks => by
    have := Frm.length_le ks
    have := k.nodes_pos
    rw [Frm.nodess, List.length_cons]
    omega
theorem Frm.depths_mem {ks : List Frm} {k : Frm} (h : k ∈ ks) : k.depth ≤ Frm.depths ks := by
  induction ks with
  | nil => cases h
  | cons x ks ih =>
    rw [Frm.depths]
    rcases List.mem_cons.1 h with e | h
    · rw [e]; omega
    · have := ih h; omega
theorem Frm.depth_le (f : Frm) : f.depth ≤ f.nodes := Frm.ind (p := fun f => f.depth ≤ f.nodes) (fun o a ks ih => by
  rw [Frm.depth_mk, Frm.nodes_mk]
  have : ∀ l : List Frm, (∀ k ∈ l, k.depth ≤ k.nodes) → Frm.depths l ≤ Frm.nodess l := by
    intro l
    induction l with
    | nil => intro _; exact Nat.le_refl _
    | cons k l ih2 =>
      intro h
      have h1 := h k List.mem_cons_self
      have h2 := ih2 fun k hk => h k (List.mem_cons_of_mem _ hk)
      rw [Frm.depths, Frm.nodess]
      omega
  have := this ks ih
  omega) f
theorem Frm.take_nodes {ks : List Frm} (z : Nat) : Frm.nodess (ks.take z) ≤ Frm.nodess ks := by
  conv => rhs; rw [← List.take_append_drop z ks]
  rw [Frm.nodess_app]
  omega
theorem Frm.take_nodes1 {ks : List Frm} {z : Nat} (h : z < ks.length) : Frm.nodess (ks.take (z + 1)) = Frm.nodess (ks.take z) + ks[z].nodes := by
  rw [List.take_succ_eq_append_getElem h, Frm.nodess_app, Frm.nodess_one]
theorem Frm.take_depths1 {ks : List Frm} {z : Nat} (h : z < ks.length) : Frm.depths (ks.take (z + 1)) = max (Frm.depths (ks.take z)) ks[z].depth := by
  rw [List.take_succ_eq_append_getElem h, Frm.depths_app, Frm.depths_one]
/-- What layer 8 says of a policy. -/
def Frm.check (f : Frm) (n : Int) : Int := if n < 1 ∨ 7 < n then 1 else if 32 < f.nodes then 4 else if 5 < f.depth then 3 else if f.ranges n = true then 0 else 5
theorem Frm.check_ok {f : Frm} {n : Int} : f.check n = 0 ↔ (1 ≤ n ∧ n ≤ 7) ∧ f.nodes ≤ 32 ∧ f.depth ≤ 5 ∧ f.ranges n = true := by
  unfold Frm.check
  by_cases h1 : n < 1 ∨ 7 < n
  · rw [if_pos h1]
    constructor
    · intro h; cases h
    · intro h; omega
  · rw [if_neg h1]
    by_cases h2 : 32 < f.nodes
    · rw [if_pos h2]
      constructor
      · intro h; cases h
      · intro h; omega
    · rw [if_neg h2]
      by_cases h3 : 5 < f.depth
      · rw [if_pos h3]
        constructor
        · intro h; cases h
        · intro h; omega
      · rw [if_neg h3]
        by_cases h4 : f.ranges n = true
        · rw [if_pos h4]
          exact ⟨fun _ => ⟨by omega, by omega, by omega, h4⟩, fun _ => rfl⟩
        · rw [if_neg h4]
          constructor
          · intro h; cases h
          · intro h; exact absurd h.2.2.2 h4
theorem Frm.ranges_mono {n m : Int} (h : n ≤ m) (f : Frm) : f.ranges n = true → f.ranges m = true := Frm.ind (p := fun f => f.ranges n = true → f.ranges m = true) (fun o a ks ih => by
  by_cases hk : ks = []
  · subst hk
    rw [Frm.ranges_leaf, Frm.ranges_leaf, decide_eq_true_iff, decide_eq_true_iff]
    omega
  · rw [Frm.ranges_node n o a hk, Frm.ranges_node m o a hk, Bool.and_eq_true, Bool.and_eq_true, Frm.rangess_iff, Frm.rangess_iff]
    exact fun h => ⟨fun k hk => ih k hk (h.1 k hk), h.2⟩) f
theorem Frm.kids_range {n o a : Int} {ks : List Frm} (h : (Frm.mk o a ks).ranges n = true) : ∀ k ∈ ks, k.ranges n = true := by
  by_cases hk : ks = []
  · subst hk
    intro k hk; cases hk
  · rw [Frm.ranges_node n o a hk, Bool.and_eq_true, Frm.rangess_iff] at h
    exact h.1
end Go.Proofs.YthaahcdfnmfihaaDoor.A
/-
  Policies' texts, plain: which policy a text tells.
-/
set_option maxRecDepth 100000
set_option linter.unusedSimpArgs false
set_option linter.unusedVariables false
namespace Go.Proofs.YthaahcdfnmfihaaDoor.A
open Go.RowKit

abbrev Txt := List UInt8
def isDig (c : UInt8) : Bool := decide (48 ≤ c.toNat ∧ c.toNat ≤ 57)
/-- Without blanks at its beginning. -/
def bare : Txt → Txt
  | [] => []
  | c :: t => if c = 32 then bare t else c :: t
theorem bare_len : ∀ t : Txt, (bare t).length ≤ t.length
  | [] => Nat.le_refl _
  | c :: t => by
    unfold bare
    split
    · have := bare_len t
      rw [List.length_cons]
      omega
    · exact Nat.le_refl _
theorem bare_bare : ∀ t : Txt, bare (bare t) = bare t
  | [] => rfl
  | c :: t => by
    by_cases h : c = 32
    · rw [show bare (c :: t) = bare t from if_pos h]
      exact bare_bare t
    · rw [show bare (c :: t) = c :: t from if_neg h, show bare (c :: t) = c :: t from if_neg h]
def begins (t s : Txt) : Bool := s.isPrefixOf t
theorem begins_iff {t s : Txt} : begins t s = true ↔ s.length ≤ t.length ∧ t.take s.length = s := by
  unfold begins
  rw [List.isPrefixOf_iff_prefix]
  constructor
  · rintro ⟨r, rfl⟩
    simp
  · rintro ⟨h1, h2⟩
    exact ⟨t.drop s.length, (congrArg (· ++ t.drop s.length) h2.symm).trans (List.take_append_drop _ _)⟩
def digs (t : Txt) : Txt := t.takeWhile isDig
theorem digs_len (t : Txt) : (digs t).length ≤ t.length := (List.takeWhile_sublist _).length_le
def decV (l : Txt) : Nat := l.foldl (fun a c => a * 10 + (c.toNat - 48)) 0
/-- A number, and the rest. -/
def numT (t : Txt) : Option (Nat × Txt) :=
  if (digs t).length = 0 ∨ 4 < (digs t).length ∨ (1 < (digs t).length ∧ (digs t).head? = some 48) then none else some (decV (digs t), t.drop (digs t).length)
/-- Policies in brackets, one behind the other; the rest. -/
def rowL (p : Txt → Option (Frm × Txt)) : Nat → Txt → List Frm → Option (List Frm × Txt)
  | 0, _, _ => none
  | n + 1, t, acc => match p t with
    | none => none
    | some (f, r) => if begins (bare r) [41] = true then some (acc ++ [f], (bare r).drop 1) else if begins (bare r) [44] = true then rowL p n ((bare r).drop 1) (acc ++ [f]) else none
def rowT (p : Txt → Option (Frm × Txt)) (t : Txt) : Option (List Frm × Txt) := if begins (bare t) [40] = true then rowL p (t.length + 1) ((bare t).drop 1) [] else none
/-- A policy of so many levels at most, and the rest. -/
def polT : Nat → Txt → Option (Frm × Txt)
  | 0, _ => none
  | k + 1, t =>
    if begins (bare t) [97, 108, 108] = true then (rowT (polT k) ((bare t).drop 3)).map fun x => (.mk 0 x.1.length x.1, x.2)
    else if begins (bare t) [97, 110, 121] = true then (rowT (polT k) ((bare t).drop 3)).map fun x => (.mk 0 1 x.1, x.2)
    else match numT (bare t) with
    | none => none
    | some (v, r) => if begins (bare r) [111, 102] = true then (if 1 ≤ v ∧ v ≤ 99 then (rowT (polT k) ((bare r).drop 2)).map fun x => (.mk 0 v x.1, x.2) else none) else some (.mk v 0 [], r)
theorem begins_len {t s : Txt} (h : begins t s = true) : s.length ≤ t.length := (begins_iff.1 h).1
/-- What is read gets shorter. -/
def Short (p : Txt → Option (Frm × Txt)) : Prop := ∀ t f r, p t = some (f, r) → r.length < t.length
theorem rowL_short {p : Txt → Option (Frm × Txt)} (hp : Short p) : ∀ (n : Nat) (t : Txt) (acc : List Frm) (l : List Frm) (r : Txt), rowL p n t acc = some (l, r) → r.length < t.length
  | 0, t, acc, l, r, h => by cases h
  | n + 1, t, acc, l, r, h => by
    unfold rowL at h
    cases hq : p t with
    | none => rw [hq] at h; cases h
    | some x =>
      obtain ⟨f, r1⟩ := x
      rw [hq] at h
      have h1 := hp t f r1 hq
      have h2 := bare_len r1
      dsimp only at h
      split at h
      · cases h
        rw [List.length_drop]
        omega
      · split at h
        · have h3 := rowL_short hp n _ _ _ _ h
          rw [List.length_drop] at h3
          omega
        · cases h
theorem rowT_short {p : Txt → Option (Frm × Txt)} (hp : Short p) {t : Txt} {l : List Frm} {r : Txt} (h : rowT p t = some (l, r)) : r.length < t.length := by
  unfold rowT at h
  split at h
  · have h1 := rowL_short hp _ _ _ _ _ h
    have h2 := bare_len t
    rw [List.length_drop] at h1
    omega
  · cases h
theorem numT_short {t : Txt} {v : Nat} {r : Txt} (h : numT t = some (v, r)) : r.length < t.length := by
  unfold numT at h
  split at h
  · cases h
  · next hn =>
    cases h
    have := digs_len t
    rw [List.length_drop]
    omega
theorem polT_short : ∀ k, Short (polT k)
  | 0, t, f, r, h => by cases h
  | k + 1, t, f, r, h => by
    have hb := bare_len t
    unfold polT at h
    split at h
    · next hs =>
      cases hr : rowT (polT k) ((bare t).drop 3) with
      | none => rw [hr] at h; cases h
      | some x =>
        rw [hr] at h
        cases h
        have h1 := rowT_short (polT_short k) hr
        rw [List.length_drop] at h1
        omega
    · split at h
      · next hs =>
        cases hr : rowT (polT k) ((bare t).drop 3) with
        | none => rw [hr] at h; cases h
        | some x =>
          rw [hr] at h
          cases h
          have h1 := rowT_short (polT_short k) hr
          rw [List.length_drop] at h1
          omega
      · cases hn : numT (bare t) with
        | none => rw [hn] at h; cases h
        | some x =>
          obtain ⟨v, r1⟩ := x
          rw [hn] at h
          dsimp only at h
          have h1 := numT_short hn
          have h2 := bare_len r1
          split at h
          · split at h
            · cases hr : rowT (polT k) ((bare r1).drop 2) with
              | none => rw [hr] at h; cases h
              | some x =>
                rw [hr] at h
                cases h
                have h3 := rowT_short (polT_short k) hr
                rw [List.length_drop] at h3
                omega
            · cases h
          · cases h
            omega
/-- What a text tells, of n organizations. -/
def parseF (t : Txt) (n : Int) : Frm × Int :=
  if 200 < t.length then (.mk 0 0 [], 3) else match polT 10 t with
    | none => (.mk 0 0 [], 2)
    | some (f, r) => if bare r ≠ [] then (.mk 0 0 [], 2) else if f.check n ≠ 0 then (.mk 0 0 [], f.check n) else (f, 0)
/-! ### Numbers -/
theorem decV_snoc (l : Txt) (c : UInt8) : decV (l ++ [c]) = decV l * 10 + (c.toNat - 48) := by
  unfold decV
  rw [List.foldl_append]
  rfl
theorem decV_lt : ∀ (l : Txt), (∀ c ∈ l, isDig c = true) → decV l < 10 ^ l.length := fun l => by
  have aux : ∀ (l : Txt) (a : Nat), (∀ c ∈ l, isDig c = true) → l.foldl (fun a c => a * 10 + (c.toNat - 48)) a < (a + 1) * 10 ^ l.length := by
    intro l
    induction l with
    | nil => intro a _; simp
    | cons c l ih =>
      intro a h
      have h1 := ih (a * 10 + (c.toNat - 48)) fun d hd => h d (List.mem_cons_of_mem _ hd)
      have h2 : isDig c = true := h c List.mem_cons_self
      have h3 := of_decide_eq_true h2
      rw [List.foldl_cons, List.length_cons, Nat.pow_succ]
      have h4 : (a * 10 + (c.toNat - 48) + 1) * 10 ^ l.length ≤ ((a + 1) * 10) * 10 ^ l.length := Nat.mul_le_mul_right _ (by omega)
      have h5 : (a + 1) * (10 ^ l.length * 10) = ((a + 1) * 10) * 10 ^ l.length := by rw [Nat.mul_comm (10 ^ l.length) 10, ← Nat.mul_assoc]
      omega
  intro h
  have := aux l 0 h
  simpa [decV] using this
theorem digs_dig (t : Txt) : ∀ c ∈ digs t, isDig c = true := fun c hc => by
  unfold digs at hc
  have aux : ∀ t : Txt, c ∈ t.takeWhile isDig → isDig c = true := by
    intro t
    induction t with
    | nil => intro h; simp at h
    | cons d t ih =>
      intro h
      rw [List.takeWhile_cons] at h
      split at h
      · rcases List.mem_cons.1 h with rfl | h
        · assumption
        · exact ih h
      · simp at h
  exact aux t hc
theorem numT_le {t : Txt} {v : Nat} {r : Txt} (h : numT t = some (v, r)) : v ≤ 9999 := by
  unfold numT at h
  split at h
  · cases h
  · next hn =>
    cases h
    have h1 := decV_lt (digs t) (digs_dig t)
    have h2 : 10 ^ (digs t).length ≤ 10 ^ 4 := Nat.pow_le_pow_right (by omega) (by omega)
    omega
end Go.Proofs.YthaahcdfnmfihaaDoor.A
/-
  The second engine: regions that draw, in two parts; an element of a row of the call's own stored; words of 64 bits.
-/
set_option maxRecDepth 100000
set_option linter.unusedSimpArgs false
set_option linter.unusedVariables false
namespace Go.Proofs.YthaahcdfnmfihaaDoor
open Go.RowKit
section
variable {P : Program} {ops : Array Oper}
/-- In whatever order; what the operations from m on leave is asked nothing. -/
def anyS (P : Program) (ops : Array Oper) (D : World → Prop) (m : Nat) (Q : Act → World → Prop) : Nat → Array Bool → Act → World → Prop
  | 0, listed, a, w => Region.ready .any ops listed = [] ∧ Q a w
  | fuel + 1, listed, a, w => (Region.ready .any ops listed = [] → Q a w) ∧
      ∀ i ∈ Region.ready .any ops listed, wpOp P ops NoExit i (fun a' w' => (m ≤ i ∨ D w') ∧ anyS P ops D m Q fuel (listed.setIfInBounds i true) a' w') a w
theorem anyS.wpAny {D : World → Prop} {m : Nat} {Q : Exit → Act → World → Prop} : ∀ (fuel : Nat) (listed : Array Bool) (a : Act) (w : World),
    anyS P ops D m (Q .normal) fuel listed a w → wpAny P .any ops Q fuel listed a w
  | 0, _, _, _, h => h
  | fuel + 1, _, _, _, h => ⟨h.1, fun i hi => wpOp_of_noExit (wpOp_mono (fun a' w' h3 => anyS.wpAny fuel _ a' w' h3.2) (h.2 i hi))⟩
theorem anyS.mono {D D' : World → Prop} {m : Nat} {Q : Act → World → Prop} (hD : ∀ w, D' w → D w) : ∀ (fuel : Nat) (listed : Array Bool) (a : Act) (w : World),
    anyS P ops D' m Q fuel listed a w → anyS P ops D m Q fuel listed a w
  | 0, _, _, _, h => h
  | fuel + 1, _, _, _, h => ⟨h.1, fun i hi => wpOp_mono (fun a' w' h3 => ⟨h3.1.imp_right (hD _), anyS.mono hD fuel _ a' w' h3.2⟩) (h.2 i hi)⟩
/-- Those ahead of m are listed. -/
def headIn (m : Nat) (L : Array Bool) : Bool := (List.range m).all fun i => L.getD i false
theorem headIn_set {m : Nat} {L : Array Bool} (h : headIn m L = true) (j : Nat) : headIn m (L.setIfInBounds j true) = true := by
  unfold headIn at *
  rw [List.all_eq_true] at *
  exact fun i hi => getD_set_true (h i hi)
theorem headIn_get {m : Nat} {L : Array Bool} (h : headIn m L = true) {i : Nat} (hi : i < m) : L.getD i false = true := by
  unfold headIn at h
  rw [List.all_eq_true] at h
  exact h i (List.mem_range.2 hi)
theorem anyD.toS {D D2 : World → Prop} {m : Nat} {Q : Act → World → Prop} : ∀ (fuel : Nat) (listed : Array Bool) (a : Act) (w : World), headIn m listed = true →
    anyD P ops D2 Q fuel listed a w → anyS P ops D m Q fuel listed a w
  | 0, _, _, _, _, h => h
  | fuel + 1, L, _, _, hL, h => ⟨h.1, fun i hi => wpOp_mono (fun a' w' h3 => ⟨.inl (by
      rcases Nat.lt_or_ge i m with h1 | h1
      · have h2 := headIn_get hL h1
        rw [getD_ff (mem_ready.1 hi).1] at h2
        cases h2
      · exact h1), anyD.toS fuel _ a' w' (headIn_set hL i) h3.2⟩) (h.2 i hi)⟩
/-- Each ahead of m comes ahead of a later one up to m; each behind m comes behind one from m on. -/
def domOkS (ops : Array Oper) (m : Nat) : Bool :=
  ((List.range m).all fun i => (List.range (m + 1)).any fun j => Nat.blt i j && ((ops[j]?).map fun o => o.after.any fun e => Region.binds .any e && e.on == i).getD false) &&
  ((List.range ops.size).all fun j => Nat.ble j m || ((ops[j]?).map fun o => o.after.any fun e => Region.binds .any e && Nat.ble m e.on && Nat.blt e.on j).getD false)
theorem domS_next {m : Nat} (hd : domOkS ops m = true) {i : Nat} (hi : i < m) : ∃ j o, i < j ∧ j ≤ m ∧ ops[j]? = some o ∧ ∃ e ∈ o.after, Region.binds .any e = true ∧ e.on = i := by
  unfold domOkS at hd
  rw [Bool.and_eq_true, List.all_eq_true] at hd
  have h1 := hd.1 i (by rw [List.mem_range]; omega)
  rw [List.any_eq_true] at h1
  obtain ⟨j, hj, h2⟩ := h1
  rw [List.mem_range] at hj
  simp only [Bool.and_eq_true, Nat.blt_eq] at h2
  obtain ⟨h2, h3⟩ := h2
  cases ho : ops[j]? with
  | none => rw [ho] at h3; cases h3
  | some o =>
    rw [ho] at h3
    simp only [Option.map_some, Option.getD_some, Array.any_eq_true, Bool.and_eq_true, beq_iff_eq] at h3
    obtain ⟨x, hx, hb, hon⟩ := h3
    exact ⟨j, o, h2, by omega, ho, _, Array.getElem_mem hx, hb, hon⟩
theorem domS_back {m : Nat} (hd : domOkS ops m = true) {j : Nat} {o : Oper} (ho : ops[j]? = some o) (hj : m < j) : ∃ e ∈ o.after, Region.binds .any e = true ∧ m ≤ e.on ∧ e.on < j := by
  unfold domOkS at hd
  rw [Bool.and_eq_true, List.all_eq_true, List.all_eq_true] at hd
  have h1 := hd.2 j (by rw [List.mem_range]; exact (Array.getElem?_eq_some_iff.1 ho).1)
  rw [ho] at h1
  simp only [Option.map_some, Option.getD_some, Bool.or_eq_true, Nat.ble_eq, Array.any_eq_true, Bool.and_eq_true, Nat.blt_eq] at h1
  rcases h1 with h1 | ⟨x, hx, ⟨hb, h2⟩, h3⟩
  · omega
  · exact ⟨_, Array.getElem_mem hx, hb, h2, h3⟩
/-- All that one comes behind is listed. -/
def Due (ops : Array Oper) (L : Array Bool) (j : Nat) : Prop := ∃ o, ops[j]? = some o ∧ ∀ e ∈ o.after, Region.binds .any e = true → L.getD e.on false = true
theorem Due.down {m : Nat} (hd : domOkS ops m = true) {L : Array Bool} (hL : Down ops L) (hin : ∀ k, L.getD k false = true → ∃ o, ops[k]? = some o) : ∀ j, m ≤ j → Due ops L j → Due ops L m := by
  intro j
  induction j using Nat.strongRecOn with
  | _ j ih =>
    intro hj h
    by_cases hjm : j = m
    · subst hjm; exact h
    · obtain ⟨o, ho, hall⟩ := h
      obtain ⟨e, he, hb, h1, h2⟩ := domS_back hd ho (by omega)
      have h3 := hall e he hb
      obtain ⟨o2, ho2⟩ := hin _ h3
      exact ih e.on h2 h1 ⟨o2, ho2, hL _ _ ho2 h3⟩
theorem domS_all {m : Nat} (hd : domOkS ops m = true) {L : Array Bool} (hL : Down ops L) (hz : Due ops L m) : ∀ k i, m - i = k → i < m → L.getD i false = true := by
  intro k
  induction k using Nat.strongRecOn with
  | _ k ih =>
    intro i hk hi
    obtain ⟨j, o, hij, hj, ho, e, he, hb, hon⟩ := domS_next hd hi
    subst hon
    by_cases hjz : j = m
    · subst hjz
      obtain ⟨o', ho', hall⟩ := hz
      rw [ho'] at ho
      cases ho
      exact hall e he hb
    · exact hL j o ho (ih _ (by omega) j rfl (by omega)) e he hb
/-- What is listed is there, with all that it comes behind. -/
structure Listed (ops : Array Oper) (L : Array Bool) : Prop where
  down : Down ops L
  there : ∀ k, L.getD k false = true → ∃ o, ops[k]? = some o
theorem Listed.set {L : Array Bool} (h : Listed ops L) {j : Nat} (hj : j ∈ Region.ready .any ops L) : Listed ops (L.setIfInBounds j true) := by
  refine ⟨h.down.set hj, fun k hk => ?_⟩
  by_cases hkj : k = j
  · subst hkj
    obtain ⟨_, o, ho, _⟩ := mem_ready.1 hj
    exact ⟨o, ho⟩
  · have : (L.setIfInBounds j true).getD k false = L.getD k false := getD_set_ne false (Ne.symm hkj)
    exact h.there k (this ▸ hk)
theorem Listed.none (n : Nat) : Listed ops (Array.replicate n false) := by
  refine ⟨down_none n, fun k h => ?_⟩
  rw [Array.getD_eq_getD_getElem?, Array.getElem?_replicate] at h
  split at h <;> cases h
theorem anyS_first {D : World → Prop} {m : Nat} {Q : Act → World → Prop} {i : Nat} {oi : Oper} {v : Value} (hd : domOkS ops m = true) (hiz : i < m) (hi : ops[i]? = some oi) (hsel : ∀ (j : Nat) (o : Oper) cs b, ops[j]? = some o → o.op ≠ .select cs b) :
    ∀ (fuel : Nat) (listed : Array Bool) (a : Act) (w : World), D w → Listed ops listed →
      (∀ j oj, ops[j]? = some oj → j ≠ i → listed.getD j true = false → (∀ e ∈ oj.after, Region.binds .any e = true → e.on ≠ i) → oi.apart ops oj = true) →
      i ∈ Region.ready .any ops listed → YieldsD P ops D oi v a →
      anyS P ops D m Q fuel (listed.setIfInBounds i true) (a.put oi.dst v) w → anyS P ops D m Q (fuel + 1) listed a w := by
  intro fuel
  induction fuel with
  | zero =>
    intro listed a w hDw _ _ hr hy H
    refine ⟨fun h => (by rw [h] at hr; cases hr), fun j hj => ?_⟩
    by_cases hji : j = i
    · subst hji; exact hy.wpOp hi hDw ⟨.inr hDw, H⟩
    · have := ready_mono hj hji
      rw [H.1] at this
      cases this
  | succ fuel ih =>
    intro listed a w hDw hdn hfree hr hy H
    refine ⟨fun h => (by rw [h] at hr; cases hr), fun j hj => ?_⟩
    by_cases hji : j = i
    · subst hji; exact hy.wpOp hi hDw ⟨.inr hDw, H⟩
    · have hjz : ¬ m ≤ j := fun h => by
        have h2 : Due ops listed j := (mem_ready.1 hj).2
        have h1 := domS_all hd hdn.down (h2.down hd hdn.down hdn.there j h) _ i rfl hiz
        have h0 := getD_ff (mem_ready.1 hr).1
        rw [h1] at h0
        cases h0
      have h1 := H.2 j (ready_mono hj hji)
      obtain ⟨hjun, oj, hoj, hall⟩ := mem_ready.1 hj
      have hnot : ∀ e ∈ oj.after, Region.binds .any e = true → e.on ≠ i := fun e he hb heq => by
        have h1 := hall e he hb
        have h0 := (mem_ready.1 hr).1
        rw [heq] at h1
        rw [getD_ff h0] at h1
        cases h1
      have h2 := wpOp_putD hoj (hfree j oj hoj hji hjun hnot) (fun cs b => hsel i oi cs b hi) (fun cs b => hsel j oj cs b hoj) hy h1
      have hfree' : ∀ k ok, ops[k]? = some ok → k ≠ i → (listed.setIfInBounds j true).getD k true = false →
          (∀ e ∈ ok.after, Region.binds .any e = true → e.on ≠ i) → oi.apart ops ok = true := fun k ok hk hki hun hno => by
        refine hfree k ok hk hki ?_ hno
        by_cases hjk : j = k
        · subst hjk; exact hjun
        · rw [getD_set_ne true hjk] at hun; exact hun
      refine wpOp_mono (fun a' w' h3 => ?_) h2
      have hDw' : D w' := h3.2.1.resolve_left hjz
      refine ⟨.inr hDw', ih (listed.setIfInBounds j true) a' w' hDw' (hdn.set hj) hfree' (ready_mono hr (Ne.symm hji)) h3.1 ?_⟩
      rw [Array.setIfInBounds_comm _ _ hji]
      exact h3.2.2
def planOkS (ops : Array Oper) (m : Nat) (k2 : Plan) : Nat → Array Bool → Plan → Bool
  | n, listed, .nil => headIn m listed && planOk ops n listed k2
  | n + 1, listed, .q i k => Nat.blt i m && Region.free .any ops listed i && (Region.ready .any ops listed).contains i && planOkS ops m k2 n (listed.setIfInBounds i true) k
  | n + 1, listed, .e i k => (Region.ready .any ops listed == [i]) && planOkS ops m k2 n (listed.setIfInBounds i true) k
  | n + 1, listed, .two i j k h => (Region.ready .any ops listed == [i, j]) && planOkS ops m k2 n (listed.setIfInBounds i true) k && planOkS ops m k2 n (listed.setIfInBounds j true) h
  | 0, _, _ => false
/-- What is to be shown ahead of a region's other part. -/
def RestOf (P : Program) (ops : Array Oper) (k2 : Plan) (Q : Exit → Act → World → Prop) : Exit → Act → World → Prop := fun _ a w => ∃ D : World → Prop, D w ∧ planW P ops (Q .normal) k2 D a w
theorem planW.anyS {Q : Exit → Act → World → Prop} {m : Nat} {k2 : Plan} (hs : Region.noSelect ops = true) (hd : domOkS ops m = true) : ∀ (n : Nat) (ix : Plan) (D : World → Prop) (listed : Array Bool) (a : Act) (w : World), planOkS ops m k2 n listed ix = true → D w → Listed ops listed →
    planW P ops (RestOf P ops k2 Q .normal) ix D a w → Proofs.YthaahcdfnmfihaaDoor.anyS P ops D m (Q .normal) n listed a w
  | n, .nil, D, listed, a, w, hok, hD, hdn, ⟨D2, h1, h2⟩ => by
    unfold planOkS at hok
    simp only [Bool.and_eq_true] at hok
    exact anyD.toS _ _ _ _ hok.1 (planW.anyD hs n k2 D2 _ _ _ hok.2 h1 h2)
  | n + 1, .q i ix, D, listed, a, w, hok, hD, hdn, ⟨o, v, hi, hy, h⟩ => by
    simp only [planOkS, Bool.and_eq_true, Nat.blt_eq] at hok
    have hrd : i ∈ Region.ready .any ops listed := by simpa using hok.1.2
    exact anyS_first hd hok.1.1.1 hi (Region.noSelect_spec hs) n listed a w hD hdn (Region.free_spec hi hok.1.1.2) hrd hy (planW.anyS hs hd n ix D _ _ _ hok.2 hD (hdn.set hrd) h)
  | n + 1, .e i ix, D, listed, a, w, hok, hD, hdn, h => by
    simp only [planOkS, Bool.and_eq_true, beq_iff_eq] at hok
    refine ⟨fun h0 => (by rw [hok.1] at h0; cases h0), fun j hj => ?_⟩
    have hj0 := hj
    rw [hok.1] at hj
    simp only [List.mem_singleton] at hj
    subst hj
    exact wpOp_mono (fun a' w' ⟨D', hD', hw', h'⟩ => ⟨.inr (hD' _ hw'), anyS.mono hD' _ _ _ _ (planW.anyS hs hd n ix D' _ a' w' hok.2 hw' (hdn.set hj0) h')⟩) h
  | n + 1, .two i j k r, D, listed, a, w, hok, hD, hdn, h => by
    simp only [planOkS, Bool.and_eq_true, beq_iff_eq] at hok
    refine ⟨fun h0 => (by rw [hok.1.1] at h0; cases h0), fun q hq => ?_⟩
    have hq0 := hq
    rw [hok.1.1] at hq
    simp only [List.mem_cons, List.not_mem_nil, or_false] at hq
    rcases hq with rfl | rfl
    · exact wpOp_mono (fun a' w' ⟨D', hD', hw', h'⟩ => ⟨.inr (hD' _ hw'), anyS.mono hD' _ _ _ _ (planW.anyS hs hd n k D' _ a' w' hok.1.2 hw' (hdn.set hq0) h')⟩) h.1
    · exact wpOp_mono (fun a' w' ⟨D', hD', hw', h'⟩ => ⟨.inr (hD' _ hw'), anyS.mono hD' _ _ _ _ (planW.anyS hs hd n r D' _ a' w' hok.2 hw' (hdn.set hq0) h')⟩) h.2
end
end Go.Proofs.YthaahcdfnmfihaaDoor
namespace Go.Proofs.YthaahcdfnmfihaaDoor.A
open Go.RowKit
section
variable {P : Program} {n : Nat} {W : Wd} {σ τ : Blks} {l : Slots} {X : List Nat} {x y : Operand} {d : Option Nat} {ty t t' e : TypeId} {pos : String} {aft : Array Edge} {g : Option (Nat × Bool)} {A : Abs} {tab : List (Nat × TI)} {ops : Array Oper} {Q : Exit → Act → World → Prop} {v : Value} {xs : List (List Abs)} {s q : Nat} {a b : Int}
theorem SE.rest {k2 : Plan} (X : List Nat) (h : SX P ops k2 X (St n W σ l) Q) : SE .normal (St n W σ l) (RestOf P ops k2 Q) := fun a w hs => ⟨fun w' => Ext X w w', Ext.refl w, h a w hs⟩
end
end Go.Proofs.YthaahcdfnmfihaaDoor.A
/-
  The second engine: parts of texts; texts gone through letter by letter.
-/
set_option maxRecDepth 100000
set_option linter.unusedSimpArgs false
set_option linter.unusedVariables false
namespace Go.Proofs.YthaahcdfnmfihaaDoor.A
open Go.RowKit

section
variable {P : Program} {n : Nat} {W : Wd} {σ τ : Blks} {l : Slots} {X : List Nat} {x y z : Operand} {d : Option Nat} {ty t : TypeId} {pos : String} {aft : Array Edge} {g : Option (Nat × Bool)} {s : ByteArray} {k k' : IntKind} {r r' : Int} {q q' b p : Nat}
/-- 's[q:]' of a text. -/
theorem Val.sliceStLo (hu : P.underlying t = some .string) (hx : look l x = some (.v (.string s))) (hy : look l y = some (.v (.int k r))) (hr : r = (q : Nat)) (hq : q ≤ s.size) :
    Val P n W σ l X ⟨d, .slice t x (some y) none none, ty, pos, aft, g⟩ (.v (.string (s.extract q s.size))) := fun a w hs _ => by
  subst hr
  refine ⟨_, rfl, fun w' _ => ?_⟩
  simp [execOp, Instr.sliceAt, Instr.slice, Instr.sliceBounds, Instr.sliceBound, asIntOf, hs.plain hx, hs.plain hy, run_underlying hu, Sem.run_bind, Result.andThen, hq]
/-- 's[:q]' of a text. -/
theorem Val.sliceStHi (hu : P.underlying t = some .string) (hx : look l x = some (.v (.string s))) (hy : look l y = some (.v (.int k r))) (hr : r = (q : Nat)) (hq : q ≤ s.size) :
    Val P n W σ l X ⟨d, .slice t x none (some y) none, ty, pos, aft, g⟩ (.v (.string (s.extract 0 q))) := fun a w hs _ => by
  subst hr
  refine ⟨_, rfl, fun w' _ => ?_⟩
  simp [execOp, Instr.sliceAt, Instr.slice, Instr.sliceBounds, Instr.sliceBound, asIntOf, hs.plain hx, hs.plain hy, run_underlying hu, Sem.run_bind, Result.andThen, hq]
/-- 's[q:q']' of a text. -/
theorem Val.sliceStAt (hu : P.underlying t = some .string) (hx : look l x = some (.v (.string s))) (hy : look l y = some (.v (.int k r))) (hz : look l z = some (.v (.int k' r'))) (hr : r = (q : Nat)) (hr' : r' = (q' : Nat)) (hq : q ≤ q') (hq' : q' ≤ s.size) :
    Val P n W σ l X ⟨d, .slice t x (some y) (some z) none, ty, pos, aft, g⟩ (.v (.string (s.extract q q'))) := fun a w hs _ => by
  subst hr hr'
  refine ⟨_, rfl, fun w' _ => ?_⟩
  simp [execOp, Instr.sliceAt, Instr.slice, Instr.sliceBounds, Instr.sliceBound, asIntOf, hs.plain hx, hs.plain hy, hs.plain hz, run_underlying hu, Sem.run_bind, Result.andThen, hq, hq']
/-- Where a walk through a text is. -/
def iterPc (b : Nat) (s : ByteArray) (p : Nat) : Pc where
  ids := [b]
  p := fun _ w => w.heap[b]? = some (.stringIter s p)
  carry := fun _ _ _ _ _ hs h => (hs b (by simp)).trans h
  lt := fun _ _ h k hk => by simp at hk; subst hk; exact heap_lt h
theorem Eff.rangeStr (hx : look l x = some (.v (.string s))) (hu : P.underlying t = some .string) : Eff P n W σ l [] ⟨d, .range t x, ty, pos, aft, g⟩ fun u τ' => ∃ b, u = ptr b ∧ τ' = .pc (iterPc b s 0) :: σ := fun a w hs => by
  have hx1 : Ext [] w (w.alloc (.stringIter s 0)) := (Ext.refl w).alloc _
  have h4 := hs.mem.new (y := .pc (iterPc w.heap.size s 0)) hx1 (by simp [It.mids, iterPc]) (by simp [It.mids, iterPc]) rfl (fun _ => heap_alloc_new w _)
  refine ⟨_, _, _, _, ⟨w.heap.size, rfl, rfl⟩, hx1, rfl, h4.1, h4.2, .inl ?_⟩
  simp only [execOp, Instr.range, hs.plain hx, Sem.run_bind, Sem.run_pure, Result.andThen_ok, run_underlying hu, newObj]
  rfl
theorem Eff.nextStr (hx : look l x = some (ptr b)) (hu : Upd (.pc (iterPc b s p)) (.pc (iterPc b s (p + (Utf8.decode s p).2))) σ τ) (hp : p < s.size) :
    Eff P n W σ l [b] ⟨d, .next x true, ty, pos, aft, g⟩ fun u τ' => u = .tup [boo true, int (p : Nat), .v (.int .i32 ((Utf8.decode s p).1 : Nat))] ∧ τ' = τ := fun a w hs => by
  have hb : w.heap[b]? = some (.stringIter s p) := hs.mem.hold _ hu.mem
  have hlt := heap_lt hb
  have h3 : Ext [b] w { w with heap := w.heap.setIfInBounds b (.stringIter s (p + (Utf8.decode s p).2)) } := Proofs.YthaahcdfnmfihaaDoor.Ext.setObj_ w b _
  have h4 := hs.mem.upd hu (h3.mono (by simp [It.mids, iterPc])) (by simp [It.mids, iterPc]) (fun k hk => .inl hk) rfl (fun _ => by
    show (w.heap.setIfInBounds b _)[b]? = _
    simp [hlt])
  refine ⟨_, _, _, _, ⟨rfl, rfl⟩, h3, ⟨[_, _, _], rfl, _, _, rfl, rfl, _, _, rfl, rfl, _, _, rfl, rfl, rfl⟩, h4.1, h4.2, .inl ?_⟩
  simp only [execOp, Instr.next, hs.plain hx, Sem.run_bind, Sem.run_pure, Result.andThen_ok, Proofs.YthaahcdfnmfihaaDoor.run_getIter hb, if_pos hp, Proofs.YthaahcdfnmfihaaDoor.run_setIter hb, goInt]
theorem Val.nextStrEnd (hx : look l x = some (ptr b)) (hb : It.pc (iterPc b s p) ∈ σ) (hbX : b ∉ X) (hp : ¬ p < s.size) :
    Val P n W σ l X ⟨d, .next x true, ty, pos, aft, g⟩ (.tup [boo false]) := fun a w hs _ => by
  have h1 : w.heap[b]? = some (.stringIter s p) := hs.mem.hold _ hb
  refine ⟨.tuple #[.bool false], ⟨[_], rfl, _, _, rfl, rfl, rfl⟩, fun w' hw' => ?_⟩
  have h2 : w'.heap[b]? = some (.stringIter s p) := (hw'.block b (heap_lt h1) hbX).trans h1
  simp only [execOp, Instr.next, hs.plain hx, Sem.run_bind, Sem.run_pure, Result.andThen_ok, Proofs.YthaahcdfnmfihaaDoor.run_getIter h2, if_neg hp]
/-- The next letter, or the end. -/
theorem SL.nextStr {ops : Array Oper} {rest : List Oper} {Q : Exit → Act → World → Prop} (hx : look l x = some (ptr b)) (hb : It.pc (iterPc b s p) ∈ σ) (hg : gd ops l ⟨d, .next x true, ty, pos, aft, g⟩ = some true) (hd : lt? d n = true)
    (hyes : p < s.size → ∃ τ, Upd (.pc (iterPc b s p)) (.pc (iterPc b s (p + (Utf8.decode s p).2))) σ τ ∧ SL P ops rest (St n W τ (put? l d (.tup [boo true, int (p : Nat), .v (.int .i32 ((Utf8.decode s p).1 : Nat))]))) Q)
    (hno : ¬ p < s.size → SL P ops rest (St n W σ (put? l d (.tup [boo false]))) Q) : SL P ops (⟨d, .next x true, ty, pos, aft, g⟩ :: rest) (St n W σ l) Q := by
  by_cases h : p < s.size
  · obtain ⟨τ, hu, hk⟩ := hyes h
    exact SL.eff (Eff.nextStr hx hu h) hg hd (by rintro _ _ ⟨rfl, rfl⟩; exact hk)
  · exact SL.val (Val.nextStrEnd hx hb List.not_mem_nil h) hg hd (hno h)
/-- 'e != nil' of an error that may be nil. -/
theorem Val.neIf {u : Value} {c : Bool} {ms : Array (String × TypeId)} {t' : TypeId} (hi : P.underlying t = some (.interface ms)) (hx : look l x = some (.v u)) (hc : (c = false ∧ u = .nilIface) ∨ (c = true ∧ ∃ tp A, u = .iface tp A)) :
    Val P n W σ l X ⟨d, .binOp .neq t x (.const .nilIface) t', ty, pos, aft, g⟩ (boo c) := fun a w hs _ => by
  refine ⟨_, rfl, fun w' _ => ?_⟩
  have h1 := hs.plain hx
  have e : a.eval (.const .nilIface) = .nilIface := rfl
  rcases hc with ⟨rfl, rfl⟩ | ⟨rfl, tp, A, rfl⟩
  · have h : ∀ d : Nat, (Op.equalIn (d + 1) t .nilIface .nilIface).run P w' = .ok true w' := fun d => by simp [Op.equalIn, run_underlying hi]
    have h3 : (binOp .neq t .nilIface .nilIface).run P w' = .ok (.bool false) w' := by
      simp only [binOp]
      simp [Op.equal, Op.maxDepth, h 9999]
    simp [execOp, h1, e, eqGuard, h3]
  · have h : ∀ d : Nat, (Op.equalIn (d + 1) t (.iface tp A) .nilIface).run P w' = .ok false w' := fun d => by simp [Op.equalIn, run_underlying hi]
    have h3 : (binOp .neq t (.iface tp A) .nilIface).run P w' = .ok (.bool true) w' := by
      simp only [binOp]
      simp [Op.equal, Op.maxDepth, h 9999]
    simp [execOp, h1, e, eqGuard, h3]
end
/-! ### Texts as rows of bytes -/
abbrev tx (s : ByteArray) : List UInt8 := s.data.toList
theorem tx_lo (s : ByteArray) (q : Nat) : tx (s.extract q s.size) = (tx s).drop q := by
  unfold tx
  rw [ByteArray.data_extract, Array.toList_extract]
  rw [List.extract_eq_take_drop]
  exact List.take_of_length_le (by rw [List.length_drop]; exact Nat.le_refl _)
theorem tx_hi (s : ByteArray) (q : Nat) : tx (s.extract 0 q) = (tx s).take q := by
  unfold tx
  rw [ByteArray.data_extract, Array.toList_extract]
  rw [List.extract_eq_take_drop]
  simp
theorem tx_inj {s r : ByteArray} (h : tx s = tx r) : s = r := by
  cases s; cases r
  simp [tx] at h
  simp [h]
theorem tx_mk (l : List UInt8) : tx ⟨l.toArray⟩ = l := by simp [tx]
end Go.Proofs.YthaahcdfnmfihaaDoor.A
/-
  Maps of the program's own, as lists of pairs: look up, store, delete, length.
-/
set_option maxRecDepth 100000
namespace Go.Proofs.YthaahcdfnmfihaaDoor
open Go.RowKit

section
variable {α β : Type} [DecidableEq α]
end

/-- What the laws ask of a key type and of how keys stand in it. -/
structure KeyFit {α : Type} (P : Program) (k : TypeId) (K : α → Value) (Good : α → Prop) : Prop where
  keyed : Maps.Keyed P k
  lit : ∀ a, Good a → ∃ l, keyOf P k (K a) = some l
  inj : ∀ a b, Good a → Good b → K a = K b → a = b

/-- Block b is a map that holds the pairs m. -/
def MapOf {α β : Type} (w : World) (b : Nat) (K : α → Value) (V : β → Value) (Good : α → Prop) (m : List (α × β)) : Prop :=
  ∃ es clock, w.heap[b]? = some (.map es clock) ∧ es.toList.map (fun e => (e.key, e.val)) = m.map (fun p => (K p.1, V p.2)) ∧ (m.map (·.1)).Nodup ∧ (∀ p ∈ m, Good p.1) ∧
    (∀ e ∈ es.toList, e.born < clock) ∧ (es.toList.map (·.born)).Nodup

section
variable {α β : Type} {P : Program} {w w' : World} {b : Nat} {k e t : TypeId} {K : α → Value} {V : β → Value} {Good : α → Prop} {m : List (α × β)}

theorem MapOf.lt (h : MapOf w b K V Good m) : b < w.heap.size := by
  obtain ⟨es, clock, hb, _⟩ := h
  rcases Nat.lt_or_ge b w.heap.size with hlt | hge
  · exact hlt
  · rw [Array.getElem?_eq_none hge] at hb; cases hb
theorem MapOf.ext {F : List Nat} (h : MapOf w b K V Good m) (hx : Ext F w w') (hb : b ∉ F) : MapOf w' b K V Good m := by
  have hl := h.lt
  obtain ⟨es, clock, h1, h2⟩ := h
  exact ⟨es, clock, (hx.block b hl hb).trans h1, h2⟩
theorem MapOf.new (w : World) : MapOf (w.alloc (.map #[] 0)) w.heap.size K V Good [] :=
  ⟨#[], 0, heap_alloc_new w _, rfl, by simp, by simp, by simp, by simp⟩
theorem MapOf.alloc (h : MapOf w b K V Good m) (o : Obj) : MapOf (w.alloc o) b K V Good m := h.ext ((Ext.refl (F := []) _).alloc _) (by simp)
theorem MapOf.nodup (h : MapOf w b K V Good m) : (m.map (·.1)).Nodup := by obtain ⟨_, _, _, _, h, _⟩ := h; exact h
variable [DecidableEq α]
end

section
variable {α β : Type} [DecidableEq α] {P : Program} {w : World} {b : Nat} {k e : TypeId} {K : α → Value} {V : β → Value} {Good : α → Prop} {m : List (α × β)}
variable {ops : Array Oper} {rest : List Oper} {o : Oper} {a : Act} {Q : Exit → Act → World → Prop}
end
theorem laid : laidOutB Tryd.prog = true := by kernel_rfl
def k8 (k : Int) : Nat := (k % 256).toNat
end Go.Proofs.YthaahcdfnmfihaaDoor
/-
  The second engine: maps of plain keys and values as pieces of memory.
-/
set_option maxRecDepth 100000
set_option linter.unusedSimpArgs false
set_option linter.unusedVariables false
namespace Go.Proofs.YthaahcdfnmfihaaDoor.A
open Go.RowKit

theorem map_same {α β : Type} {w w' : World} {b : Nat} {K : α → Value} {V : β → Value} {Good : α → Prop} {m : List (α × β)} (h : MapOf w b K V Good m) (hb : w'.heap[b]? = w.heap[b]?) : MapOf w' b K V Good m := by
  obtain ⟨es, clock, h1, h2⟩ := h
  exact ⟨es, clock, hb.trans h1, h2⟩
/-- A map as a piece of memory. -/
def mapPc {α β : Type} (b : Nat) (K : α → Value) (V : β → Value) (Good : α → Prop) (m : List (α × β)) : Pc where
  ids := [b]
  p := fun _ w => MapOf w b K V Good m
  carry := fun _ _ _ _ _ hs h => map_same h (hs b (by simp))
  lt := fun _ _ h k hk => by simp at hk; subst hk; exact h.lt
section
variable {P : Program} {n : Nat} {W : Wd} {σ τ : Blks} {l : Slots} {X : List Nat} {x y z : Operand} {d : Option Nat} {ty t k e : TypeId} {pos : String} {aft : Array Edge} {g : Option (Nat × Bool)} {b : Nat} {A B C : Abs}
variable {α β : Type} [DecidableEq α] {K : α → Value} {V : β → Value} {Good : α → Prop} {m : List (α × β)} {a : α} {v : β} {zv : Value}
/-- The tree stands for just this value. -/
def Abs.is (A : Abs) (u : Value) : Prop := (∀ K w x, rep K w A x → x = u) ∧ ∀ K w, rep K w A u
omit [DecidableEq α] in
theorem mem_map {w0 w : World} {F G : List Nat} {σ : Blks} (h : Mem w0 F G σ w) (hb : It.pc (mapPc b K V Good m) ∈ σ ∨ It.rdpc (mapPc b K V Good m) ∈ σ) : MapOf w b K V Good m := by
  rcases hb with hb | hb
  · exact h.hold _ hb
  · exact h.hold _ hb
end
end Go.Proofs.YthaahcdfnmfihaaDoor.A
/-
  The second engine: pieces of memory put together to one, and taken apart.
-/
set_option maxRecDepth 100000
set_option linter.unusedSimpArgs false
set_option linter.unusedVariables false
namespace Go.Proofs.YthaahcdfnmfihaaDoor.A
open Go.RowKit

/-- Many pieces as one. -/
def bigP (l : List Pc) : Pc where
  ids := l.flatMap Pc.ids
  p := fun K w => ∀ c ∈ l, c.p K w
  carry := fun K w K' w' hc hs h c hm => c.carry K w K' w' hc (fun k hk => hs k (List.mem_flatMap.2 ⟨c, hm, hk⟩)) (h c hm)
  lt := fun K w h k hk => by
    obtain ⟨c, hm, hk⟩ := List.mem_flatMap.1 hk
    exact c.lt K w (h c hm) k hk
section
variable {w0 w : World} {F G : List Nat} {α β xs ys : Blks}
end
section
variable {P : Program} {n : Nat} {W : Wd} {σ τ : Blks} {l : Slots} {X : List Nat} {ops : Array Oper} {rest : List Oper} {Q : Exit → Act → World → Prop} {ix : Plan} {α β xs ys : Blks}
/-- One way to say pieces, and another one. -/
structure Re (xs ys : Blks) : Prop where
  ids : ∃ zs : List Nat, (mids xs).Perm (mids ys ++ zs)
  rd : ∀ y ∈ ys, y.rids = []
  hh : ∀ K w, (∀ x ∈ xs, x.holds K w) → ∀ y ∈ ys, y.holds K w
end
theorem Re.refl {xs : Blks} (h : ∀ x ∈ xs, x.rids = []) : Re xs xs := ⟨⟨[], by simp⟩, h, fun _ _ h => h⟩
theorem Re.trans {xs ys zs : Blks} (h : Re xs ys) (k : Re ys zs) : Re xs zs where
  ids := by
    obtain ⟨a, ha⟩ := h.ids
    obtain ⟨b, hb⟩ := k.ids
    exact ⟨b ++ a, ha.trans ((hb.append_right a).trans (by rw [List.append_assoc]))⟩
  rd := k.rd
  hh := fun K w hx => k.hh K w (h.hh K w hx)
/-- One of many, taken out. -/
theorem Re.out {l1 l2 : List Pc} {c : Pc} : Re [.pc (bigP (l1 ++ c :: l2))] [.pc c, .pc (bigP (l1 ++ l2))] where
  ids := ⟨[], by
    simp only [mids, List.flatMap_cons, List.flatMap_nil, It.mids, bigP, List.flatMap_append, List.append_nil]
    exact List.perm_append_comm_assoc _ _ _⟩
  rd := by simp [It.rids]
  hh := fun K w h y hy => by
    have h1 : ∀ d ∈ l1 ++ c :: l2, d.p K w := h _ (List.mem_singleton.2 rfl)
    simp only [List.mem_cons, List.not_mem_nil, or_false] at hy
    rcases hy with rfl | rfl
    · exact h1 c (by simp)
    · intro d hd
      exact h1 d (by
        rcases List.mem_append.1 hd with hd | hd
        · simp [hd]
        · simp [hd])
/-- .. and put back. -/
theorem Re.back {l1 l2 : List Pc} {c : Pc} : Re [.pc c, .pc (bigP (l1 ++ l2))] [.pc (bigP (l1 ++ c :: l2))] where
  ids := ⟨[], by
    simp only [mids, List.flatMap_cons, List.flatMap_nil, It.mids, bigP, List.flatMap_append, List.append_nil]
    exact List.perm_append_comm_assoc _ _ _⟩
  rd := by simp [It.rids]
  hh := fun K w h y hy => by
    have h1 : c.p K w := h (.pc c) (by simp)
    have h2 : ∀ d ∈ l1 ++ l2, d.p K w := h (.pc (bigP (l1 ++ l2))) (by simp)
    rw [List.mem_singleton.1 hy]
    intro d hd
    simp only [List.mem_append, List.mem_cons] at hd
    rcases hd with hd | rfl | hd
    · exact h2 d (by simp [hd])
    · exact h1
    · exact h2 d (by simp [hd])
/-- Some of many are let go; or they stand in another order. -/
theorem Re.part {l l' : List Pc} (h : ∃ z, l.Perm (l' ++ z)) : Re [.pc (bigP l)] [.pc (bigP l')] where
  ids := by
    obtain ⟨z, hz⟩ := h
    refine ⟨z.flatMap Pc.ids, ?_⟩
    simp only [mids, List.flatMap_cons, List.flatMap_nil, It.mids, bigP, List.append_nil]
    rw [← List.flatMap_append]
    exact hz.flatMap_right _
  rd := by simp [It.rids]
  hh := fun K w h1 y hy => by
    obtain ⟨z, hz⟩ := h
    have h2 : ∀ d ∈ l, d.p K w := h1 _ (List.mem_singleton.2 rfl)
    rw [List.mem_singleton.1 hy]
    exact fun d hd => h2 d (hz.mem_iff.2 (List.mem_append_left _ hd))
end Go.Proofs.YthaahcdfnmfihaaDoor.A
/-
  Maps of the program's own: an entry struck; an entry found or made, and then stored into; as pieces of memory.
-/
set_option maxRecDepth 100000
set_option linter.unusedSimpArgs false
set_option linter.unusedVariables false
namespace Go.Proofs.YthaahcdfnmfihaaDoor
open Go.RowKit
section
variable {α β : Type} [DecidableEq α] {P : Program} {w w' : World} {b : Nat} {k e t : TypeId} {K : α → Value} {V : β → Value} {Good : α → Prop} {m : List (α × β)}
end
end Go.Proofs.YthaahcdfnmfihaaDoor
namespace Go.Proofs.YthaahcdfnmfihaaDoor.A
open Go.RowKit
section
variable {P : Program} {n : Nat} {W : Wd} {σ τ : Blks} {l : Slots} {X : List Nat} {x y z : Operand} {d : Option Nat} {ty t k e : TypeId} {pos : String} {aft : Array Edge} {g : Option (Nat × Bool)} {b s : Nat} {A B C : Abs}
variable {α β : Type} [DecidableEq α] {K : α → Value} {V : β → Value} {Good : α → Prop} {m : List (α × β)} {a : α} {v zv : β}
end
/-! ### Keys that are ints -/
end Go.Proofs.YthaahcdfnmfihaaDoor.A
/-
  Sums: what the program's rounds come to, as plain functions on words.
-/
set_option maxRecDepth 100000
set_option linter.unusedSimpArgs false
set_option linter.unusedVariables false
namespace Go.Proofs.YthaahcdfnmfihaaDoor.A
open Go.RowKit

abbrev bs (l : List UInt8) : List (List Abs) := l.map fun b => [Abs.v (bc b)]
def rot (x : Wo) (n : Nat) : Wo := x >>> n ||| x <<< (32 - n)
def mixW (x : Wo) (a b c : Nat) : Wo := rot x a ^^^ rot x b ^^^ rot x c
def byW (l : List UInt8) (i : Nat) : Wo := BitVec.ofNat 32 (l.getD i 0).toNat
def wordAt (l : List UInt8) (i : Nat) : Wo := byW l (4 * i + 0) <<< 24 ||| byW l (4 * i + 1) <<< 16 ||| byW l (4 * i + 2) <<< 8 ||| byW l (4 * i + 3)
def nextW (l : List Wo) (z : Nat) : Wo := l.getD z 0 + (rot (l.getD (z + 1) 0) 7 ^^^ rot (l.getD (z + 1) 0) 18 ^^^ l.getD (z + 1) 0 >>> 3) + l.getD (z + 9) 0 + (rot (l.getD (z + 14) 0) 17 ^^^ rot (l.getD (z + 14) 0) 19 ^^^ l.getD (z + 14) 0 >>> 10)
def sched0 (l : List UInt8) (k : Nat) : List Wo := (List.range k).map (wordAt l)
def grow (l : List Wo) : Nat → List Wo
  | 0 => l
  | k + 1 => grow l k ++ [nextW (grow l k) k]
def sched (l : List UInt8) : List Wo := grow (sched0 l 16) 48
def roundsL : List Wo := [0x428a2f98#32, 0x71374491#32, 0xb5c0fbcf#32, 0xe9b5dba5#32, 0x3956c25b#32, 0x59f111f1#32, 0x923f82a4#32, 0xab1c5ed5#32, 0xd807aa98#32, 0x12835b01#32, 0x243185be#32, 0x550c7dc3#32, 0x72be5d74#32, 0x80deb1fe#32, 0x9bdc06a7#32, 0xc19bf174#32, 0xe49b69c1#32, 0xefbe4786#32, 0x0fc19dc6#32, 0x240ca1cc#32, 0x2de92c6f#32, 0x4a7484aa#32, 0x5cb0a9dc#32, 0x76f988da#32, 0x983e5152#32, 0xa831c66d#32, 0xb00327c8#32, 0xbf597fc7#32, 0xc6e00bf3#32, 0xd5a79147#32, 0x06ca6351#32, 0x14292967#32, 0x27b70a85#32, 0x2e1b2138#32, 0x4d2c6dfc#32, 0x53380d13#32, 0x650a7354#32, 0x766a0abb#32, 0x81c2c92e#32, 0x92722c85#32, 0xa2bfe8a1#32, 0xa81a664b#32, 0xc24b8b70#32, 0xc76c51a3#32, 0xd192e819#32, 0xd6990624#32, 0xf40e3585#32, 0x106aa070#32, 0x19a4c116#32, 0x1e376c08#32, 0x2748774c#32, 0x34b0bcb5#32, 0x391c0cb3#32, 0x4ed8aa4a#32, 0x5b9cca4f#32, 0x682e6ff3#32, 0x748f82ee#32, 0x78a5636f#32, 0x84c87814#32, 0x8cc70208#32, 0x90befffa#32, 0xa4506ceb#32, 0xbef9a3f7#32, 0xc67178f2#32]
structure R8 where
  (a0 a1 a2 a3 e0 e1 e2 e3 : Wo)
def R8.a (r : R8) : List Wo := [r.a0, r.a1, r.a2, r.a3]
def R8.e (r : R8) : List Wo := [r.e0, r.e1, r.e2, r.e3]
def R8.l (r : R8) : List Wo := [r.a0, r.a1, r.a2, r.a3, r.e0, r.e1, r.e2, r.e3]
def firstR : R8 := ⟨0x6a09e667#32, 0xbb67ae85#32, 0x3c6ef372#32, 0xa54ff53a#32, 0x510e527f#32, 0x9b05688c#32, 0x1f83d9ab#32, 0x5be0cd19#32⟩
def t1W (r : R8) (k w : Wo) : Wo := r.e3 + mixW r.e0 6 11 25 + (r.e2 ^^^ (r.e0 &&& (r.e1 ^^^ r.e2))) + k + w
def t2W (r : R8) : Wo := mixW r.a0 2 13 22 + ((r.a0 &&& r.a1) ^^^ (r.a0 &&& r.a2) ^^^ (r.a1 &&& r.a2))
def rnd (r : R8) (k w : Wo) : R8 := ⟨t1W r k w + t2W r, r.a0, r.a1, r.a2, r.a3 + t1W r k w, r.e0, r.e1, r.e2⟩
def rnds (r : R8) (ws : List Wo) : Nat → R8
  | 0 => r
  | i + 1 => rnd (rnds r ws i) (roundsL.getD i 0) (ws.getD i 0)
def R8.add (r s : R8) : R8 := ⟨r.a0 + s.a0, r.a1 + s.a1, r.a2 + s.a2, r.a3 + s.a3, r.e0 + s.e0, r.e1 + s.e1, r.e2 + s.e2, r.e3 + s.e3⟩
def blockW (r : R8) (l : List UInt8) : R8 := r.add (rnds r (sched l) 64)
/-- So many blocks of a text. -/
def blocks (r : R8) (l : List UInt8) : Nat → R8
  | 0 => r
  | k + 1 => blockW (blocks r l k) (l.drop (64 * k))
def padded (l : List UInt8) (n : Nat) : List UInt8 := l ++ [128] ++ List.replicate ((119 - l.length) % 64) 0 ++ beBytes (n * 8) 8
def byteAt (ws : List Wo) (q : Nat) : UInt8 := UInt8.ofNat (ws.getD (q / 4) 0 >>> (24 - 8 * (q % 4))).toNat
def outN (ws : List Wo) (j : Nat) : List UInt8 := (List.range j).map (byteAt ws) ++ List.replicate (32 - j) 0
/-- The sum of what was taken in so far. -/
def finish (r : R8) (rest : List UInt8) (n : Nat) : List UInt8 := outN (blocks r (padded rest n) ((padded rest n).length / 64)).l 32
/-- A sum that is under way. -/
structure Sm where
  (r : R8) (rest : List UInt8) (n : Nat)
def Sm.new : Sm := ⟨firstR, [], 0⟩
def Sm.add (s : Sm) (l : List UInt8) : Sm := ⟨blocks s.r (s.rest ++ l) ((s.rest ++ l).length / 64), (s.rest ++ l).drop (64 * ((s.rest ++ l).length / 64)), s.n + l.length⟩
def Sm.sum (s : Sm) : List UInt8 := finish s.r s.rest s.n
def Sm.Ok (s : Sm) : Prop := s.rest.length < 64
end Go.Proofs.YthaahcdfnmfihaaDoor.A
/-
  Sums: what the document's answer comes to, as plain functions; the same as the program's.
-/
set_option maxRecDepth 100000
set_option linter.unusedSimpArgs false
set_option linter.unusedVariables false
namespace Go.Proofs.YthaahcdfnmfihaaDoor.A
open Go.RowKit

section
variable {P : Program} {n : Nat} {W : Wd} {σ τ : Blks} {l : Slots} {X : List Nat} {x y z : Operand} {d : Option Nat} {ty t t' e : TypeId} {pos : String} {aft : Array Edge} {g : Option (Nat × Bool)} {k k' : IntKind} {a b : Int} {p q : Nat} {c : Wo}
end
/-! ### Constants -/
abbrev ws (l : List Wo) : List (List Abs) := l.map fun p => [u32 p]
end Go.Proofs.YthaahcdfnmfihaaDoor.A
/-
  The second engine: slices of arrays in blocks; bytes mixed.
-/
set_option maxRecDepth 100000
set_option linter.unusedSimpArgs false
set_option linter.unusedVariables false
namespace Go.Proofs.YthaahcdfnmfihaaDoor.A
open Go.RowKit
section
variable {P : Program} {n : Nat} {W : Wd} {σ τ : Blks} {l : Slots} {X : List Nat} {x y z : Operand} {d : Option Nat} {ty t t' e : TypeId} {pos : String} {aft : Array Edge} {g : Option (Nat × Bool)} {A : Abs} {tab : List (Nat × TI)} {ops : Array Oper} {Q : Exit → Act → World → Prop} {k : IntKind}
end
/-! ### Rows of words -/
end Go.Proofs.YthaahcdfnmfihaaDoor.A
/-
  The second engine: rows of the call's own, cut; 'clear'.
-/
set_option maxRecDepth 100000
set_option linter.unusedSimpArgs false
set_option linter.unusedVariables false
namespace Go.Proofs.YthaahcdfnmfihaaDoor.A
open Go.RowKit

section
variable {P : Program} {n : Nat} {W : Wd} {σ τ : Blks} {l : Slots} {X : List Nat} {x y z : Operand} {d : Option Nat} {ty t e e' : TypeId} {pos : String} {aft : Array Edge} {g : Option (Nat × Bool)} {v u : Value} {k : IntKind} {tab : List (Nat × TI)} {xs ys : List (List Abs)} {s q : Nat} {ops : Array Oper} {rest : List Oper} {Q : Exit → Act → World → Prop}
end
/-- Pieces that are read alone. -/
def RdAll (σ : Blks) : Prop := ∀ x ∈ σ, (∃ b t cs, x = .rd b t cs) ∨ ∃ c, x = .rdpc c
theorem RdAll.reads {σ τ : Blks} (h : RdAll τ) (hs : ∀ x ∈ τ, x ∈ σ) : Reads σ τ := by
  induction τ with
  | nil => exact .nil
  | cons x τ ih =>
    have h1 := ih (fun y hy => h y (List.mem_cons_of_mem _ hy)) (fun y hy => hs y (List.mem_cons_of_mem _ hy))
    have hx := hs x List.mem_cons_self
    rcases h x List.mem_cons_self with ⟨b, t, cs, rfl⟩ | ⟨c, rfl⟩
    · exact .rd hx h1
    · exact .rdpc hx h1
end Go.Proofs.YthaahcdfnmfihaaDoor.A
/-
  The second engine: regions that draw and make memory of their own.
-/
set_option maxRecDepth 100000
set_option linter.unusedSimpArgs false
set_option linter.unusedVariables false
namespace Go.Proofs.YthaahcdfnmfihaaDoor.A
open Go.RowKit

section
variable {P : Program} {n : Nat} {W : Wd} {σ σ0 : Blks} {l : Slots} {X0 : List Nat} {ops : Array Oper} {Q : Exit → Act → World → Prop} {ix : Plan} {o : Oper}
/-- The pieces that the region has made stand ahead: what follows may change them. -/
theorem SX.effN (ν : Blks) (X0 : List Nat) {i : Nat} {Y : List Nat} {R : Abs → Blks → Prop} (hi : ops[i]? = some o) (hv : Eff P n W σ l Y o R) (hσ : σ = ν ++ σ0) (hY : ∀ k ∈ Y, k ∈ mids ν ++ X0) (hg : gd ops l o = some true) (hd : lt? o.dst n = true)
    (k : ∀ y τ, R y τ → ∃ ν' : Blks, τ = ν' ++ σ0 ∧ SX P ops ix (mids ν' ++ X0) (St n W τ (put? l o.dst y)) Q) : SX P ops (.e i ix) (mids ν ++ X0) (St n W σ l) Q := fun a w hs => by
  unfold planW wpOp
  simp only [hi, hs.wanted hg, if_true]
  refine .inl ?_
  unfold Oper.wp
  obtain ⟨v, w', y, τ, hR, hx, hr, hm, hc, hrun⟩ := hv a w hs
  obtain ⟨ν', hτ, hk⟩ := k y τ hR
  have hnew : ∀ k ∈ mids ν' ++ X0, k ∈ mids ν ++ X0 ∨ w.heap.size ≤ k := fun k hk => by
    rcases List.mem_append.1 hk with hk | hk
    · have hkt : k ∈ mids τ := by rw [hτ, mids_append]; exact List.mem_append_left _ hk
      rcases Nat.lt_or_ge k w.heap.size with h1 | h1
      · have h2 : k ∈ mids σ ++ W.G := Classical.byContradiction fun hn => hc.out k hn h1 (List.mem_append_left _ hkt)
        rcases List.mem_append.1 h2 with h2 | h2
        · rw [hσ, mids_append] at h2
          rcases List.mem_append.1 h2 with h2 | h2
          · exact .inl (List.mem_append_left _ h2)
          · have hnd := hm.nodup
            rw [hτ, mids_append, List.nodup_append] at hnd
            exact absurd rfl (hnd.2.2 k hk k h2)
        · exact absurd h2 (hm.sep k hkt)
      · exact .inr h1
    · exact .inl (List.mem_append_right _ hk)
  have hinv : ∀ w2, Ext (mids ν' ++ X0) w' w2 → Ext (mids ν ++ X0) w w2 := fun w2 h2 => (hx.mono (fun k hk => .inl (hY k hk))).trans h2 hnew
  rcases hrun with hrun | ⟨rfl, hrun⟩
  · rw [hrun]; exact ⟨fun w2 => Ext (mids ν' ++ X0) w' w2, hinv, Ext.refl w', hk _ _ ((hs.to hm hc).put hd hr)⟩
  · rw [hrun]; exact ⟨fun w2 => Ext (mids ν' ++ X0) w' w2, hinv, Ext.refl w', hk _ _ ((hs.to hm hc).put hd hr)⟩
theorem own_mid {e : TypeId} {s : Nat} {v : Value} {xs : List (List Abs)} {ν : Blks} (h : own e s v xs ∈ ν) : ∀ k ∈ v.ownBlock.toList, k ∈ mids ν ++ [] := fun k hk => by
  rw [List.append_nil]
  exact mids_mem.2 ⟨_, h, hk⟩
end
/-- A block's cells said otherwise. -/
theorem Re.cast {b : Nat} {t : TypeId} {cs ds : List Abs} (h : Casts cs ds) : Re [.blk b t cs] [.blk b t ds] := ⟨⟨[], by simp [mids, It.mids]⟩, by simp [It.rids], fun K w hx y hy => by
  rw [List.mem_singleton.1 hy]
  obtain ⟨us, h1, h2⟩ := hx (.blk b t cs) (by simp)
  exact ⟨us, h1, h K w us h2⟩⟩
theorem Re.cons {xs ys : Blks} {x : It} (hx : x.rids = []) (h : Re xs ys) : Re (x :: xs) (x :: ys) where
  ids := by
    obtain ⟨a, ha⟩ := h.ids
    refine ⟨a, ?_⟩
    rw [mids_cons, mids_cons, List.append_assoc]
    exact List.Perm.append_left _ ha
  rd := fun y hy => by
    rcases List.mem_cons.1 hy with rfl | hy
    · exact hx
    · exact h.rd y hy
  hh := fun K w hk y hy => by
    rcases List.mem_cons.1 hy with rfl | hy
    · exact hk _ List.mem_cons_self
    · exact h.hh K w (fun z hz => hk z (List.mem_cons_of_mem _ hz)) y hy
theorem Re.perm {xs ys : Blks} (h : xs.Perm ys) (hr : ∀ x ∈ xs, x.rids = []) : Re xs ys := ⟨⟨[], by rw [List.append_nil]; exact mids_perm h⟩, fun y hy => hr y (h.mem_iff.2 hy), fun K w hx y hy => hx y (h.mem_iff.2 hy)⟩
end Go.Proofs.YthaahcdfnmfihaaDoor.A
