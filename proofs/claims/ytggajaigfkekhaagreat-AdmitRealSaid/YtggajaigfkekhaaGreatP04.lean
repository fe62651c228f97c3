/-
  Packed out of the texts: A5, AQk, Rd, A6, A8, Maps, A9, A15, Y0, A10, A11.
-/
import Derived.Test.YtggajaigfkekhaaGreatP03
import Derived.Maps.Keyed
import Derived.Maps.OwnSet
set_option maxRecDepth 100000
set_option linter.unusedSimpArgs false
set_option linter.unusedVariables false
namespace Go.Proofs.YtggajaigfkekhaaGreat.A
open Go.RowKit
section
variable {K : List Nat} {w : World} {s : Nat}
theorem cE_ {xs : List (List Abs)} {us : List Value} (h : repss K w s xs us) (q : Nat) (hq : q ≤ xs.length) : repss K w s (xs.drop q) (us.drop (q * s)) ∧ repss K w s (xs.take q) (us.take (q * s)) := by
  have h1 := h
  rw [← List.take_append_drop q xs] at h1
  obtain ⟨u1, u2, rfl, h2, h3⟩ := ed_ h1
  have hl : u1.length = q * s := by rw [aW_ h2, List.length_take, Nat.min_eq_left hq]
  rw [← hl]
  simp [h2, h3]
theorem IsRow.tailN {A : Option Addr} {m c q : Nat} {us : List Value} (h : IsRow K w (.slice A m c) m us) (hq : q ≤ m) (hl : us.length = m * s) : IsRow K w (.slice (if c = q then A else A.map (·.add (q * s))) (m - q) (c - q)) (m - q) (us.drop (q * s)) := by
  obtain ⟨A', c', hv, h1, h2, h3⟩ := h.shape
  simp at hv
  obtain ⟨rfl, rfl⟩ := hv
  refine ⟨⟨_, c - q, rfl, by omega, by omega, fun hA => ?_⟩, fun hn => ?_⟩
  · split at hA
    · have := h3 hA; omega
    · cases A with
      | none => have := h3 rfl; omega
      | some a => simp at hA
  · have hlt : q < m := by
      rcases Nat.lt_or_ge q m with h4 | h4
      · exact h4
      · have : q = m := by omega
        subst this
        exact absurd (List.drop_eq_nil_of_le (by omega)) hn
    obtain ⟨b, off, n', c2, hv, hb, hc⟩ := h.cells (by rintro rfl; simp at hn)
    simp at hv
    obtain ⟨rfl, rfl, rfl⟩ := hv
    refine ⟨b, off + q * s, m - q, c - q, by rw [if_neg (by omega)]; simp [Addr.add_none], hb, fun j u hu => ?_⟩
    rw [List.getElem?_drop] at hu
    rw [Nat.add_assoc]; exact hc _ u hu
end
section
variable {P : Program} {n : Nat} {W : Wd} {σ τ : Blks} {l : Slots} {X : List Nat} {x y z : Operand} {d : Option Nat} {ty t t' e : TypeId} {pos : String} {aft : Array Edge} {g : Option (Nat × Bool)} {v u : Value} {k k' : IntKind} {a b r : Int} {o : Oper} {A B : Abs} {tab : List (Nat × TI)} {xs ys : List (List Abs)} {s q : Nat} {fn : Func}
theorem ev_ (hT : TabOk P tab) {i : TI} (hu : P.underlying t = some (.slice e)) (hi : ti tab e = some i) (hsz : Nat.beq s i.size = true) (hx : look l x = some (.sl s xs)) (hy : look l y = some (.v (.int k r))) (hr : r = (q : Nat)) (hq : q ≤ xs.length) :
    Val P n W σ l X ⟨d, .slice t x (some y) none none, ty, pos, aft, g⟩ (.sl s (xs.drop q)) := fun a w hs _ => by
  subst hr
  have hsz := Nat.eq_of_beq_eq_true hsz
  subst hsz
  obtain ⟨us, h1, h2⟩ := hs.eval hx
  obtain ⟨A', c, hsh, h3, h4, h5⟩ := h1.shape
  rw [hsh] at h1
  have h6 := IsRow.tailN h1 hq (aW_ h2)
  refine ⟨_, ⟨_, by rw [List.length_drop]; exact h6, (cE_ h2 q hq).1⟩, fun w' _ => ?_⟩
  have h7 := (hT _ _ hi).sizeOf (w := w')
  simp [execOp, Instr.sliceAt, Instr.slice, Instr.sliceBounds, Instr.sliceBound, asIntOf, hsh, hs.plain hy, run_underlying hu, Sem.run_bind, Result.andThen, h7, hq]
def args0 : List Abs → Nat → Slots
  | [], _ => []
  | v :: vs, i => (i, v) :: args0 vs (i + 1)
theorem eN_ : ∀ (vs : List Abs) (i t : Nat) (v : Abs), slot (args0 vs i) t = some v → i ≤ t ∧ vs[t - i]? = some v
  | [], i, t, v, h => by simp [args0, slot] at h
  | u :: vs, i, t, v, h => by
    unfold args0 slot at h
    by_cases hit : i = t
    · subst hit
      simp at h
      subst h
      simp
    · rw [cN_ hit] at h
      obtain ⟨h1, h2⟩ := eN_ vs (i + 1) t v h
      refine ⟨by omega, ?_⟩
      rw [show t - i = (t - (i + 1)) + 1 by omega]
      simpa using h2
section
variable {ι : Type} {τ' : ι → Blks} {res : ι → Abs} {args : List Abs}
def Post (G : List Nat) (σ : Blks) (τ' : ι → Blks) (res : ι → Abs) (w : World) (e : Ending) (w' : World) : Prop :=
  ∃ z r, e = .returned r ∧ (∀ x ∈ τ' z, x.rids = []) ∧ Mem w (mids σ) G (τ' z) w' ∧ rep (mids (τ' z) ++ G) w' (res z) r
theorem K_ {f : FuncId} {c : Code} (hf : P.funcs[f]? = some fn) (hb : fn.body = some c) (hn : fn.ntmps = n) (hle : Nat.ble args.length n = true)
    (h : ∀ G w, SC P c (St n ⟨w, mids σ, G⟩ σ (args0 args 0)) (bodyPost P fn (Post G σ τ' res w))) : Spec P f args σ τ' res := fun G w vals hm hv => by
  have hlen := ac_ hv
  refine R_ vals hf hb hn (by rw [hlen]; exact hle) (fun w1 => w1 = w) rfl fun a w1 hfr hw => ?_
  subst hw
  refine h G w1 a w1 ⟨hfr.defers, hfr.size, fun t x hx => ?_, hm⟩
  have h1 := (eN_ args 0 t x hx).2
  rw [Nat.sub_zero] at h1
  obtain ⟨u, h2, h3⟩ := bT_ hv h1
  refine ⟨u, hfr.at_ t u ?_, h3⟩
  have h4 := d8_ vals 0 t u h2
  rw [Nat.zero_add] at h4
  exact h4
inductive RV (P : Program) (n : Nat) (W : Wd) (σ : Blks) (l : Slots) : List ResultVar → List Abs → Prop
  | nil : RV P n W σ l [] []
  | tmp {t : Nat} {v : Abs} {rs : List ResultVar} {vs : List Abs} (h : slot l t = some v) (k : RV P n W σ l rs vs) : RV P n W σ l (.tmp t :: rs) (v :: vs)
  | cell {p ty b : Nat} {v : Abs} {rs : List ResultVar} {vs : List Abs} (h : slot l p = some (.v (.pointer (some ⟨b, 0, none⟩)))) (hv : ∀ a w, St n W σ l a w → ∃ u, rep (mids σ ++ W.G) w v u ∧ (loadVar ty ⟨b, 0, none⟩).run P w = .ok u w) (k : RV P n W σ l rs vs) : RV P n W σ l (.cell p ty :: rs) (v :: vs)
theorem RV.run {rs : List ResultVar} {vs : List Abs} (h : RV P n W σ l rs vs) {a : Act} {w : World} (hs : St n W σ l a w) : ∃ us, reps (mids σ ++ W.G) w vs us ∧ (rs.mapM (resV a.tmps)).run P w = .ok us w := by
  induction h with
  | nil => exact ⟨[], rfl, rfl⟩
  | @tmp t v rs vs h _ ih =>
    obtain ⟨us, h3, h4⟩ := ih
    obtain ⟨u, h1, h2⟩ := hs.slots t v h
    have h5 : (resV a.tmps (.tmp t)).run P w = .ok u w := by simp [resV, h1]
    exact ⟨u :: us, ⟨u, us, rfl, h2, h3⟩, by simp only [List.mapM_cons, Sem.run_bind, h5, Result.andThen_ok, h4, Sem.run_pure]⟩
  | @cell q ty b v rs vs h hv _ ih =>
    obtain ⟨us, h3, h4⟩ := ih
    obtain ⟨u, h1, h2⟩ := hv a w hs
    obtain ⟨p, h6, h7⟩ := hs.slots q _ h
    have h8 : p = .pointer (some ⟨b, 0, none⟩) := h7
    subst h8
    have h5 : (resV a.tmps (.cell q ty)).run P w = .ok u w := by simp [resV, h6, asAddr]; exact h2
    exact ⟨u :: us, ⟨u, us, rfl, h1, h3⟩, by simp only [List.mapM_cons, Sem.run_bind, h5, Result.andThen_ok, h4, Sem.run_pure]⟩
theorem RV.cellA (hT : TabOk P tab) {i : TI} {b : Nat} {cs : List Abs} (ht : ti tab t = some i) (hk : (match i.k with | .one => false | _ => true) = true) (hb : isBlk σ b t' cs) (hl : cs.length = i.size) : ∀ a w, St n W σ l a w → ∃ u, rep (mids σ ++ W.G) w (.agg cs) u ∧ (loadVar t ⟨b, 0, none⟩).run P w = .ok u w := fun a w hs => by
  obtain ⟨us, h1, h2⟩ := hs.mem.blk hb
  exact ⟨_, ⟨us, rfl, h2⟩, cQ_ hT ht hk (by rw [ac_ h2]; exact hl) fun j u hu => by rw [Nat.zero_add, bA_ h1]; exact hu⟩
def retA : List Abs → Abs
  | [v] => v
  | vs => .tup vs
theorem ret_rep {K : List Nat} {w : World} : ∀ {vs : List Abs} {us : List Value}, reps K w vs us → rep K w (retA vs) (retOf us)
  | [], us, h => by have : us = [] := h; subst this; exact ⟨[], rfl, rfl⟩
  | [v], us, ⟨u, us', h1, h2, h3⟩ => by have : us' = [] := h3; subst this h1; exact h2
  | v :: v2 :: vs, us, h => by
    obtain ⟨u, us', h1, h2, u2, us2, h3, h4, h5⟩ := id h
    subst h1 h3
    exact ⟨_, rfl, h⟩
theorem RV.results {rs : List ResultVar} {vs : List Abs} (hr : fn.results = rs.toArray) (h : RV P n W σ l rs vs) {a : Act} {w : World} (hs : St n W σ l a w) : ∃ us, reps (mids σ ++ W.G) w vs us ∧ (results fn a.tmps).run P w = .ok (retOf us) w := by
  obtain ⟨us, h1, h2⟩ := h.run hs
  refine ⟨us, h1, ?_⟩
  rw [eP_, hr, Array.mapM_eq_mapM_toList, Sem.run_bind, Sem.run_map]
  dsimp only
  rw [h2]
  match us with
  | [] => rfl
  | [v] => rfl
  | v :: u :: vs => simp [retOf, Result.andThen]
theorem jE_ {R : Ending → World → Prop} {rs : List ResultVar} {vs : List Abs} (hr : fn.results = rs.toArray) (h : RV P n W σ l rs vs) (k : ∀ a w us, St n W σ l a w → reps (mids σ ++ W.G) w vs us → R (.returned (retOf us)) w) : SE .ret (St n W σ l) (bodyPost P fn R) := fun a w hs => by
  obtain ⟨us, h1, h2⟩ := h.results hr hs
  exact ⟨hs.defers, _, h2, k a w us hs h1⟩
theorem SE.doneG {R : Ending → World → Prop} {rs : List ResultVar} {vs : List Abs} (hr : fn.results = rs.toArray) (h : RV P n W σ l rs vs) (k : ∀ a w us, St n W σ l a w → reps (mids σ ++ W.G) w vs us → R (.returned (retOf us)) w) : SE .normal (St n W σ l) (bodyPost P fn R) := fun a w hs => by
  obtain ⟨us, h1, h2⟩ := h.results hr hs
  exact ⟨hs.defers, _, h2, k a w us hs h1⟩
theorem gC_ {G : List Nat} {w0 : World} {σ0 : Blks} {vs : List Abs} (z : ι) (hsub : (τ' z).Sublist σ) (hro : ∀ x ∈ τ' z, x.rids = []) (hres : retA vs = res z) {a : Act} {w : World} {us : List Value} (hs : St n ⟨w0, mids σ0, G⟩ σ l a w) (hv : reps (mids σ ++ G) w vs us) : Post G σ0 τ' res w0 (.returned (retOf us)) w := by
  obtain ⟨h1, h2⟩ := hs.mem.sub hsub
  exact ⟨z, _, rfl, hro, h1, hres ▸ ret_rep (ao_ h2 _ _ hv)⟩
theorem SE.fin {G : List Nat} {w0 : World} {σ0 : Blks} {rs : List ResultVar} {vs : List Abs} (hr : fn.results = rs.toArray) (h : RV P n ⟨w0, mids σ0, G⟩ σ l rs vs) (z : ι) (hsub : (τ' z).Sublist σ) (hro : ∀ x ∈ τ' z, x.rids = []) (hres : retA vs = res z) : SE .ret (St n ⟨w0, mids σ0, G⟩ σ l) (bodyPost P fn (Post G σ0 τ' res w0)) :=
  jE_ hr h fun _ _ _ hs hv => gC_ z hsub hro hres hs hv
theorem SE.finC {G : List Nat} {w0 : World} {σ0 : Blks} {rs : List ResultVar} {vs vs2 : List Abs} (hr : fn.results = rs.toArray) (h : RV P n ⟨w0, mids σ0, G⟩ σ l rs vs) (hca : Casts vs vs2) (z : ι) (hsub : (τ' z).Sublist σ) (hro : ∀ x ∈ τ' z, x.rids = []) (hres : retA vs2 = res z) : SE .ret (St n ⟨w0, mids σ0, G⟩ σ l) (bodyPost P fn (Post G σ0 τ' res w0)) :=
  jE_ hr h fun _ _ _ hs hv => gC_ z hsub hro hres hs (hca _ _ _ hv)
theorem bO_ {cs ds : List Abs} (h : Casts cs ds) : ∀ K w u, rep K w (.agg cs) u → rep K w (.agg ds) u := fun K w _ ⟨us, h1, h2⟩ => ⟨us, h1, h K w us h2⟩
theorem Casts.nils {s : Nat} {xs ys : List Abs} (k : Casts xs ys) : Casts (.v (.slice none 0 0) :: xs) (.sl s [] :: ys) := k.cons fun _ _ _ h => dm_ h
theorem b4_ {G : List Nat} {w0 : World} {σ0 : Blks} {rs : List ResultVar} {vs : List Abs} (hr : fn.results = rs.toArray) (h : RV P n ⟨w0, mids σ0, G⟩ σ l rs vs) (z : ι) (hsub : (τ' z).Sublist σ) (hro : ∀ x ∈ τ' z, x.rids = []) (hres : retA vs = res z) : SE .normal (St n ⟨w0, mids σ0, G⟩ σ l) (bodyPost P fn (Post G σ0 τ' res w0)) :=
  SE.doneG hr h fun _ _ _ hs hv => gC_ z hsub hro hres hs hv
end
/-! ### Contracts of the first engine -/
def old2 (w : World) (K : List Nat) : Proofs.YtggajaigfkekhaaGreat.It := .pc
  { ids := (List.range w.heap.size).filter fun k => decide (k ∈ K)
    p := fun w' => w.heap.size ≤ w'.heap.size ∧ ∀ k, k < w.heap.size → k ∈ K → w'.heap[k]? = w.heap[k]?
    st := fun F w1 w2 hx hF h => ⟨Nat.le_trans h.1 hx.size, fun k hk hm => (hx.block k (Nat.lt_of_lt_of_le hk h.1) (hF k (by simp [hk, hm]))).trans (h.2 k hk hm)⟩
    lt := fun w' h k hk => by
      have : k < w.heap.size := by have := (List.mem_filter.1 hk).1; simpa using this
      exact Nat.lt_of_lt_of_le this h.1 }
theorem bd_ {w : World} {K : List Nat} {k : Nat} : k ∈ (old2 w K).ids ↔ k < w.heap.size ∧ k ∈ K := by simp [old2, Proofs.YtggajaigfkekhaaGreat.It.ids]
theorem enter2 (w : World) (K : List Nat) : Proofs.YtggajaigfkekhaaGreat.Mem [(w, K)] [old2 w K] [] w := by
  refine ⟨fun s hs => ?_, fun x hx k hk s hs => ?_, ?_, fun x hx => ?_, by simp⟩
  · rw [List.mem_singleton] at hs; subst hs; exact Ext.refl w
  · rw [List.mem_singleton] at hs hx; subst hs hx; exact .inl (bd_.1 hk).2
  · simp only [List.flatMap_cons, List.flatMap_nil, List.append_nil]
    exact List.Nodup.sublist List.filter_sublist List.nodup_range
  · rw [List.mem_singleton] at hx; subst hx; exact ⟨Nat.le_refl _, fun _ _ _ => rfl⟩
theorem leave2 {w w' : World} {K : List Nat} {ρ : List Dt} {σ2 : Proofs.YtggajaigfkekhaaGreat.Blks} (h : Proofs.YtggajaigfkekhaaGreat.Mem [(w, K)] σ2 ρ w') (hm : old2 w K ∈ σ2) : Ext [] w w' := by
  have h1 := h.ext (w, K) (by simp)
  have h2 : _ ∧ _ := h.hold _ hm
  exact ⟨h1.os, h1.tape, h1.output, h1.size, fun k hk _ => by
    by_cases hK : k ∈ K
    · exact h2.2 k hk hK
    · exact h1.block k hk hK⟩
theorem row2 {w : World} {K : List Nat} {v : Value} {n : Nat} {cs : List Value} (h : IsRow K w v n cs) : IsRow ([old2 w K].flatMap Proofs.YtggajaigfkekhaaGreat.It.ids) w v n cs :=
  h.grow fun k hk => .inl (by
    simp only [List.flatMap_cons, List.flatMap_nil, List.append_nil] at hk
    exact (bd_.1 hk).2)
theorem row3 {w w' : World} {K L : List Nat} {v : Value} {n : Nat} {cs : List Value} (hK : ∀ k ∈ K, k < w.heap.size) (hL : ∀ k, k < w.heap.size → k ∈ K → k ∈ L) (h : IsRow L w' v n cs) : IsRow K w' v n cs :=
  h.grow fun k hk => .inl (hL k (hK k hk) hk)
theorem Pure.of2 {f : FuncId} {args : List Abs} {res : Abs} (h : ∀ (K : List Nat) (w : World) (vals : List Value), (∀ k ∈ K, k < w.heap.size) → reps K w args vals → Calls P f vals.toArray w fun e w' => ∃ r, e = .returned r ∧ Ext [] w w' ∧ rep K w' res r) : Pure P f args res := fun G w vals hm hv =>
  (h G w vals hm.old hv).mono fun e w' ⟨r, he, hx, hr⟩ => ⟨(), r, he, by simp, ⟨hx, by simp [mids], by simp [mids], fun k hk => Nat.lt_of_lt_of_le (hm.old k hk) hx.size, by simp, by simp [mids], by simp⟩, hr⟩
end
section
variable {P : Program} {n : Nat} {W : Wd} {σ τ : Blks} {l l' : Slots} {X : List Nat} {o : Oper} {y : Abs} {tab : List (Nat × TI)} {ops : Array Oper} {rest rest' : List Oper} {Q : Exit → Act → World → Prop}
def cmpQ (f : Int → Int → Bool) (l : Slots) (x y : Operand) : Option Abs := match look l x, look l y with
  | some (.v (.int k a)), some (.v (.int k' b)) => if k = k' then some (.v (.bool (f a b))) else none
  | _, _ => none
def stepQ (tab : List (Nat × TI)) (l : Slots) : Oper → Option Abs
  | ⟨_, .move x, _, _, _, _⟩ => look l x
  | ⟨_, .assign x, _, _, _, _⟩ => look l x
  | ⟨_, .extract x i, _, _, _, _⟩ => match look l x with
    | some (.tup vs) => vs[i]?
    | _ => none
  | ⟨_, .nilCheck x, _, _, _, _⟩ => match look l x with
    | some (.v (.pointer (some p))) => some (.v (.pointer (some p)))
    | _ => none
  | ⟨_, .pick x y z, _, _, _, _⟩ => match look l x with
    | some (.v (.bool true)) => look l y
    | some (.v (.bool false)) => look l z
    | _ => none
  | ⟨_, .fieldAddr t x f, _, _, _, _⟩ => match ti tab t with
    | some ⟨_, .struct gs, _⟩ => match look l x with
      | some (.v (.pointer (some ⟨b, off, none⟩))) => match gs[f]? with
        | some (fo, ft) => match ti tab ft with
          | some j => bif Nat.beq j.size 0 then none else some (.v (.pointer (some ⟨b, off + fo, none⟩)))
          | none => none
        | none => none
      | _ => none
    | _ => none
  | ⟨_, .binOp .eql _ x y _, _, _, _, _⟩ => cmpQ (fun a b => decide (a = b)) l x y
  | ⟨_, .binOp .neq _ x y _, _, _, _, _⟩ => cmpQ (fun a b => decide (a ≠ b)) l x y
  | ⟨_, .binOp .lss _ x y _, _, _, _, _⟩ => cmpQ (fun a b => decide (a < b)) l x y
  | ⟨_, .binOp .leq _ x y _, _, _, _, _⟩ => cmpQ (fun a b => decide (a ≤ b)) l x y
  | ⟨_, .binOp .gtr _ x y _, _, _, _, _⟩ => cmpQ (fun a b => decide (b < a)) l x y
  | ⟨_, .binOp .geq _ x y _, _, _, _, _⟩ => cmpQ (fun a b => decide (b ≤ a)) l x y
  | _ => none
theorem cH_ {f : Int → Int → Bool} {x z : Operand} (h : cmpQ f l x z = some y) : ∃ k a b, look l x = some (.v (.int k a)) ∧ look l z = some (.v (.int k b)) ∧ y = .v (.bool (f a b)) := by
  unfold cmpQ at h
  split at h
  · next k a k' b h1 h2 =>
    split at h
    · next hk => subst hk; cases h; exact ⟨k, a, b, h1, h2, rfl⟩
    · cases h
  · cases h
theorem fM_ (hT : TabOk P tab) (h : stepQ tab l o = some y) : Val P n W σ l X o y := by
  unfold stepQ at h
  split at h
  · exact k_ h
  · exact h_ h
  · split at h
    · exact aM_ (by assumption) h
    · cases h
  · split at h
    · cases h; exact ak_ (by assumption)
    · cases h
  · split at h
    · exact F_ (by assumption) h
    · exact G_ (by assumption) h
    · cases h
  · split at h
    · split at h
      · split at h
        · split at h
          · next j hj =>
            cases hb : Nat.beq j.size 0 with
            | true => rw [hb] at h; cases h
            | false => rw [hb] at h; cases h; exact p_ hT (by assumption) (by assumption) (by assumption) hj hb
          · cases h
        · cases h
      · cases h
    · cases h
  · obtain ⟨k, a, b, h1, h2, rfl⟩ := cH_ h; exact aD_ h1 h2
  · obtain ⟨k, a, b, h1, h2, rfl⟩ := cH_ h; exact bx_ h1 h2
  · obtain ⟨k, a, b, h1, h2, rfl⟩ := cH_ h; exact an_ h1 h2
  · obtain ⟨k, a, b, h1, h2, rfl⟩ := cH_ h; exact c0_ h1 h2
  · obtain ⟨k, a, b, h1, h2, rfl⟩ := cH_ h; exact aA_ h1 h2
  · obtain ⟨k, a, b, h1, h2, rfl⟩ := cH_ h; exact bH_ h1 h2
  · cases h
def autoQ (tab : List (Nat × TI)) (n : Nat) (ops : Array Oper) : Nat → List Oper → Slots → Option (List Oper × Slots)
  | 0, rest, l => some (rest, l)
  | _ + 1, [], _ => none
  | k + 1, o :: rest, l => match lt? o.dst n with
    | false => none
    | true => match gd ops l o with
      | some true => match stepQ tab l o with
        | some y => autoQ tab n ops k rest (put? l o.dst y)
        | none => none
      | some false => autoQ tab n ops k rest (put? l o.dst (.v undef))
      | none => none
theorem g5_ (hT : TabOk P tab) : ∀ (k : Nat) {rest : List Oper} {l : Slots}, autoQ tab n ops k rest l = some (rest', l') → SL P ops rest' (St n W σ l') Q → SL P ops rest (St n W σ l) Q
  | 0, _, _, h, K => by unfold autoQ at h; cases h; exact K
  | _ + 1, [], _, h, _ => by unfold autoQ at h; cases h
  | k + 1, o :: rest, l, h, K => by
    unfold autoQ at h
    cases hd : lt? o.dst n with
    | false => rw [hd] at h; cases h
    | true =>
      rw [hd] at h
      dsimp only at h
      split at h
      · next hg =>
        split at h
        · next y hy => exact b_ (fM_ hT hy) hg hd (g5_ hT k h K)
        · cases h
      · next hg => exact Y_ hg hd (g5_ hT k h K)
      · cases h
end
section
variable {n : Nat} {W : Wd} {σ : Blks} {l l' : Slots} {ops : Array Oper} {rest rest' : List Oper} {Q : Exit → Act → World → Prop}
theorem q_ (k : Nat) (h : autoQ tab n ops k rest l = some (rest', l')) (K : SL Tryz.prog ops rest' (St n W σ l') Q) : SL Tryz.prog ops rest (St n W σ l) Q := g5_ tabOk k h K
end
section
variable {x y a b c d e f g h : It} {σ τ : Blks}
theorem u0_ : Upd x y (x :: σ) (y :: σ) := Upd.here
theorem u1_ : Upd x y (a :: x :: σ) (a :: y :: σ) := Upd.there u0_
theorem u2_ : Upd x y (a :: b :: x :: σ) (a :: b :: y :: σ) := Upd.there u1_
theorem u3_ : Upd x y (a :: b :: c :: x :: σ) (a :: b :: c :: y :: σ) := Upd.there u2_
theorem u4_ : Upd x y (a :: b :: c :: d :: x :: σ) (a :: b :: c :: d :: y :: σ) := Upd.there u3_
theorem u5_ : Upd x y (a :: b :: c :: d :: e :: x :: σ) (a :: b :: c :: d :: e :: y :: σ) := Upd.there u4_
end
section
variable {P : Program} {n : Nat} {W : Wd} {ops : Array Oper} {l : Slots} {σ σ1 τ : Blks} {X : List Nat} {Q : Exit → Act → World → Prop} {ix : Plan} {ι : Type} {τ' : ι → Blks} {K : Blks → ι → Prop} {res : ι → Abs} {fn : Func} {G : List Nat} {w0 : World} {σ0 : Blks} {rs : List ResultVar} {vs vs2 : List Abs}
theorem ap_ (k : ∀ z, K σ z) (h : Reads σ σ1 := by repeat (first | exact Reads.nil | (refine Reads.blk ?_ ?_; focus ((repeat first|assumption|exact List.mem_cons_self|apply List.mem_cons_of_mem); done)) | (refine Reads.rd ?_ ?_; focus ((repeat first|assumption|exact List.mem_cons_self|apply List.mem_cons_of_mem); done)) | (refine Reads.pc ?_ ?_; focus ((repeat first|assumption|exact List.mem_cons_self|apply List.mem_cons_of_mem); done)) | (refine Reads.rdpc ?_ ?_; focus ((repeat first|assumption|exact List.mem_cons_self|apply List.mem_cons_of_mem); done)))) (hτ : ∀ z, τ' z = [] := by exact fun _ => rfl) : After σ σ1 τ' K := bo_ h hτ k
theorem hx_ (k : (∀ k ∈ X, k ∈ mids σ) → SX P ops ix X (St n W σ l) Q) (h : ∀ k ∈ X, k ∈ mids σ := by first | (simp [mids, It.mids, ownPc]; done) | (intro k hk; simp [mids, It.mids, ownPc] at hk ⊢; grind)) : SX P ops ix X (St n W σ l) Q := k h
theorem f_ (hr : fn.results = rs.toArray) (h : RV P n ⟨w0, mids σ0, G⟩ σ l rs vs) (z : ι) (hsub : (τ' z).Sublist σ) (hres : retA vs = res z) (hro : ∀ x ∈ τ' z, x.rids = [] := by simp [It.rids]) : SE .ret (St n ⟨w0, mids σ0, G⟩ σ l) (bodyPost P fn (Post G σ0 τ' res w0)) := SE.fin hr h z hsub hro hres
theorem fC_ (hr : fn.results = rs.toArray) (h : RV P n ⟨w0, mids σ0, G⟩ σ l rs vs) (hca : Casts vs vs2) (z : ι) (hsub : (τ' z).Sublist σ) (hres : retA vs2 = res z) (hro : ∀ x ∈ τ' z, x.rids = [] := by simp [It.rids]) : SE .ret (St n ⟨w0, mids σ0, G⟩ σ l) (bodyPost P fn (Post G σ0 τ' res w0)) := SE.finC hr h hca z hsub hro hres
end
section
variable {P : Program} {n : Nat} {W : Wd} {σ : Blks} {l l' : Slots} {X : List Nat} {o : Oper} {tab : List (Nat × TI)} {ops : Array Oper} {ix ix' : Plan} {rest : List Oper} {Q : Exit → Act → World → Prop} {Y : List Nat}
def autoX (tab : List (Nat × TI)) (n : Nat) (ops : Array Oper) : Nat → Plan → Slots → Option (Plan × Slots)
  | 0, ix, l => some (ix, l)
  | k + 1, .q i ix, l => match ops[i]? with
    | none => none
    | some o => match lt? o.dst n with
      | false => none
      | true => match gd ops l o with
        | some true => match stepQ tab l o with
          | some y => autoX tab n ops k ix (put? l o.dst y)
          | none => none
        | some false => autoX tab n ops k ix (put? l o.dst (.v undef))
        | none => none
  | _ + 1, _, _ => none
theorem fI_ (hT : TabOk P tab) (hX : ∀ k ∈ X, k ∈ mids σ) : ∀ (k : Nat) {ix : Plan} {l : Slots}, autoX tab n ops k ix l = some (ix', l') → SX P ops ix' X (St n W σ l') Q → SX P ops ix X (St n W σ l) Q
  | 0, _, _, h, K => by unfold autoX at h; cases h; exact K
  | k + 1, ix, l, h, K => by
    unfold autoX at h
    split at h
    · cases h; next h0 => cases h0
    · next h0 =>
      cases h0
      split at h
      · cases h
      · next o ho =>
        split at h
        · cases h
        · next hd =>
          split at h
          · next hg =>
            split at h
            · next y hy => exact l_ ho (fM_ hT hy) hX hg hd (fI_ hT hX _ h K)
            · cases h
          · next hg => exact ch_ ho hg hd (fI_ hT hX _ h K)
          · cases h
    · cases h
theorem e_ {y0 : Abs} {τ0 : Blks} (hv : Eff P n W σ l Y o fun y τ => y = y0 ∧ τ = τ0) (hg : gd ops l o = some true) (hd : lt? o.dst n = true) (k : SL P ops rest (St n W τ0 (put? l o.dst y0)) Q) : SL P ops (o :: rest) (St n W σ l) Q := am_ hv hg hd (by rintro _ _ ⟨rfl, rfl⟩; exact k)
theorem eb_ {ι : Type} {y0 : ι → Abs} {τ0 : ι → Blks} (hv : Eff P n W σ l Y o fun y τ => ∃ b, y = y0 b ∧ τ = τ0 b) (hg : gd ops l o = some true) (hd : lt? o.dst n = true) (k : ∀ b, SL P ops rest (St n W (τ0 b) (put? l o.dst (y0 b))) Q) : SL P ops (o :: rest) (St n W σ l) Q := am_ hv hg hd (by rintro _ _ ⟨b, rfl, rfl⟩; exact k b)
theorem ex_ {i : Nat} {y0 : Abs} {τ0 : Blks} (hi : ops[i]? = some o) (hv : Eff P n W σ l Y o fun y τ => y = y0 ∧ τ = τ0) (hY : ∀ k ∈ Y, k ∈ X) (hg : gd ops l o = some true) (hd : lt? o.dst n = true) (k : SX P ops ix X (St n W τ0 (put? l o.dst y0)) Q) : SX P ops (.e i ix) X (St n W σ l) Q := dI_ hi hv hY hg hd (by rintro _ _ ⟨rfl, rfl⟩; exact k)
theorem exb_ {i : Nat} {ι : Type} {y0 : ι → Abs} {τ0 : ι → Blks} (hi : ops[i]? = some o) (hv : Eff P n W σ l Y o fun y τ => ∃ b, y = y0 b ∧ τ = τ0 b) (hY : ∀ k ∈ Y, k ∈ X) (hg : gd ops l o = some true) (hd : lt? o.dst n = true) (k : ∀ b, SX P ops ix X (St n W (τ0 b) (put? l o.dst (y0 b))) Q) : SX P ops (.e i ix) X (St n W σ l) Q := dI_ hi hv hY hg hd (by rintro _ _ ⟨b, rfl, rfl⟩; exact k b)
end
section
variable {n : Nat} {W : Wd} {σ : Blks} {l l' : Slots} {ops : Array Oper} {X : List Nat} {ix ix' : Plan} {Q : Exit → Act → World → Prop}
theorem qx_ (k : Nat) (hX : ∀ k ∈ X, k ∈ mids σ) (h : autoX tab n ops k ix l = some (ix', l')) (K : SX Tryz.prog ops ix' X (St n W σ l') Q) : SX Tryz.prog ops ix X (St n W σ l) Q := fI_ tabOk hX k h K
theorem qs_ (k : Nat) (h : autoX tab n ops k ix l = some (ix', l')) (K : SX Tryz.prog ops ix' X (St n W σ l') Q) (hX : ∀ k ∈ X, k ∈ mids σ := by simp) : SX Tryz.prog ops ix X (St n W σ l) Q := fI_ tabOk hX k h K
end
end Go.Proofs.YtggajaigfkekhaaGreat.A
namespace Go.Proofs.YtggajaigfkekhaaGreat
open Go.RowKit
def Rd.as (s t : Rd) : Prop := s.l = t.l ∧ s.e = t.e
section
variable {s t : Rd}
theorem Rd.as.bad (h : s.as t) (n : Int) : s.bad n ↔ t.bad n := by unfold Rd.bad; rw [h.1]
theorem Rd.as.fixed (h : s.as t) (n : Int) : (s.fixed n).as (t.fixed n) := by
  unfold Rd.fixed Rd.as
  by_cases he : t.e = 0
  · have he' : s.e = 0 := by rw [h.2, he]
    by_cases hb : t.bad n
    · simp [he, he', hb, (h.bad n).2 hb, h.1]
    · have hb' : ¬ s.bad n := fun x => hb ((h.bad n).1 x)
      simp [he, he', hb, hb', h.1]
  · have he' : s.e ≠ 0 := by rw [h.2]; exact he
    simp [he, h.1, h.2]
theorem Rd.as.out (h : s.as t) (n : Int) : s.out n = t.out n := by
  unfold Rd.out
  rw [h.1, h.2]
  by_cases hb : t.bad n
  · simp [hb, (h.bad n).2 hb]
  · have hb' : ¬ s.bad n := fun x => hb ((h.bad n).1 x)
    simp [hb, hb']
theorem Rd.as.num (h : s.as t) (n : Int) : s.num n = t.num n := by unfold Rd.num; rw [h.out]
theorem Rd.as.row (h : s.as t) (most : Int) : (s.row most).as (t.row most) := by
  have h1 := h.fixed 4
  unfold Rd.row
  rw [h1.2, h.num 4]
  split
  · exact h1
  · split
    · exact ⟨h1.1, rfl⟩
    · exact h1.fixed _
theorem Rd.as.rowOut (h : s.as t) (most : Int) : s.rowOut most = t.rowOut most := by
  have h1 := h.fixed 4
  unfold Rd.rowOut
  rw [h1.2, h.num 4, h1.out]
theorem Rd.as.end_ (h : s.as t) : s.end_ = t.end_ := by unfold Rd.end_; rw [h.1, h.2]
end
def Rd.of (l : List UInt8) : Rd := ⟨.slice none 0 0, l, 0⟩
theorem of_as (z : Value) (l : List UInt8) : (⟨z, l, 0⟩ : Rd).as (Rd.of l) := ⟨rfl, rfl⟩
theorem Rd.rowOut_length (s : Rd) (most : Int) : (s.rowOut most).length ≤ s.l.length := by
  have h1 := s.fixed_length 4
  unfold Rd.rowOut
  split
  · simp
  · split
    · simp
    · unfold Rd.out
      split
      · simp
      · split
        · simp
        · simp; omega
section
variable {P : Program} {n : Nat} {l : Slots} {D : World → Prop} {x y : Operand} {d : Option Nat} {ty t t' : TypeId} {pos : String} {aft : Array Edge} {g : Option (Nat × Bool)}
theorem Val.minN {k : IntKind} {i j : Nat} {b : Int} (hx : look l x = some (.int k i)) (hy : look l y = some (.int k b)) (hb : b = (j : Nat)) : Val P n l D ⟨d, .call { callee := .builtin .min, args := #[x, y], argTypes := #[t, t'] }, ty, pos, aft, g⟩ (.int k ((min i j : Nat) : Int)) := by
  subst hb
  have := hI_ (P := P) (n := n) (D := D) (d := d) (t := t) (t' := t') (ty := ty) (pos := pos) (aft := aft) (g := g) hx hy
  rw [show (min (i : Int) (j : Int)) = ((min i j : Nat) : Int) by omega] at this
  exact this
end
end Go.Proofs.YtggajaigfkekhaaGreat
namespace Go.Proofs.YtggajaigfkekhaaGreat.A
open Go.RowKit
abbrev int (x : Int) : Abs := .v (.int .i64 x)
abbrev wrd (x : Nat) : Abs := .v (.int .u64 (x : Nat))
abbrev boo (b : Bool) : Abs := .v (.bool b)
abbrev ptr (b : Nat) : Abs := .v (.pointer (some ⟨b, 0, none⟩))
abbrev rdA (T : TypeId) (p : Nat) (s : Rd) : It := .blk p T [byt s.l, int s.e]
section
variable {P : Program} {f : FuncId}
abbrev flat {α : Type} (s : Nat) (c : α → List Value) (xs : List α) : Abs := .sl s (xs.map fun a => (c a).map .v)
theorem aF_ {K : List Nat} {w : World} : ∀ {us vs : List Value}, reps K w (us.map .v) vs ↔ vs = us
  | [], vs => Iff.rfl
  | u :: us, vs => by
    constructor
    · rintro ⟨u', us', h1, h2, h3⟩
      have h2 : u' = u := h2
      rw [h1, h2, aF_.1 h3]
    · rintro rfl; exact ⟨u, us, rfl, rfl, aF_.2 rfl⟩
theorem cD_ {K : List Nat} {w : World} {α : Type} {s : Nat} {c : α → List Value} (hc : ∀ a, (c a).length = s) : ∀ {xs : List α} {us : List Value}, repss K w s (xs.map fun a => (c a).map .v) us ↔ us = xs.flatMap c
  | [], us => Iff.rfl
  | x :: xs, us => by
    constructor
    · rintro ⟨u1, u2, h1, h2, h3, h4⟩
      rw [h1, aF_.1 h3, (cD_ hc).1 h4, List.flatMap_cons]
    · rintro rfl
      exact ⟨c x, _, rfl, hc x, aF_.2 rfl, (cD_ hc).2 rfl⟩
theorem bL_ {K : List Nat} {w : World} {α : Type} {s : Nat} {c : α → List Value} (hc : ∀ a, (c a).length = s) {xs : List α} {x : Value} : rep K w (flat s c xs) x ↔ IsRow K w x xs.length (xs.flatMap c) := by
  constructor
  · rintro ⟨us, h1, h2⟩
    have := (cD_ hc).1 h2
    subst this
    simpa using h1
  · intro h
    exact ⟨_, by simpa using h, (cD_ hc).2 rfl⟩
theorem Spec.ofRdG {T p : Nat} {s t : Rd} {vals : List Value} {res : Abs} (h : ∀ (S : List (World × List Nat)) (σ2 : Proofs.YtggajaigfkekhaaGreat.Blks) (ρ : List Dt) (w : World) (v : Value), Proofs.YtggajaigfkekhaaGreat.Mem S (rdI T p ⟨v, s.l, s.e⟩ :: σ2) ρ w → bytesD v s.l ∈ ρ →
    Calls P f vals.toArray w fun e w' => ∃ r v' ρ', e = .returned r ∧ Proofs.YtggajaigfkekhaaGreat.Mem S (rdI T p ⟨v', t.l, t.e⟩ :: σ2) ρ' w' ∧ bytesD v' t.l ∈ ρ' ∧ ∀ K', (∀ x n cs, rowD x n cs ∈ ρ' → IsRow K' w' x n cs) → rep K' w' res r) : Spec P f (vals.map .v) [rdA T p s] (fun _ : Unit => [rdA T p t]) (fun _ => res) := fun G w vs hm hv => by
  have := aF_.1 hv
  subst this
  obtain ⟨us, hb, v, us', h1, h2, e, us2, h3, h4, h5⟩ := hm.hold (rdA T p s) (by simp)
  have h4 : e = .int .i64 s.e := h4
  have h5 : us2 = [] := h5
  subst h5 h4 h3 h1
  have h2 := a7_.1 h2
  have hpG : p ∉ G := hm.sep p (by simp [mids, It.mids])
  have hw2 : Proofs.YtggajaigfkekhaaGreat.Mem [(w, p :: G)] (rdI T p ⟨v, s.l, s.e⟩ :: [old2 w G]) [bytesD v s.l] w := by
    refine ⟨fun s hs => ?_, fun x hx k hk s hs => ?_, ?_, fun x hx => ?_, fun z hz => ?_⟩
    · rw [List.mem_singleton] at hs; subst hs; exact Ext.refl w
    · rw [List.mem_singleton] at hs
      subst hs
      rcases List.mem_cons.1 hx with rfl | hx
      · simp only [Proofs.YtggajaigfkekhaaGreat.It.ids, List.mem_singleton] at hk; exact .inl (by simp [hk])
      · rw [List.mem_singleton] at hx; subst hx
        exact .inl (List.mem_cons_of_mem _ (bd_.1 hk).2)
    · simp only [List.flatMap_cons, List.flatMap_nil, List.append_nil, List.nodup_append]
      refine ⟨by simp [Proofs.YtggajaigfkekhaaGreat.It.ids], List.Nodup.sublist List.filter_sublist List.nodup_range, fun a ha b hb he => ?_⟩
      simp only [Proofs.YtggajaigfkekhaaGreat.It.ids, List.mem_singleton] at ha
      subst ha he
      exact hpG (bd_.1 hb).2
    · rcases List.mem_cons.1 hx with rfl | hx
      · exact hb
      · rw [List.mem_singleton] at hx; subst hx; exact ⟨Nat.le_refl _, fun _ _ _ => rfl⟩
    · rw [List.mem_singleton] at hz; subst hz
      refine h2.grow fun k hk => .inl ?_
      simp only [List.flatMap_cons, List.flatMap_nil, List.append_nil, List.mem_append] at hk
      rcases hk with hk | hk
      · simp only [Proofs.YtggajaigfkekhaaGreat.It.ids, List.mem_singleton] at hk
        simp [mids, It.mids, hk]
      · simp [(bd_.1 hk).2]
  refine (h _ _ _ _ v hw2 (by simp)).mono fun e w' ⟨r, v', ρ', he, hm', hd, hd2⟩ => ?_
  have hx := hm'.ext (w, p :: G) (by simp)
  have ho : _ ∧ _ := hm'.hold (old2 w G) (by simp)
  have hx2 : Ext (mids [rdA T p s]) w w' := ⟨hx.os, hx.tape, hx.output, hx.size, fun k hk hn => by
    by_cases hK : k ∈ G
    · exact ho.2 k hk hK
    · exact hx.block k hk (by simp only [List.mem_cons, not_or]; exact ⟨by simpa [mids, It.mids] using hn, hK⟩)⟩
  have hb' : w'.heap[p]? = some (row T [v', .int .i64 t.e]) := hm'.holds (by simp)
  have hgrow : ∀ (x : Value) (m : Nat) (cs : List Value), rowD x m cs ∈ ρ' → IsRow (mids [rdA T p t] ++ G) w' x m cs := fun _ _ _ hd => (hm'.data hd).grow fun k hk => by
    simp only [List.mem_append] at hk
    refine .inl ?_
    simp only [List.flatMap_cons, List.flatMap_nil, List.append_nil, List.mem_append]
    rcases hk with hk | hk
    · exact .inl (by simpa [mids, It.mids, Proofs.YtggajaigfkekhaaGreat.It.ids] using hk)
    · exact .inr (bd_.2 ⟨hm.old k hk, hk⟩)
  refine ⟨(), r, he, by simp [It.rids], ⟨hx2, fun k hk => .inl hk, fun k hk hg => hpG (by simp [mids, It.mids] at hk; subst hk; exact hg), fun k hk => Nat.lt_of_lt_of_le (hm.old k hk) hx.size, by simp [It.rids], by simp [mids, It.mids], fun x hx => ?_⟩, hd2 _ hgrow⟩
  rw [List.mem_singleton] at hx; subst hx
  exact ⟨_, hb', _, _, rfl, a7_.2 (hgrow _ _ _ hd), _, _, rfl, rfl, rfl⟩
theorem Spec.ofRd {T p : Nat} {s t : Rd} {vals : List Value} {u : Value} (h : ∀ (S : List (World × List Nat)) (σ2 : Proofs.YtggajaigfkekhaaGreat.Blks) (ρ : List Dt) (w : World) (v : Value), Proofs.YtggajaigfkekhaaGreat.Mem S (rdI T p ⟨v, s.l, s.e⟩ :: σ2) ρ w → bytesD v s.l ∈ ρ →
    Calls P f vals.toArray w fun e w' => ∃ v' ρ', e = .returned u ∧ Proofs.YtggajaigfkekhaaGreat.Mem S (rdI T p ⟨v', t.l, t.e⟩ :: σ2) ρ' w' ∧ bytesD v' t.l ∈ ρ') : Spec P f (vals.map .v) [rdA T p s] (fun _ : Unit => [rdA T p t]) (fun _ => .v u) :=
  Spec.ofRdG fun S σ2 ρ w v hw hd => (h S σ2 ρ w v hw hd).mono fun _ _ ⟨v', ρ', h1, h2, h3⟩ => ⟨u, v', ρ', h1, h2, h3, fun _ _ => rfl⟩
theorem Spec.ofRdB {T p : Nat} {s t : Rd} {vals : List Value} {out : List UInt8} (h : ∀ (S : List (World × List Nat)) (σ2 : Proofs.YtggajaigfkekhaaGreat.Blks) (ρ : List Dt) (w : World) (v : Value), Proofs.YtggajaigfkekhaaGreat.Mem S (rdI T p ⟨v, s.l, s.e⟩ :: σ2) ρ w → bytesD v s.l ∈ ρ →
    Calls P f vals.toArray w fun e w' => ∃ r v' ρ', e = .returned r ∧ Proofs.YtggajaigfkekhaaGreat.Mem S (rdI T p ⟨v', t.l, t.e⟩ :: σ2) ρ' w' ∧ bytesD v' t.l ∈ ρ' ∧ bytesD r out ∈ ρ') : Spec P f (vals.map .v) [rdA T p s] (fun _ : Unit => [rdA T p t]) (fun _ => byt out) :=
  Spec.ofRdG fun S σ2 ρ w v hw hd => (h S σ2 ρ w v hw hd).mono fun _ _ ⟨r, v', ρ', h1, h2, h3, h4⟩ => ⟨r, v', ρ', h1, h2, h3, fun _ hK => a7_.2 (hK _ _ _ h4)⟩
theorem Pure.ofB {l out : List UInt8} {rest : List Value} (h : ∀ (S : List (World × List Nat)) (σ2 : Proofs.YtggajaigfkekhaaGreat.Blks) (ρ : List Dt) (w : World) (v : Value), Proofs.YtggajaigfkekhaaGreat.Mem S σ2 ρ w → bytesD v l ∈ ρ →
    Calls P f (v :: rest).toArray w fun e w' => ∃ r ρ', e = .returned r ∧ Proofs.YtggajaigfkekhaaGreat.Mem S σ2 ρ' w' ∧ bytesD r out ∈ ρ') : Pure P f (byt l :: rest.map .v) (byt out) := Pure.of2 fun K w vals hK hv => by
  obtain ⟨v, us', rfl, h1, h2⟩ := hv
  have := aF_.1 h2
  subst this
  refine (h _ _ _ _ v ((enter2 w K).add (z := bytesD v l) (row2 (a7_.1 h1))) (by simp)).mono fun e w' ⟨r, ρ', he, hm, hd⟩ => ⟨r, he, leave2 hm (by simp), a7_.2 (row3 hK ?_ (hm.data hd))⟩
  intro k hk hkK
  simp only [List.flatMap_cons, List.flatMap_nil, List.append_nil]
  exact bd_.2 ⟨hk, hkK⟩
theorem Pure.ofBB {l m out : List UInt8} (h : ∀ (S : List (World × List Nat)) (σ2 : Proofs.YtggajaigfkekhaaGreat.Blks) (ρ : List Dt) (w : World) (v r : Value), Proofs.YtggajaigfkekhaaGreat.Mem S σ2 ρ w → bytesD v l ∈ ρ → bytesD r m ∈ ρ →
    Calls P f #[v, r] w fun e w' => ∃ r ρ', e = .returned r ∧ Proofs.YtggajaigfkekhaaGreat.Mem S σ2 ρ' w' ∧ bytesD r out ∈ ρ') : Pure P f [byt l, byt m] (byt out) := Pure.of2 fun K w vals hK hv => by
  obtain ⟨v, us', rfl, h1, r, us2, rfl, h2, h3⟩ := hv
  have h3 : us2 = [] := h3
  subst h3
  refine (h _ _ _ _ v r (((enter2 w K).add (z := bytesD v l) (row2 (a7_.1 h1))).add (z := bytesD r m) (row2 (a7_.1 h2))) (by simp) (by simp)).mono fun e w' ⟨r, ρ', he, hm, hd⟩ => ⟨r, he, leave2 hm (by simp), a7_.2 (row3 hK ?_ (hm.data hd))⟩
  intro k hk hkK
  simp only [List.flatMap_cons, List.flatMap_nil, List.append_nil]
  exact bd_.2 ⟨hk, hkK⟩
end
section
variable {l m : List UInt8} {p : Nat} {s : Rd}
theorem put_s {x : Nat} {n : Int} (hl : l.length ≤ lots) (hx : x < 18446744073709551616) (hn : sizeB n = true) : Pure Tryz.prog 76 [byt l, wrd x, int n] (byt (l ++ beBytes x n.toNat)) :=
  Pure.ofB (rest := [_, _]) fun _ _ _ _ _ hw hd => (eE_ hw (hw.bytes hd) hl hx hn).mono fun _ _ ⟨r, h1, h2⟩ => ⟨r, _, h1, h2, by simp⟩
theorem dD_ {x n : Nat} (hl : l.length + 8 ≤ lots) (hn : sizeB n = true) : Pure Tryz.prog 80 [byt l, wrd x, int n] (byt (l ++ beBytes x n)) :=
  Pure.ofB (rest := [_, _]) fun _ _ _ _ _ hw hd => (ec_ hw hd hl hn).mono fun _ _ ⟨r, h1, h2⟩ => ⟨r, _, h1, h2, by simp⟩
theorem row_s (hl : l.length + m.length + 4 ≤ lots) (hm : m.length < 4294967296) : Pure Tryz.prog 112 [byt l, byt m] (byt (l ++ beBytes m.length 4 ++ m)) :=
  Pure.ofBB fun _ _ _ _ _ _ hw hd hd2 => (do_ hw hd hd2 hl hm).mono fun _ _ ⟨r, h1, h2⟩ => ⟨r, _, h1, h2, by simp⟩
theorem rrow_s (hl : l.length + m.length + 8 ≤ lots) (hm : m.length < 4294967296) : Pure Tryz.prog 115 [byt l, byt m] (byt (l ++ beBytes m.length 4 ++ m)) :=
  Pure.ofBB fun _ _ _ _ _ _ hw hd hd2 => (dR_ hw hd hd2 hl hm).mono fun _ _ ⟨r, h1, h2⟩ => ⟨r, _, h1, h2, by simp⟩
abbrev TR : Nat := 169
abbrev pv (p : Nat) : Value := .pointer (some ⟨p, 0, none⟩)
theorem dt_ (v : Value) (s : Rd) : (⟨v, s.l, s.e⟩ : Rd).as s := ⟨rfl, rfl⟩
theorem hj_ {T : Nat} {s t : Rd} (h : s.as t) : rdI T p s = rdI T p ⟨s.v, t.l, t.e⟩ := by rw [rdI, rdI, h.2]
theorem _root_.Go.Proofs.YtggajaigfkekhaaGreat.Rd.as.count {s t : Rd} (h : s.as t) (most : Int) : (s.count most).as (t.count most) := by
  unfold Rd.count
  rw [(h.fixed 2).2, h.num]
  split
  · exact ⟨(h.fixed 2).1, rfl⟩
  · exact h.fixed 2
theorem _root_.Go.Proofs.YtggajaigfkekhaaGreat.Rd.as.countN {s t : Rd} (h : s.as t) (most : Int) : s.countN most = t.countN most := by
  unfold Rd.countN
  rw [(h.fixed 2).2, h.num]
theorem c9_ {n : Int} (hl : s.l.length ≤ lots) (hn : sizeB n = true) : Spec Tryz.prog 71 [ptr p, int n] [rdA TR p s] (fun _ : Unit => [rdA TR p (s.fixed n)]) (fun _ => wrd (s.num n)) :=
  Spec.ofRd (vals := [pv p, .int .i64 n]) fun _ _ _ _ v hw hd => (a8_ hw .here hd hl hn).mono fun _ _ ⟨h1, h2⟩ => ⟨_, _, by rw [h1, (dt_ v s).num], hj_ ((dt_ v s).fixed n) ▸ h2, by rw [← ((dt_ v s).fixed n).1]; simp⟩
theorem i8_ {n : Int} (hl : s.l.length ≤ lots) : Spec Tryz.prog 72 [ptr p, int n] [rdA TR p s] (fun _ : Unit => [rdA TR p (s.count n)]) (fun _ => int (s.countN n : Nat)) :=
  Spec.ofRd (vals := [pv p, .int .i64 n]) fun _ _ _ _ v hw hd => (count_c hw .here hd hl).mono fun _ _ ⟨h1, h2⟩ => ⟨_, _, by rw [h1, (dt_ v s).countN], hj_ ((dt_ v s).count n) ▸ h2, by rw [← ((dt_ v s).count n).1]; simp⟩
theorem fixed_s {n : Int} (hl : s.l.length ≤ lots) : Spec Tryz.prog 73 [ptr p, int n] [rdA TR p s] (fun _ : Unit => [rdA TR p (s.fixed n)]) (fun _ => byt (s.out n)) :=
  Spec.ofRdB (vals := [pv p, .int .i64 n]) fun _ _ _ _ v hw hd => (gL_ hw .here hd hl).mono fun _ _ ⟨r, h1, h2⟩ => ⟨r, _, _, h1, hj_ ((dt_ v s).fixed n) ▸ h2, by rw [← ((dt_ v s).fixed n).1]; simp, by rw [(dt_ v s).out]; simp⟩
theorem rowr_s {n : Int} (hl : s.l.length ≤ lots) (hn : 0 ≤ n ∧ n ≤ 9223372036854775807) : Spec Tryz.prog 110 [ptr p, int n] [rdA TR p s] (fun _ : Unit => [rdA TR p (s.row n)]) (fun _ => byt (s.rowOut n)) :=
  Spec.ofRdB (vals := [pv p, .int .i64 n]) fun _ _ _ _ v hw hd => (row_c hw .here hd hl hn).mono fun _ _ ⟨r, h1, h2⟩ => ⟨r, _, _, h1, hj_ ((dt_ v s).row n) ▸ h2, by rw [← ((dt_ v s).row n).1]; simp, by rw [(dt_ v s).rowOut]; simp⟩
theorem end_s : Spec Tryz.prog 75 [ptr p] [rdA TR p s] (fun _ : Unit => [rdA TR p s]) (fun _ => int s.end_) :=
  Spec.ofRd (vals := [pv p]) fun _ _ _ _ v hw hd => (end_c (s := ⟨v, s.l, s.e⟩) hw List.mem_cons_self hd).mono fun _ _ ⟨h1, h2⟩ => ⟨v, _, by rw [h1, (dt_ v s).end_], h2, hd⟩
theorem read_s (hl : l.length ≤ lots) : Spec Tryz.prog 70 [byt l] [] (fun p : Nat => [rdA TR p (Rd.of l)]) (fun p => ptr p) := fun G w vals hm hv => by
  obtain ⟨v, us', rfl, h1, h2⟩ := hv
  have h2 : us' = [] := h2
  subst h2
  refine (iz_ ((enter2 w G).add (z := bytesD v l) (row2 (a7_.1 h1))) (by simp) hl).mono fun e w' ⟨p, z, he, hm2⟩ => ?_
  have hx := leave2 hm2 (by simp)
  have hb : w'.heap[p]? = some (row TR [z, .int .i64 0]) := hm2.holds (by simp)
  have hd := hm2.data (z := bytesD z l) (by simp)
  have hpn : w.heap.size ≤ p := by
    have h3 := hm2.out _ (List.mem_cons_self) p (by simp [Proofs.YtggajaigfkekhaaGreat.It.ids]) (w, G) (by simp)
    rcases h3 with h3 | h3
    · have h4 := hm2.nodup
      simp only [List.flatMap_cons, List.flatMap_nil, List.append_nil, List.nodup_append] at h4
      exact absurd rfl (h4.2.2 p (by simp [Proofs.YtggajaigfkekhaaGreat.It.ids]) p (bd_.2 ⟨hm.old p h3, h3⟩))
    · exact h3
  refine ⟨p, _, he, by simp [It.rids], ⟨hx, fun k hk => ?_, fun k hk hg => ?_, fun k hk => Nat.lt_of_lt_of_le (hm.old k hk) hx.size, by simp [It.rids], by simp [mids, It.mids], fun x hxm => ?_⟩, rfl⟩
  · simp [mids, It.mids] at hk; subst hk; exact .inr hpn
  · simp [mids, It.mids] at hk; subst hk; have := hm.old k hg; omega
  · rw [List.mem_singleton] at hxm; subst hxm
    refine ⟨_, hb, _, _, rfl, a7_.2 (hd.grow fun k hk => .inl ?_), _, _, rfl, rfl, rfl⟩
    simp only [List.flatMap_cons, List.flatMap_nil, List.append_nil, List.mem_append] at hk ⊢
    rcases hk with hk | hk
    · exact .inl (by simpa [mids, It.mids, Proofs.YtggajaigfkekhaaGreat.It.ids] using hk)
    · exact .inr (bd_.2 ⟨hm.old k hk, hk⟩)
end
section
variable {P : Program} {n : Nat} {W : Wd} {σ τ : Blks} {l : Slots} {X : List Nat} {x y z : Operand} {d : Option Nat} {ty t t' e : TypeId} {pos : String} {aft : Array Edge} {g : Option (Nat × Bool)} {v u : Value} {k k' : IntKind} {a b : Nat} {o : Oper} {A B : Abs} {tab : List (Nat × TI)} {ops : Array Oper} {rest : List Oper} {Q : Exit → Act → World → Prop} {ix : Plan} {xs ys : List (List Abs)} {s q : Nat} {cs : List Abs}
theorem fa_ {x : It} {σ τ : Blks} (h : Upd x x σ τ) : τ = σ := by
  induction h with
  | here => rfl
  | there _ ih => rw [ih]
theorem St.freezeB {a : Act} {w : World} {pre post : Blks} {i : Nat} (h : St n W (pre ++ .blk b t cs :: post) l a w) (hs : slot l i = some (.v (.pointer (some ⟨b, 0, none⟩)))) : St n W (pre ++ post) ((i, .rp cs) :: l) a w := by
  have hsub : (pre ++ post).Sublist (pre ++ .blk b t cs :: post) := List.Sublist.append (List.Sublist.refl _) (List.sublist_cons_self _ _)
  obtain ⟨us, hb, hr⟩ := h.mem.hold (.blk b t cs) (by simp)
  have hc := (h.mem.sub hsub).2
  refine (h.less hsub).cast hs fun u hu => ?_
  have : u = .pointer (some ⟨b, 0, none⟩) := hu
  subst this
  refine ⟨b, 0, us, rfl, fun hm => ?_, bu_ hb, fun j u hu => by rw [Nat.zero_add, bA_ hb]; exact hu, ao_ hc _ _ hr⟩
  have hnd := h.mem.nodup
  simp only [Q_, aq_, List.nodup_append, It.mids] at hnd hm
  obtain ⟨n1, ⟨n2, n3, n4⟩, n5⟩ := hnd
  rcases List.mem_append.1 hm with hm | hm
  · rcases List.mem_append.1 hm with hm | hm
    · exact n5 b hm b (by simp) rfl
    · exact n4 b (by simp) b hm rfl
  · exact h.mem.sep b (by simp [Q_, aq_, It.mids]) hm
theorem e4_ {c : Code} (pre : Blks) {post : Blks} (i : Nat) (hσ : σ = pre ++ .blk b t cs :: post) (hs : slot l i = some (.v (.pointer (some ⟨b, 0, none⟩)))) (k : SC P c (St n W (pre ++ post) ((i, .rp cs) :: l)) Q) : SC P c (St n W σ l) Q := by
  subst hσ; exact fun a w h => k a w (h.freezeB hs)
theorem aT_ {c : Code} {p : Prop} {T : Act → World → Prop} (h : ∀ a w, T a w → p) (k : p → SC P c T Q) : SC P c T Q := fun a w ha => k (h a w ha) a w ha
theorem hh_ {K : List Nat} {w : World} {z : Abs} : ∀ {ps : List Abs} {us : List Value} {o : Nat} {u : Value}, reps K w ps us → us[o]? = some u → rep K w z u → reps K w (putL ps o [z]) us
  | [], us, o, u, h, hu, _ => by have : us = [] := h; subst this; simp at hu
  | a :: ps, _, 0, u, ⟨x, us', h1, h2, h3⟩, hu, hz => by
    subst h1
    simp at hu
    subst hu
    exact ⟨x, us', rfl, hz, h3⟩
  | a :: ps, _, o + 1, u, ⟨x, us', h1, h2, h3⟩, hu, hz => by
    subst h1
    exact ⟨x, us', rfl, h2, hh_ h3 (by simpa using hu) hz⟩
theorem St.freezeC {a : Act} {w : World} {pre post : Blks} {o : Nat} (h : St n W (pre ++ own e s v xs :: post) l a w) (hu : Upd (.blk b t cs) (.blk b t (putL cs o [.sl s xs])) (pre ++ post) τ) (hv : cs[o]? = some (.v v)) : St n W τ l a w := by
  have hsub : (pre ++ post).Sublist (pre ++ own e s v xs :: post) := List.Sublist.append (List.Sublist.refl _) (List.sublist_cons_self _ _)
  have h1 := own_sl h.mem
  have h2 := h.less hsub
  obtain ⟨us, hb, hr⟩ := h2.mem.hold _ hu.mem
  obtain ⟨u, h3, h4⟩ := bT_ hr hv
  have h4 : u = v := h4
  subst h4
  have hm := h2.mem.upd hu (Ext.refl w) (by simp [It.mids]) (by simp [It.mids]) rfl fun hc => ⟨us, hb, ao_ hc _ _ (hh_ hr h3 h1)⟩
  exact h2.to hm.1 hm.2
theorem ie_ {c : Code} (pre : Blks) {post : Blks} (o : Nat) (hσ : σ = pre ++ own e s v xs :: post) (hu : Upd (.blk b t cs) (.blk b t (putL cs o [.sl s xs])) (pre ++ post) τ) (hv : cs[o]? = some (.v v)) (k : SC P c (St n W τ l) Q) : SC P c (St n W σ l) Q := by
  subst hσ; exact fun a w h => k a w (h.freezeC hu hv)
theorem ef_ {K : List Nat} {w : World} : ∀ {ys : List Abs} {us : List Value}, reps K w ys us → repss K w 1 (ys.map fun a => [a]) us
  | [], us, h => h
  | a :: ys, _, ⟨u, us', h1, h2, h3⟩ => ⟨[u], us', h1, rfl, ⟨u, [], rfl, h2, rfl⟩, ef_ h3⟩
theorem fB_ (hT : TabOk P tab) {i : TI} {m : Nat} (hu : P.underlying t = some (.array m e)) (hi : ti tab e = some i) (_h1 : Nat.beq i.size 1 = true) (hx : look l x = some (.rp cs)) (hm : Nat.ble m maxLen = true) (hxs : (cs.take m).map (fun a => [a]) = xs) (hl : m ≤ cs.length) :
    Val P n W σ l X ⟨d, .slice t x none none none, ty, pos, aft, g⟩ (.sl 1 xs) := fun a w hs hX => by
  obtain ⟨b, off, us, h1, h2, h3, h4, h5⟩ := hs.eval hx
  have hlen := ac_ h5
  subst hxs
  have hl2 : ((cs.take m).map fun a => [a]).length = m := by simp; omega
  refine ⟨.slice (some ⟨b, off, none⟩) m m, ⟨us.take m, ⟨⟨_, m, by rw [hl2], by omega, Nat.le_of_ble_eq_true hm, by simp⟩, fun hn => ⟨b, off, m, m, rfl, h2, fun j u hu => ?_⟩⟩, ef_ (c8_ h5 m)⟩, fun w' _ => ?_⟩
  · rw [List.getElem?_take] at hu
    split at hu
    · exact h4 j u hu
    · cases hu
  · have h6 := (hT _ _ hi).sizeOf (w := w')
    simp [execOp, Instr.sliceAt, Instr.sureAddr, Instr.sliceBounds, h1, run_underlying hu, Sem.run_bind, Result.andThen, h6, Addr.add]
theorem gm_ (hT : TabOk P tab) {i : TI} {m off : Nat} (hu : P.underlying t = some (.array m e)) (hi : ti tab e = some i) (hx : look l x = some (.v (.pointer (some ⟨b, off, none⟩)))) :
    Val P n W σ l X ⟨d, .slice t x none none none, ty, pos, aft, g⟩ (.v (.slice (some ⟨b, off, none⟩) m m)) := fun a w hs _ => ⟨_, rfl, fun w' _ => by
  have h6 := (hT _ _ hi).sizeOf (w := w')
  simp [execOp, Instr.sliceAt, Instr.sureAddr, Instr.sliceBounds, hs.plain hx, run_underlying hu, Sem.run_bind, Result.andThen, h6, Addr.add]⟩
theorem dG_ (hT : TabOk P tab) {i : TI} {m off : Nat} {r : Int} (hu : P.underlying t = some (.array m e)) (hi : ti tab e = some i) (hx : look l x = some (.v (.pointer (some ⟨b, off, none⟩)))) (hy : look l y = some (.v (.int k r))) (hr : r = (q : Nat)) (hq : q < m) (hm : Nat.ble m 1 = false) :
    Val P n W σ l X ⟨d, .indexAddr t x y, ty, pos, aft, g⟩ (.v (.pointer (some ⟨b, off + q * i.size, none⟩))) := fun a w hs _ => ⟨_, rfl, fun w' _ => by
  subst hr
  have h6 := (hT _ _ hi).sizeOf (w := w')
  have hq' : (q : Int) < (m : Nat) := by omega
  simp [execOp, Instr.indexAt, Instr.sureAddr, asIntOf, hs.plain hx, hs.plain hy, run_underlying hu, Sem.run_bind, Result.andThen, h6, hq, Addr.add_none]⟩
theorem g4_ (hT : TabOk P tab) {sz m : Nat} {zs : List Value} {r : Int} (hu : P.underlying t = some (.array m e)) (hj : ti tab e = some ⟨sz, .one, zs⟩) (hs1 : Nat.beq sz 1 = true) (hx : look l x = some (.agg cs)) (hy : look l y = some (.v (.int k r))) (hr : r = (q : Nat)) (hq : q < m) (hv : cs[q]? = some A) :
    Val P n W σ l X ⟨d, .index t x y, ty, pos, aft, g⟩ A := aO_ fun a w hs _ => by
  subst hr
  obtain ⟨us, h1, h2⟩ := hs.eval hx
  obtain ⟨u, h3, h4⟩ := bT_ h2 hv
  refine ⟨u, h4, fun w' _ => fun A2 w2 hf e => ?_⟩
  subst e
  have h5 := (hT _ _ hj).sizeOf (w := w2)
  have h6 := (hT _ _ hj).isAgg (w := w2)
  have hs1 := Nat.eq_of_beq_eq_true hs1
  subst hs1
  have hq' : (q : Int) < (m : Nat) := by omega
  have e1 : A2.eval x = .agg us.toArray := by rw [hf.eval (hs.at2 hx), h1]
  have e2 : A2.eval y = .int k (q : Nat) := by rw [hf.eval (hs.at2 hy), hs.plain hy]
  simp [execOp, Instr.index, asIntOf, e1, e2, run_underlying hu, Sem.run_bind, Result.andThen, h5, Go.part, h6, h3, hq]
theorem Eff.copy {off m c : Nat} {L' : List Abs} (hu : P.underlying t = some (.slice e)) (hi : (P.info? e).map (·.size) = some 1) (hx : look l x = some (.v (.slice (some ⟨b, off, none⟩) m c))) (hy : look l y = some (.sl 1 xs)) (hup : Upd (.blk b t' cs) (.blk b t' L') σ τ) (hl : off + min xs.length m ≤ cs.length) (h1 : ∀ c ∈ xs, ones c = true) (hL : putL cs off (xs.take m).flatten = L') :
    Eff P n W σ l [b] ⟨d, .call { callee := .builtin .copy, args := #[x, y], argTypes := #[t, t] }, ty, pos, aft, g⟩ fun r τ' => r = .v (.int .i64 (min xs.length m : Nat)) ∧ τ' = τ := fun a w hs => by
  obtain ⟨us, hb, hr⟩ := hs.mem.hold _ hup.mem
  obtain ⟨news, hrow, hr2⟩ := hs.eval hy
  obtain ⟨A', c', hsh, _⟩ := hrow.shape
  have hlen := ac_ hr
  have hlen2 := aW_ hr2
  rw [Nat.mul_one] at hlen2
  have hreps : ∀ (xs : List (List Abs)) (news : List Value), repss (mids σ ++ W.G) w 1 xs news → reps (mids σ ++ W.G) w xs.flatten news := by
    intro xs
    induction xs with
    | nil => intro news h; exact h
    | cons y ys ih =>
      rintro news ⟨u1, u2, rfl, _, h3, h4⟩
      rw [List.flatten_cons]; exact aX_ h3 (ih u2 h4)
  have htk : ∀ (m : Nat), repss (mids σ ++ W.G) w 1 (xs.take m) (news.take m) := fun m => by
    rcases Nat.le_total m xs.length with h | h
    · have := (cE_ hr2 m h).2; rwa [Nat.mul_one] at this
    · rw [List.take_of_length_le h, List.take_of_length_le (by omega)]; exact hr2
  have hone : ∀ u ∈ news.take m, u.oneCell' = true := cr_ (hreps _ _ (htk m)) (by
    rw [bU_]; intro a ha
    obtain ⟨c, hc, hac⟩ := List.mem_flatten.1 ha
    exact bU_.1 (h1 c (List.mem_of_mem_take hc)) a hac)
  have htl : (news.take m).length = Nat.min xs.length m := by rw [List.length_take, hlen2]; exact Nat.min_comm _ _
  have hmn : (news.take m).length = min xs.length m := htl
  by_cases hn : news = []
  · subst hn
    have h0 : xs.length = 0 := by simpa using hlen2.symm
    have hxn : xs = [] := List.length_eq_zero_iff.1 h0
    subst hxn
    have hLc : L' = cs := by rw [← hL, cq_ _ _ _ (by omega)]; simp
    subst hLc
    have hτ := fa_ hup
    subst hτ
    refine ⟨_, w, _, _, ⟨rfl, rfl⟩, Ext.refl w, rfl, hs.mem, Carry.refl, .inl ?_⟩
    obtain ⟨I, hI, hIs⟩ : ∃ I, P.info? e = some I ∧ I.size = 1 := by
      cases hq : P.info? e with
      | none => simp [hq] at hi
      | some i => exact ⟨i, rfl, by simpa [hq] using hi⟩
    cases A' <;> simp [execOp, resolve, invoke, builtin, Builtin.copy_, hs.plain hx, hsh, run_underlying hu, Builtin.lenOf, Builtin.firstCells, sizeOf, typeInfo, hI, hIs, storeCells, Sem.run_bind, Result.andThen, loadCells, loadCellsFrom, goInt]
  · obtain ⟨bb, o2, n2, c2, hv, hbb, hcc⟩ := hrow.cells hn
    rw [hsh] at hv
    simp at hv
    obtain ⟨rfl, rfl, rfl⟩ := hv
    have hrun := run_copy_row (P := P) w t t ty e b off m c ⟨bb, o2, none⟩ xs.length c' us.toArray t' (news.take m) hu hi hb htl (fun j u hu => by
      rw [Addr.add_none]
      rw [List.getElem?_take] at hu
      split at hu
      · exact hcc j u hu
      · cases hu) (by simp; omega) hone
    have hE : (us.toArray.toList.take off ++ news.take m ++ us.toArray.toList.drop (off + (news.take m).length)).toArray = (putAt us off (news.take m)).toArray := by
      rw [bz_ us off _ (by omega)]
    rw [hE, hmn] at hrun
    have hxx : Ext [b] w (w.setRow b (putAt us off (news.take m)).toArray) := (Ext.refl w).setRow (.inl (by simp)) _
    have hm := hs.mem.upd hup hxx (by simp [It.mids]) (by simp [It.mids]) rfl fun hc => ⟨_, cW_ hb, ao_ hc _ _ (hL ▸ fe_ hr (hreps _ _ (htk m)) (by omega))⟩
    refine ⟨_, _, _, _, ⟨rfl, rfl⟩, hxx, rfl, hm.1, hm.2, .inl ?_⟩
    simp [execOp, resolve, invoke, builtin, hs.plain hx, hsh, hrun, Result.andThen, goInt]
theorem Spec.ofOwnB {f : FuncId} {args : List Abs} {out : List UInt8} {e : TypeId} (h : ∀ (K : List Nat) (w : World) (vals : List Value), (∀ k ∈ K, k < w.heap.size) → reps K w args vals →
    Calls P f vals.toArray w fun en w' => ∃ r ρ, en = .returned r ∧ Proofs.YtggajaigfkekhaaGreat.Mem [(w, K)] [.pc (Proofs.YtggajaigfkekhaaGreat.ownPc e 1 r out.length (out.map bc)), old2 w K] ρ w') : Spec P f args [] (fun r : Value => [own e 1 r (out.map fun b => [.v (bc b)])]) (fun r => .v r) := fun G w vals hm hv =>
  (h G w vals hm.old hv).mono fun en w' ⟨r, ρ, he, hm2⟩ => by
    have hx := leave2 hm2 (by simp)
    have how : w'.ownsRow 0 e 1 r out.length (out.map bc) := hm2.hold (.pc (Proofs.YtggajaigfkekhaaGreat.ownPc e 1 r out.length (out.map bc))) (by simp)
    have hnew : ∀ k ∈ r.ownBlock.toList, w.heap.size ≤ k := fun k hk => by
      have h3 := hm2.out _ (List.mem_cons_self) k (by simpa [Proofs.YtggajaigfkekhaaGreat.It.ids, Proofs.YtggajaigfkekhaaGreat.ownPc] using hk) (w, G) (by simp)
      rcases h3 with h3 | h3
      · have h4 := hm2.nodup
        simp only [List.flatMap_cons, List.flatMap_nil, List.append_nil, List.nodup_append] at h4
        exact absurd rfl (h4.2.2 k (by simpa [Proofs.YtggajaigfkekhaaGreat.It.ids, Proofs.YtggajaigfkekhaaGreat.ownPc] using hk) k (bd_.2 ⟨hm.old k h3, h3⟩))
      · exact h3
    refine ⟨r, r, he, by simp [It.rids], ⟨hx, fun k hk => .inr (hnew k ?_), fun k hk hg => ?_, fun k hk => Nat.lt_of_lt_of_le (hm.old k hk) hx.size, by simp [It.rids], ?_, fun x hxm => ?_⟩, rfl⟩
    · simpa [mids, It.mids, ownPc] using hk
    · have := hnew k (by simpa [mids, It.mids, ownPc] using hk)
      have := hm.old k hg
      omega
    · simp only [mids, List.flatMap_cons, List.flatMap_nil, List.append_nil]; exact bB_
    · rw [List.mem_singleton] at hxm; subst hxm
      refine ⟨out.map bc, by simpa using how, ?_⟩
      rw [gW_]; exact cC_
end
def digA (d : List UInt8) : List Abs := d.map fun b => .v (bc b)
abbrev ints (xs : List Int) : Abs := .sl 1 (xs.map fun x => [int x])
theorem ct_ {s i : Nat} {cs : List Abs} (h : cs.length = s) : elems s [(i, .agg cs)] = some [cs] := by simp [elems, cellsA, h]
end Go.Proofs.YtggajaigfkekhaaGreat.A
namespace Go.Proofs.YtggajaigfkekhaaGreat
open Go.RowKit
section
variable {α β : Type} [DecidableEq α]
def aget (m : List (α × β)) (a : α) : Option β := (m.find? fun p => decide (p.1 = a)).map (·.2)
def aput (m : List (α × β)) (a : α) (b : β) : List (α × β) := if (aget m a).isSome then m.map fun p => if p.1 = a then (a, b) else p else m ++ [(a, b)]
def adel (m : List (α × β)) (a : α) : List (α × β) := m.filter fun p => decide (p.1 ≠ a)
theorem bw_ (m : List (α × β)) (a : α) : (aget m a).isSome = true ↔ a ∈ m.map (·.1) := by
  unfold aget
  rw [Option.isSome_map, List.find?_isSome]
  simp
theorem df_ (m : List (α × β)) (a : α) : aget m a = none ↔ a ∉ m.map (·.1) := by
  rw [← bw_]
  cases aget m a <;> simp
theorem gi_ (m : List (α × β)) (a : α) (b : β) : (aput m a b).map (·.1) = if a ∈ m.map (·.1) then m.map (·.1) else m.map (·.1) ++ [a] := by
  unfold aput
  by_cases h : a ∈ m.map (·.1)
  · rw [if_pos ((bw_ m a).2 h), if_pos h, List.map_map]
    apply List.map_congr_left
    intro p _
    simp only [Function.comp]
    split
    · rename_i h1; exact h1.symm
    · rfl
  · rw [if_neg (fun hc => h ((bw_ m a).1 hc)), if_neg h]
    simp
theorem b9_ {m : List (α × β)} (hm : (m.map (·.1)).Nodup) (a : α) (b : β) : ((aput m a b).map (·.1)).Nodup := by
  rw [gi_]
  split
  · exact hm
  · rename_i h
    rw [List.nodup_append]
    exact ⟨hm, by simp, by intro x hx y hy; simp at hy; subst hy; rintro rfl; exact h hx⟩
theorem a1_ (m : List (α × β)) (a c : α) (b : β) : aget (aput m a b) c = if c = a then some b else aget m c := by
  unfold aput
  by_cases h : (aget m a).isSome = true
  · rw [if_pos h]
    have hmap : ∀ (m : List (α × β)), ((m.map fun p => if p.1 = a then (a, b) else p).find? fun p => decide (p.1 = c)).map (·.2) = if c = a then (if a ∈ m.map (·.1) then some b else none) else aget m c := by
      intro m
      induction m with
      | nil => simp [aget]
      | cons p m ih =>
        simp only [List.map_cons, List.find?_cons]
        by_cases hp : p.1 = a
        · rw [if_pos hp]
          by_cases hc : c = a
          · subst hc; simp [hp]
          · have hac : ¬ a = c := fun h => hc h.symm
            simp only [hac, decide_false, if_neg hc]
            rw [ih, if_neg hc]
            unfold aget
            simp [hp, hac]
        · rw [if_neg hp]
          by_cases hpc : p.1 = c
          · have hca : ¬ c = a := fun h => hp (hpc.trans h)
            simp [hpc, hca, aget]
          · simp only [hpc, decide_false]
            rw [ih]
            by_cases hca : c = a
            · subst hca
              rw [if_pos rfl, if_pos rfl]
              have : (c ∈ p.1 :: m.map (·.1)) ↔ c ∈ m.map (·.1) := by
                simp only [List.mem_cons]
                constructor
                · rintro (h1 | h1)
                  · exact absurd h1.symm hp
                  · exact h1
                · exact Or.inr
              by_cases hin : c ∈ m.map (·.1)
              · rw [if_pos hin, if_pos (this.2 hin)]
              · rw [if_neg hin, if_neg (fun hh => hin (this.1 hh))]
            · rw [if_neg hca, if_neg hca]
              unfold aget
              simp [hpc]
    have h0 := hmap m
    rw [if_pos ((bw_ m a).1 h)] at h0
    exact h0
  · rw [if_neg h]
    unfold aget
    rw [List.find?_append]
    by_cases hc : c = a
    · subst hc
      have hn : aget m c = none := by cases hg : aget m c <;> simp_all
      have hf : (m.find? fun p => decide (p.1 = c)) = none := by
        unfold aget at hn
        simpa using hn
      rw [hf]
      simp
    · have hac : ¬ a = c := fun h => hc h.symm
      simp [hac, hc]
theorem cZ_ (m : List (α × β)) (a : α) (b : β) : (aput m a b).length = if (aget m a).isSome then m.length else m.length + 1 := by
  unfold aput
  split <;> simp
theorem h8_ {m : List (α × β)} (hm : (m.map (·.1)).Nodup) (a : α) : ((adel m a).map (·.1)).Nodup :=
  hm.sublist ((List.filter_sublist).map _)
theorem jp_ (m : List (α × β)) (a c : α) : aget (adel m a) c = if c = a then none else aget m c := by
  unfold aget adel
  induction m with
  | nil => simp
  | cons p m ih =>
    rw [List.filter_cons]
    by_cases hp : p.1 = a
    · simp only [hp, ne_eq, not_true_eq_false, decide_false, Bool.false_eq_true, if_false]
      rw [ih]
      by_cases hc : c = a
      · simp [hc]
      · rw [if_neg hc, if_neg hc]
        have : ¬ p.1 = c := fun h => hc (h.symm.trans hp)
        simp [this]
    · simp only [hp, ne_eq, not_false_eq_true, decide_true, if_true]
      rw [List.find?_cons, List.find?_cons]
      by_cases hpc : p.1 = c
      · have : ¬ c = a := fun h => hp (hpc.trans h)
        simp [hpc, this]
      · simp only [hpc, decide_false]
        exact ih
end
structure KeyFit {α : Type} (P : Program) (k : TypeId) (K : α → Value) (Good : α → Prop) : Prop where
  keyed : Maps.Keyed P k
  lit : ∀ a, Good a → ∃ l, keyOf P k (K a) = some l
  inj : ∀ a b, Good a → Good b → K a = K b → a = b
def MapOf {α β : Type} (w : World) (b : Nat) (K : α → Value) (V : β → Value) (Good : α → Prop) (m : List (α × β)) : Prop :=
  ∃ es clock, w.heap[b]? = some (.map es clock) ∧ es.toList.map (fun e => (e.key, e.val)) = m.map (fun p => (K p.1, V p.2)) ∧ (m.map (·.1)).Nodup ∧ (∀ p ∈ m, Good p.1) ∧
    (∀ e ∈ es.toList, e.born < clock) ∧ (es.toList.map (·.born)).Nodup
section
variable {α β : Type} {P : Program} {w w' : World} {b : Nat} {k e t : TypeId} {K : α → Value} {V : β → Value} {Good : α → Prop} {m : List (α × β)}
theorem MapOf.lt (h : MapOf w b K V Good m) : b < w.heap.size := by
  obtain ⟨es, clock, hb, _⟩ := h
  rcases Nat.lt_or_ge b w.heap.size with hlt | hge
  · exact hlt
  · rw [Array.getElem?_eq_none hge] at hb; cases hb
theorem MapOf.ext {F : List Nat} (h : MapOf w b K V Good m) (hx : Ext F w w') (hb : b ∉ F) : MapOf w' b K V Good m := by
  have hl := h.lt
  obtain ⟨es, clock, h1, h2⟩ := h
  exact ⟨es, clock, (hx.block b hl hb).trans h1, h2⟩
theorem MapOf.new (w : World) : MapOf (w.alloc (.map #[] 0)) w.heap.size K V Good [] :=
  ⟨#[], 0, heap_alloc_new w _, rfl, by simp, by simp, by simp, by simp⟩
theorem MapOf.alloc (h : MapOf w b K V Good m) (o : Obj) : MapOf (w.alloc o) b K V Good m := h.ext ((Ext.refl (F := []) _).alloc _) (by simp)
theorem f5_ {es : List MapEntry} (he : es.map (fun e => (e.key, e.val)) = m.map (fun p => (K p.1, V p.2))) {j : Nat} {x : MapEntry} (hx : es[j]? = some x) : ∃ p, m[j]? = some p ∧ x.key = K p.1 ∧ x.val = V p.2 := by
  have h1 : (es.map (fun e => (e.key, e.val)))[j]? = some (x.key, x.val) := by rw [List.getElem?_map, hx]; rfl
  rw [he, List.getElem?_map] at h1
  cases hm : m[j]? with
  | none => rw [hm] at h1; cases h1
  | some p =>
    rw [hm] at h1
    simp at h1
    exact ⟨p, rfl, h1.1.symm, h1.2.symm⟩
variable [DecidableEq α]
theorem dX_ (kf : KeyFit P k K Good) {es : List MapEntry} (he : es.map (fun e => (e.key, e.val)) = m.map (fun p => (K p.1, V p.2))) (hg : ∀ p ∈ m, Good p.1) (hnd : (m.map (·.1)).Nodup) {a : α} (ha : Good a) (w : World) :
    (aget m a = none ∧ (Instr.findKey k (K a) es).run P w = .ok none w) ∨
    ∃ j v, m[j]? = some (a, v) ∧ aget m a = some v ∧ (Instr.findKey k (K a) es).run P w = .ok (some (j, V v)) w := by
  obtain ⟨l, hl⟩ := kf.lit a ha
  have hall : ∀ x ∈ es, ∃ l, keyOf P k x.key = some l := by
    intro x hx
    obtain ⟨j, hj⟩ := List.getElem?_of_mem hx
    obtain ⟨p, hp, hk, _⟩ := f5_ he hj
    rw [hk]
    exact kf.lit _ (hg p (List.mem_of_getElem? hp))
  rcases kf.keyed.find w hl es hall with ⟨hrun, hne⟩ | ⟨j, x, hrun, hj, hk⟩
  · refine .inl ⟨?_, hrun⟩
    rw [df_]
    intro hin
    simp only [List.mem_map] at hin
    obtain ⟨p, hp, rfl⟩ := hin
    obtain ⟨j, hj⟩ := List.getElem?_of_mem hp
    have h1 : (m.map (fun p => (K p.1, V p.2)))[j]? = some (K p.1, V p.2) := by rw [List.getElem?_map, hj]; rfl
    rw [← he, List.getElem?_map] at h1
    cases hx : es[j]? with
    | none => rw [hx] at h1; cases h1
    | some x =>
      rw [hx] at h1
      simp at h1
      exact hne x (List.mem_of_getElem? hx) h1.1
  · obtain ⟨p, hp, hk2, hv⟩ := f5_ he hj
    have hpa : p.1 = a := kf.inj _ _ (hg p (List.mem_of_getElem? hp)) ha (hk2.symm.trans hk)
    obtain ⟨pa, pv⟩ := p
    dsimp only at hpa hv
    subst hpa
    refine .inr ⟨j, pv, hp, ?_, by rw [← hv]; exact hrun⟩
    unfold aget
    have hfind : m.find? (fun p => decide (p.1 = pa)) = some (pa, pv) := by
      rw [List.find?_eq_some_iff_append]
      refine ⟨by simp, ?_⟩
      have hjl := (List.getElem?_eq_some_iff.1 hp)
      obtain ⟨hjl, hje⟩ := hjl
      refine ⟨m.take j, m.drop (j + 1), ?_, ?_⟩
      · rw [← hje, List.getElem_cons_drop, List.take_append_drop]
      · intro q hq
        simp only [Bool.not_eq_true', decide_eq_false_iff_not]
        intro hqa
        obtain ⟨i, hi⟩ := List.getElem?_of_mem hq
        rw [List.getElem?_take] at hi
        split at hi
        · rename_i hij
          have h1 : (m.map (·.1))[i]? = some pa := by rw [List.getElem?_map, hi]; simp [hqa]
          have h2 : (m.map (·.1))[j]? = some pa := by rw [List.getElem?_map, hp]; rfl
          have hil : i < (m.map (·.1)).length := (List.getElem?_eq_some_iff.1 h1).1
          have := (List.getElem?_inj hil hnd).1 (h1.trans h2.symm)
          omega
        · cases hi
    rw [hfind]
    rfl
theorem MapOf.look_run (h : MapOf w b K V Good m) (kf : KeyFit P k K Good) (ht : P.underlying t = some (.map k e)) {z : Value} (hz : (zeroValue e).run P w = .ok z w) {a : α} (ha : Good a) (c : Bool) :
    (Instr.lookup t (.map (some b)) (K a) c).run P w = .ok (if c then .tuple #[((aget m a).map V).getD z, .bool (aget m a).isSome] else ((aget m a).map V).getD z) w := by
  obtain ⟨es, clock, hb, he, hnd, hg, _⟩ := h
  obtain ⟨l, hl⟩ := kf.lit a ha
  have hgo : (getObj b).run P w = .ok (.map es clock) w := by simp [getObj, Sem.run, hb]
  simp only [Instr.lookup, Sem.run_bind, run_underlying ht, Result.andThen_ok, Sem.run_pure, hgo, kf.keyed.check w es.isEmpty hl]
  rcases dX_ kf he hg hnd ha w with ⟨h1, h2⟩ | ⟨j, v, _, h1, h2⟩
  · rw [h1, h2]
    cases c <;> simp [hz]
  · rw [h1, h2]
    cases c <;> simp
theorem Ext.setMap {b : Nat} {es es' : Array MapEntry} {clock clock' : Nat} (_hb : w.heap[b]? = some (.map es clock)) : Ext [b] w { w with heap := w.heap.setIfInBounds b (.map es' clock') } :=
  ⟨rfl, rfl, rfl, by simp, fun k _ hn => by
    have : b ≠ k := fun h => hn (by simp [h])
    simp [this]⟩
theorem bf_ {b : Nat} {es es' : Array MapEntry} {clock clock' : Nat} (hb : w.heap[b]? = some (.map es clock)) : ({ w with heap := w.heap.setIfInBounds b (.map es' clock') } : World).heap[b]? = some (.map es' clock') := by
  have hlt : b < w.heap.size := by
    rcases Nat.lt_or_ge b w.heap.size with hlt | hge
    · exact hlt
    · rw [Array.getElem?_eq_none hge] at hb; cases hb
  simp [hlt]
theorem bj_ {b : Nat} {es : Array MapEntry} {clock : Nat} (hb : w.heap[b]? = some (.map es clock)) : (getObj b).run P w = .ok (.map es clock) w := by simp [getObj, Sem.run, hb]
theorem bs_ {b : Nat} {es es' : Array MapEntry} {clock clock' : Nat} (hb : w.heap[b]? = some (.map es clock)) : (setObj b (.map es' clock')).run P w = .ok () { w with heap := w.heap.setIfInBounds b (.map es' clock') } := by simp [setObj, Sem.run, hb]
theorem gZ_ {m : List (α × β)} (hnd : (m.map (·.1)).Nodup) {j : Nat} {a : α} {v v' : β} (hj : m[j]? = some (a, v)) : aput m a v' = m.set j (a, v') := by
  have hin : (aget m a).isSome = true := (bw_ m a).2 (List.mem_map.2 ⟨_, List.mem_of_getElem? hj, rfl⟩)
  unfold aput
  rw [if_pos hin]
  apply List.ext_getElem?
  intro i
  rw [List.getElem?_map, List.getElem?_set]
  have hjl : j < m.length := (List.getElem?_eq_some_iff.1 hj).1
  by_cases hij : j = i
  · subst hij
    rw [if_pos rfl, if_pos hjl, hj]
    simp
  · rw [if_neg hij]
    cases hi : m[i]? with
    | none => rfl
    | some p =>
      simp only [Option.map_some, Option.some.injEq]
      rw [if_neg]
      intro hpa
      have h1 : (m.map (·.1))[i]? = some a := by rw [List.getElem?_map, hi]; simp [hpa]
      have h2 : (m.map (·.1))[j]? = some a := by rw [List.getElem?_map, hj]; rfl
      have hil : i < (m.map (·.1)).length := (List.getElem?_eq_some_iff.1 h1).1
      exact hij ((List.getElem?_inj hil hnd).1 (h1.trans h2.symm)).symm
theorem MapOf.put_run (h : MapOf w b K V Good m) (kf : KeyFit P k K Good) (ht : P.underlying t = some (.map k e)) {a : α} (ha : Good a) (v : β) :
    ∃ w', (Instr.mapUpdate t (.map (some b)) (K a) (V v)).run P w = .ok () w' ∧ MapOf w' b K V Good (aput m a v) ∧ Ext [b] w w' := by
  obtain ⟨es, clock, hb, he, hnd, hg, hborn, hbnd⟩ := h
  obtain ⟨l, hl⟩ := kf.lit a ha
  rcases dX_ kf he hg hnd ha w with ⟨h1, h2⟩ | ⟨j, u, hj, h1, h2⟩
  · refine ⟨{ w with heap := w.heap.setIfInBounds b (.map (es.push { key := K a, val := V v, born := clock }) (clock + 1)) }, ?_, ⟨_, _, bf_ hb, ?_, b9_ hnd a v, ?_, ?_, ?_⟩, Ext.setMap hb⟩
    · simp only [Instr.mapUpdate, Sem.run_bind, run_underlying ht, Result.andThen_ok, bj_ hb, kf.keyed.check w false hl, h2, bs_ hb]
    · rw [Array.toList_push, List.map_append, he]
      unfold aput
      rw [if_neg (by rw [h1]; simp)]
      simp
    · intro p hp
      unfold aput at hp
      rw [if_neg (by rw [h1]; simp)] at hp
      simp only [List.mem_append, List.mem_singleton] at hp
      rcases hp with hp | rfl
      · exact hg p hp
      · exact ha
    · intro x hx
      rw [Array.toList_push, List.mem_append, List.mem_singleton] at hx
      rcases hx with hx | rfl
      · have := hborn x hx; omega
      · exact Nat.lt_succ_self _
    · rw [Array.toList_push, List.map_append, List.nodup_append]
      refine ⟨hbnd, by simp, ?_⟩
      intro x hx y hy
      simp at hy
      subst hy
      simp only [List.mem_map] at hx
      obtain ⟨z, hz, rfl⟩ := hx
      have := hborn z hz
      omega
  · have hjl : j < es.toList.length := by
      have h3 := congrArg List.length he
      simp only [List.length_map] at h3
      rw [h3]
      exact (List.getElem?_eq_some_iff.1 hj).1
    have hk : (es[j]?).map (·.key) = some (K a) := by
      rw [← Array.getElem?_toList]
      have h3 : (es.toList.map (fun e => (e.key, e.val)))[j]? = some (K a, V u) := by rw [he, List.getElem?_map, hj]; rfl
      rw [List.getElem?_map] at h3
      cases hx : es.toList[j]? with
      | none => rw [hx] at h3; cases h3
      | some x => rw [hx] at h3; simp at h3; simp [h3.1]
    have hmod : (es.modify j fun e => { e with key := K a, val := V v }).toList = es.toList.modify j fun e => { e with key := K a, val := V v } := by simp
    refine ⟨{ w with heap := w.heap.setIfInBounds b (.map (es.modify j fun e => { e with key := K a, val := V v }) clock) }, ?_, ⟨_, _, bf_ hb, ?_, b9_ hnd a v, ?_, ?_, ?_⟩, Ext.setMap hb⟩
    · simp only [Instr.mapUpdate, Sem.run_bind, run_underlying ht, Result.andThen_ok, bj_ hb, kf.keyed.check w false hl, h2, hk, Option.getD_some, kf.keyed.stays w hl, bs_ hb]
    · rw [hmod, gZ_ hnd hj]
      apply List.ext_getElem?
      intro i
      have hei : (es.toList.map (fun e => (e.key, e.val)))[i]? = (m.map (fun p => (K p.1, V p.2)))[i]? := by rw [he]
      rw [List.getElem?_map, List.getElem?_map] at hei
      rw [List.getElem?_map, List.getElem?_map, List.getElem?_modify, List.getElem?_set]
      have hml : j < m.length := (List.getElem?_eq_some_iff.1 hj).1
      by_cases hij : j = i
      · subst hij
        rw [if_pos rfl, if_pos hml, List.getElem?_eq_getElem hjl]
        simp
      · rw [if_neg hij]
        simp only [if_neg hij]
        rw [← hei]
        cases es.toList[i]? <;> rfl
    · intro p hp
      have h4 : p.1 ∈ (aput m a v).map (·.1) := List.mem_map.2 ⟨p, hp, rfl⟩
      rw [gi_, if_pos (by rw [← bw_, h1]; rfl)] at h4
      simp only [List.mem_map] at h4
      obtain ⟨q, hq, hqe⟩ := h4
      rw [← hqe]
      exact hg q hq
    · intro x hx
      rw [hmod] at hx
      obtain ⟨i, hi⟩ := List.getElem?_of_mem hx
      rw [List.getElem?_modify] at hi
      cases hx2 : es.toList[i]? with
      | none => rw [hx2] at hi; simp at hi
      | some y =>
        rw [hx2] at hi
        have := hborn y (List.mem_of_getElem? hx2)
        simp at hi
        rw [← hi]
        split <;> exact this
    · have hb2 : (es.toList.modify j fun e => { e with key := K a, val := V v }).map (·.born) = es.toList.map (·.born) := by
        apply List.ext_getElem?
        intro i
        rw [List.getElem?_map, List.getElem?_modify, List.getElem?_map]
        cases es.toList[i]? with
        | none => simp
        | some y => simp only [Option.map_eq_map, Option.map_some]; split <;> rfl
      rw [hmod, hb2]
      exact hbnd
omit [DecidableEq α] in
theorem MapOf.len_run (h : MapOf w b K V Good m) (ht : P.underlying t = some (.map k e)) (ty : TypeId) : (Builtin.len_ #[t] ty #[.map (some b)]).run P w = .ok (.int .i64 m.length) w := by
  obtain ⟨es, clock, hb, he, _⟩ := h
  have h3 := congrArg List.length he
  simp only [List.length_map, Array.length_toList] at h3
  simp [Builtin.len_, Sem.run_bind, run_underlying ht, Result.andThen_ok, bj_ hb, goInt, h3]
end
theorem laid : laidOutB Tryz.prog = true := by kernel_rfl
end Go.Proofs.YtggajaigfkekhaaGreat
namespace Go.Proofs.YtggajaigfkekhaaGreat.A
open Go.RowKit
theorem hq_ {α β : Type} {w w' : World} {b : Nat} {K : α → Value} {V : β → Value} {Good : α → Prop} {m : List (α × β)} (h : MapOf w b K V Good m) (hb : w'.heap[b]? = w.heap[b]?) : MapOf w' b K V Good m := by
  obtain ⟨es, clock, h1, h2⟩ := h
  exact ⟨es, clock, hb.trans h1, h2⟩
def mapPc {α β : Type} (b : Nat) (K : α → Value) (V : β → Value) (Good : α → Prop) (m : List (α × β)) : Pc where
  ids := [b]
  p := fun _ w => MapOf w b K V Good m
  carry := fun _ _ _ _ _ hs h => hq_ h (hs b (by simp))
  lt := fun _ _ h k hk => by simp at hk; subst hk; exact h.lt
abbrev mapV (b : Nat) : Abs := .v (.map (some b))
section
variable {P : Program} {n : Nat} {W : Wd} {σ τ : Blks} {l : Slots} {X : List Nat} {x y z : Operand} {d : Option Nat} {ty t k e : TypeId} {pos : String} {aft : Array Edge} {g : Option (Nat × Bool)} {b : Nat} {A B C : Abs}
variable {α β : Type} [DecidableEq α] {K : α → Value} {V : β → Value} {Good : α → Prop} {m : List (α × β)} {a : α} {v : β} {zv : Value}
def Abs.is (A : Abs) (u : Value) : Prop := (∀ K w x, rep K w A x → x = u) ∧ ∀ K w, rep K w A u
theorem is_v {u : Value} : (Abs.v u).is u := ⟨fun _ _ _ h => h, fun _ _ => rfl⟩
theorem hs_ {us : List Value} : (Abs.agg (us.map .v)).is (.agg us.toArray) := ⟨fun _ _ _ ⟨vs, h1, h2⟩ => by rw [h1, aF_.1 h2], fun _ _ => ⟨us, rfl, aF_.2 rfl⟩⟩
omit [DecidableEq α] in
theorem iQ_ {w0 w : World} {F G : List Nat} {σ : Blks} (h : Mem w0 F G σ w) (hb : It.pc (mapPc b K V Good m) ∈ σ ∨ It.rdpc (mapPc b K V Good m) ∈ σ) : MapOf w b K V Good m := by
  rcases hb with hb | hb
  · exact h.hold _ hb
  · exact h.hold _ hb
theorem cw_ (kf : KeyFit P k K Good) (ht : P.underlying t = some (.map k e)) (hz : ∀ w, (zeroValue e).run P w = .ok zv w) (hx : look l x = some (mapV b)) (hb : It.pc (mapPc b K V Good m) ∈ σ ∨ It.rdpc (mapPc b K V Good m) ∈ σ) (hbX : b ∉ X)
    (hy : look l y = some A) (hA : A.is (K a)) (ha : Good a) (hC : C.is (((aget m a).map V).getD zv)) : Val P n W σ l X ⟨d, .lookup t x y true, ty, pos, aft, g⟩ (.tup [C, .v (.bool (aget m a).isSome)]) := fun ac w hs _ => by
  have h1 := iQ_ hs.mem hb
  have e1 := hs.plain hx
  have e2 := hA.1 _ _ _ (hs.eval hy)
  refine ⟨.tuple #[((aget m a).map V).getD zv, .bool (aget m a).isSome], ⟨_, rfl, _, _, rfl, hC.2 _ _, _, _, rfl, rfl, rfl⟩, fun w' hw' => ?_⟩
  simp only [execOp, e1, e2, Sem.run_bind, (h1.ext hw' hbX).look_run kf ht (hz w') ha true, if_true, Result.andThen_ok, Sem.run_pure]
theorem aG_ (kf : KeyFit P k K Good) (ht : P.underlying t = some (.map k e)) (hz : ∀ w, (zeroValue e).run P w = .ok zv w) (hx : look l x = some (mapV b)) (hb : It.pc (mapPc b K V Good m) ∈ σ ∨ It.rdpc (mapPc b K V Good m) ∈ σ) (hbX : b ∉ X)
    (hy : look l y = some A) (hA : A.is (K a)) (ha : Good a) (hC : C.is (((aget m a).map V).getD zv)) : Val P n W σ l X ⟨d, .lookup t x y false, ty, pos, aft, g⟩ C := fun ac w hs _ => by
  have h1 := iQ_ hs.mem hb
  have e1 := hs.plain hx
  have e2 := hA.1 _ _ _ (hs.eval hy)
  refine ⟨((aget m a).map V).getD zv, hC.2 _ _, fun w' hw' => ?_⟩
  simp only [execOp, e1, e2, Sem.run_bind, (h1.ext hw' hbX).look_run kf ht (hz w') ha false, Bool.false_eq_true, if_false, Result.andThen_ok, Sem.run_pure]
omit [DecidableEq α] in
theorem ib_ (ht : P.underlying t = some (.map k e)) (hx : look l x = some (mapV b)) (hb : It.pc (mapPc b K V Good m) ∈ σ ∨ It.rdpc (mapPc b K V Good m) ∈ σ) (hbX : b ∉ X) : Val P n W σ l X ⟨d, .call { callee := .builtin .len, args := #[x], argTypes := #[t] }, ty, pos, aft, g⟩ (.v (.int .i64 m.length)) := fun ac w hs _ => by
  have h1 : MapOf w b K V Good m := by
    rcases hb with hb | hb
    · exact hs.mem.hold _ hb
    · exact hs.mem.hold _ hb
  refine ⟨_, rfl, fun w' hw' => ?_⟩
  simp [execOp, resolve, invoke, builtin, hs.plain hx, (h1.ext hw' hbX).len_run ht ty, Result.andThen]
theorem by_ {m' : List (α × β)} (kf : KeyFit P k K Good) (ht : P.underlying t = some (.map k e)) (hx : look l x = some (mapV b)) (hu : Upd (.pc (mapPc b K V Good m)) (.pc (mapPc b K V Good m')) σ τ) (hy : look l y = some A) (hA : A.is (K a)) (ha : Good a) (hz : look l z = some B) (hB : B.is (V v)) (hm : aput m a v = m') :
    Eff P n W σ l [b] ⟨d, .mapUpdate t x y z, ty, pos, aft, g⟩ fun u τ' => u = .v undef ∧ τ' = τ := fun ac w hs => by
  subst hm
  have h1 : MapOf w b K V Good m := hs.mem.hold _ hu.mem
  obtain ⟨w', hr, h2, h3⟩ := h1.put_run kf ht ha v
  have h4 := hs.mem.upd hu (h3.mono (by simp [It.mids, mapPc])) (by simp [It.mids, mapPc]) (fun k hk => .inl hk) rfl (fun _ => h2)
  refine ⟨_, w', _, _, ⟨rfl, rfl⟩, h3, rfl, h4.1, h4.2, .inr ⟨rfl, ?_⟩⟩
  simp only [execOp, hs.plain hx, hA.1 _ _ _ (hs.eval hy), hB.1 _ _ _ (hs.eval hz), Sem.run_bind, hr, Result.andThen_ok, Sem.run_pure]
omit [DecidableEq α] in
theorem bS_ {o : Op} (K : α → Value) (V : β → Value) (Good : α → Prop) (hrun : ∀ (ac : Act) (w : World), (execOp ac.eval ⟨d, o, ty, pos, aft, g⟩).run P w = .ok (.value (.map (some w.heap.size))) (w.alloc (.map #[] 0))) :
    Eff P n W σ l [] ⟨d, o, ty, pos, aft, g⟩ fun u τ' => ∃ b, u = mapV b ∧ τ' = .pc (mapPc b K V Good []) :: σ := fun ac w hs => by
  have hx : Ext [] w (w.alloc (.map #[] 0)) := (Ext.refl w).alloc _
  have h4 := hs.mem.new (y := .pc (mapPc w.heap.size K V Good [])) hx (by simp [It.mids, mapPc]) (by simp [It.mids, mapPc]) rfl (fun _ => MapOf.new w)
  exact ⟨_, _, _, _, ⟨w.heap.size, rfl, rfl⟩, hx, rfl, h4.1, h4.2, .inl (hrun ac w)⟩
end
end Go.Proofs.YtggajaigfkekhaaGreat.A
namespace Go.Proofs.YtggajaigfkekhaaGreat
open Go.RowKit
section
variable {α β : Type} [DecidableEq α] {P : Program} {w w' : World} {b : Nat} {k e t : TypeId} {K : α → Value} {V : β → Value} {Good : α → Prop} {m : List (α × β)}
theorem dc_ {γ δ : Type} (f : γ → δ) : ∀ (l : List γ) (j : Nat), (l.eraseIdx j).map f = (l.map f).eraseIdx j
  | [], _ => rfl
  | _ :: _, 0 => rfl
  | x :: l, j + 1 => by simp [dc_ f l j]
theorem eV_ : ∀ {m : List (α × β)} {j : Nat} {a : α} {v : β}, (m.map (·.1)).Nodup → m[j]? = some (a, v) → m.eraseIdx j = adel m a
  | [], j, a, v, _, h => by simp at h
  | p :: m, 0, a, v, hn, h => by
    simp only [List.getElem?_cons_zero, Option.some.injEq] at h
    subst h
    rw [List.map_cons, List.nodup_cons] at hn
    unfold adel
    rw [List.eraseIdx_cons_zero, List.filter_cons, if_neg (by simp)]
    symm
    rw [List.filter_eq_self]
    intro q hq
    simp only [decide_eq_true_eq]
    intro e
    exact hn.1 (e ▸ List.mem_map.2 ⟨q, hq, rfl⟩)
  | p :: m, j + 1, a, v, hn, h => by
    rw [List.map_cons, List.nodup_cons] at hn
    simp only [List.getElem?_cons_succ] at h
    have h1 := eV_ hn.2 h
    have hne : p.1 ≠ a := fun e => hn.1 (by rw [e]; exact List.mem_map.2 ⟨_, List.mem_of_getElem? h, rfl⟩)
    unfold adel at h1 ⊢
    rw [List.eraseIdx_cons_succ, h1, List.filter_cons, if_pos (by simpa using hne)]
theorem jq_ {m : List (α × β)} {a : α} (h : aget m a = none) : adel m a = m := by
  unfold adel
  rw [List.filter_eq_self]
  intro q hq
  simp only [decide_eq_true_eq]
  intro e
  rw [df_] at h
  exact h (e ▸ List.mem_map.2 ⟨q, hq, rfl⟩)
omit [DecidableEq α] in
theorem gv_ {b : Nat} {es : Array MapEntry} {clock : Nat} (hb : w.heap[b]? = some (.map es clock)) : MapOf w b K V Good m → MapOf ({ w with heap := w.heap.setIfInBounds b (.map es clock) } : World) b K V Good m := fun ⟨es', clock', h1, h2⟩ => by
  rw [hb] at h1
  obtain ⟨rfl, rfl⟩ : es = es' ∧ clock = clock' := by simpa using h1
  exact ⟨_, _, bf_ hb, h2⟩
theorem MapOf.del_run (h : MapOf w b K V Good m) (kf : KeyFit P k K Good) (ht : P.underlying t = some (.map k e)) {a : α} (ha : Good a) (ty : TypeId) :
    ∃ w', (Builtin.delete_ #[t, k] ty #[.map (some b), K a]).run P w = .ok (.tuple #[]) w' ∧ MapOf w' b K V Good (adel m a) ∧ Ext [b] w w' := by
  have hh := h
  obtain ⟨es, clock, hb, he, hnd, hg, hborn, hbnd⟩ := h
  obtain ⟨l, hl⟩ := kf.lit a ha
  rcases dX_ kf he hg hnd ha w with ⟨h1, h2⟩ | ⟨j, u, hj, h1, h2⟩
  · refine ⟨{ w with heap := w.heap.setIfInBounds b (.map es clock) }, ?_, ?_, Ext.setMap hb⟩
    · simp [Builtin.delete_, Sem.run_bind, run_underlying ht, Result.andThen, bj_ hb, kf.keyed.check w _ hl, h2, bs_ hb]
    · rw [jq_ h1]
      exact gv_ hb hh
  · refine ⟨{ w with heap := w.heap.setIfInBounds b (.map (es.eraseIdxIfInBounds j) clock) }, ?_, ⟨_, _, bf_ hb, ?_, h8_ hnd a, ?_, ?_, ?_⟩, Ext.setMap hb⟩
    · simp [Builtin.delete_, Sem.run_bind, run_underlying ht, Result.andThen, bj_ hb, kf.keyed.check w _ hl, h2, bs_ hb]
    · have e1 : (es.eraseIdxIfInBounds j).toList = es.toList.eraseIdx j := by simp
      rw [e1, dc_, he, ← dc_, eV_ hnd hj]
    · exact fun p hp => hg p ((List.mem_filter.1 hp).1)
    · intro x hx
      have e1 : (es.eraseIdxIfInBounds j).toList = es.toList.eraseIdx j := by simp
      rw [e1] at hx
      exact hborn x (List.mem_of_mem_eraseIdx hx)
    · have e1 : (es.eraseIdxIfInBounds j).toList = es.toList.eraseIdx j := by simp
      rw [e1, dc_]
      exact hbnd.sublist (List.eraseIdx_sublist _ _)
def MapAt (w : World) (b : Nat) (K : α → Value) (V : β → Value) (Good : α → Prop) (m : List (α × β)) (a : α) (s : Nat) : Prop :=
  ∃ es clock, w.heap[b]? = some (.map es clock) ∧ es.toList.map (fun e => (e.key, e.val)) = m.map (fun p => (K p.1, V p.2)) ∧ (m.map (·.1)).Nodup ∧ (∀ p ∈ m, Good p.1) ∧
    (∀ e ∈ es.toList, e.born < clock) ∧ (es.toList.map (·.born)).Nodup ∧ ∃ j : Nat, (es.toList[j]?).map (fun x : MapEntry => x.born) = some s ∧ (m[j]?).map (fun p : α × β => p.1) = some a
def aent (m : List (α × β)) (a : α) (z : β) : List (α × β) := if (aget m a).isSome then m else aput m a z
theorem MapOf.entry_run (h : MapOf w b K V Good m) (kf : KeyFit P k K Good) (ht : P.underlying t = some (.map k e)) {z : β} (hz : (zeroValue e).run P w = .ok (V z) w) {a : α} (ha : Good a) :
    ∃ w' s, (Instr.mapEntry t (.map (some b)) (K a)).run P w = .ok (.tuple #[((aget m a).map V).getD (V z), .int .i64 (s : Nat)]) w' ∧ MapAt w' b K V Good (aent m a z) a s ∧ Ext [b] w w' := by
  obtain ⟨es, clock, hb, he, hnd, hg, hborn, hbnd⟩ := h
  obtain ⟨l, hl⟩ := kf.lit a ha
  have hlen : es.toList.length = m.length := by
    have h3 := congrArg List.length he
    simpa using h3
  rcases dX_ kf he hg hnd ha w with ⟨h1, h2⟩ | ⟨j, u, hj, h1, h2⟩
  · have hen : aent m a z = m ++ [(a, z)] := by
      unfold aent aput
      rw [if_neg (by rw [h1]; simp), if_neg (by rw [h1]; simp)]
    refine ⟨{ w with heap := w.heap.setIfInBounds b (.map (es.push { key := K a, val := V z, born := clock }) (clock + 1)) }, clock, ?_, ⟨_, _, bf_ hb, ?_, ?_, ?_, ?_, ?_, m.length, ?_, ?_⟩, Ext.setMap hb⟩
    · simp only [Instr.mapEntry, Sem.run_bind, run_underlying ht, Result.andThen_ok, bj_ hb, kf.keyed.check w false hl, h2, hz, bs_ hb, Sem.run_pure, h1]
      try rfl
    · rw [Array.toList_push, List.map_append, he, hen, List.map_append]
      rfl
    · rw [hen, List.map_append, List.nodup_append]
      refine ⟨hnd, by simp, ?_⟩
      intro x hx y hy
      simp at hy
      subst hy
      intro e
      subst e
      rw [df_] at h1
      exact h1 hx
    · intro p hp
      rw [hen, List.mem_append, List.mem_singleton] at hp
      rcases hp with hp | rfl
      · exact hg p hp
      · exact ha
    · intro x hx
      rw [Array.toList_push, List.mem_append, List.mem_singleton] at hx
      rcases hx with hx | rfl
      · have := hborn x hx; omega
      · exact Nat.lt_succ_self _
    · rw [Array.toList_push, List.map_append, List.nodup_append]
      refine ⟨hbnd, by simp, ?_⟩
      intro x hx y hy
      simp at hy
      subst hy
      simp only [List.mem_map] at hx
      obtain ⟨q, hq, rfl⟩ := hx
      have := hborn q hq
      omega
    · rw [Array.toList_push, List.getElem?_append_right (by omega), hlen, Nat.sub_self]
      rfl
    · rw [hen, List.getElem?_append_right (by omega), Nat.sub_self]
      rfl
  · have hjl : j < es.toList.length := by rw [hlen]; exact (List.getElem?_eq_some_iff.1 hj).1
    have hk : (es[j]?).map (·.key) = some (K a) := by
      rw [← Array.getElem?_toList]
      have h3 : (es.toList.map (fun e => (e.key, e.val)))[j]? = some (K a, V u) := by rw [he, List.getElem?_map, hj]; rfl
      rw [List.getElem?_map] at h3
      cases hx : es.toList[j]? with
      | none => rw [hx] at h3; cases h3
      | some x => rw [hx] at h3; simp at h3; simp [h3.1]
    have hen : aent m a z = m := by
      unfold aent
      rw [if_pos (by rw [h1]; rfl)]
    obtain ⟨x, hx⟩ : ∃ x, es.toList[j]? = some x := ⟨_, List.getElem?_eq_getElem hjl⟩
    have hxk : x.key = K a := by
      rw [← Array.getElem?_toList, hx] at hk
      simpa using hk
    have hmod : (es.modify j fun e => { e with key := K a }).toList = es.toList := by
      rw [Array.toList_modify]
      apply List.ext_getElem?
      intro i
      rw [List.getElem?_modify]
      by_cases hij : j = i
      · subst hij
        rw [hx]
        simp [← hxk]
      · simp [hij]
    have hb2 : (es[j]?).map (fun x : MapEntry => ((x.born : Nat) : Int)) = some ((x.born : Nat) : Int) := by rw [← Array.getElem?_toList, hx]; rfl
    refine ⟨{ w with heap := w.heap.setIfInBounds b (.map (es.modify j fun e => { e with key := K a }) clock) }, x.born, ?_, ⟨_, _, bf_ hb, ?_, ?_, ?_, ?_, ?_, j, ?_, ?_⟩, Ext.setMap hb⟩
    · simp only [Instr.mapEntry, Sem.run_bind, run_underlying ht, Result.andThen_ok, bj_ hb, kf.keyed.check w false hl, h2, hk, hb2, Option.getD_some, kf.keyed.stays w hl, bs_ hb, Sem.run_pure, h1]
      rfl
    · rw [hmod, hen]; exact he
    · rw [hen]; exact hnd
    · rw [hen]; exact hg
    · rw [hmod]; exact hborn
    · rw [hmod]; exact hbnd
    · rw [hmod, hx]; rfl
    · rw [hen, hj]; rfl
theorem MapAt.store_run {a : α} {s : Nat} (h : MapAt w b K V Good m a s) (v : β) :
    ∃ w', (Instr.entryStore t (.map (some b)) (.int .i64 (s : Nat)) (V v)).run P w = .ok () w' ∧ MapOf w' b K V Good (aput m a v) ∧ Ext [b] w w' := by
  obtain ⟨es, clock, hb, he, hnd, hg, hborn, hbnd, j, hs, ha⟩ := h
  obtain ⟨x, hx, hxs⟩ : ∃ x, es.toList[j]? = some x ∧ x.born = s := by
    cases hx : es.toList[j]? with
    | none => rw [hx] at hs; cases hs
    | some x => rw [hx] at hs; exact ⟨x, rfl, by simpa using hs⟩
  obtain ⟨u, hj⟩ : ∃ u, m[j]? = some (a, u) := by
    cases hm : m[j]? with
    | none => rw [hm] at ha; cases ha
    | some p => rw [hm] at ha; exact ⟨p.2, by have h : p.1 = a := (by simpa using ha); subst h; rfl⟩
  have hjl : j < es.toList.length := (List.getElem?_eq_some_iff.1 hx).1
  have hfind : es.findIdx? (fun e => ((e.born : Nat) : Int) == ((s : Nat) : Int)) = some j := by
    rw [Array.findIdx?_eq_some_iff_getElem]
    refine ⟨by simpa using hjl, ?_, fun i hi => ?_⟩
    · have : es.toList[j] = x := (List.getElem?_eq_some_iff.1 hx).2
      rw [Array.getElem_toList] at this
      rw [this, hxs]
      simp
    · simp only [beq_iff_eq, Int.natCast_inj]
      intro e
      have h1 : (es.toList.map (·.born))[i]? = some s := by rw [List.getElem?_map, List.getElem?_eq_getElem (by omega), Array.getElem_toList]; simp [e]
      have h2 : (es.toList.map (·.born))[j]? = some s := by rw [List.getElem?_map, hx]; simp [hxs]
      have := (List.getElem?_inj (by rw [List.length_map]; omega) hbnd).1 (h1.trans h2.symm)
      omega
  have hmod : (es.modify j fun e => { e with val := V v }).toList = es.toList.modify j fun e => { e with val := V v } := by simp
  refine ⟨{ w with heap := w.heap.setIfInBounds b (.map (es.modify j fun e => { e with val := V v }) clock) }, ?_, ⟨_, _, bf_ hb, ?_, b9_ hnd a v, ?_, ?_, ?_⟩, Ext.setMap hb⟩
  · have hi : (asInt (.int .i64 ((s : Nat) : Int))).run P w = .ok ((s : Nat) : Int) w := by simp [asInt, asIntOf]
    simp only [Instr.entryStore, Sem.run_bind, Result.andThen_ok, bj_ hb, hi, hfind, bs_ hb]
  · rw [hmod, gZ_ hnd hj]
    apply List.ext_getElem?
    intro i
    have hei : (es.toList.map (fun e => (e.key, e.val)))[i]? = (m.map (fun p => (K p.1, V p.2)))[i]? := by rw [he]
    rw [List.getElem?_map, List.getElem?_map] at hei
    rw [List.getElem?_map, List.getElem?_map, List.getElem?_modify, List.getElem?_set]
    have hml : j < m.length := (List.getElem?_eq_some_iff.1 hj).1
    by_cases hij : j = i
    · subst hij
      rw [if_pos rfl, if_pos hml, hx]
      rw [hx, hj] at hei
      simp at hei
      simp [hei.1]
    · rw [if_neg hij]
      simpa [hij] using hei
  · intro p hp
    rw [gZ_ hnd hj] at hp
    rcases List.mem_or_eq_of_mem_set hp with hp | rfl
    · exact hg p hp
    · exact hg (a, u) (List.mem_of_getElem? hj)
  · intro y hy
    rw [hmod] at hy
    obtain ⟨i, hi⟩ := List.getElem?_of_mem hy
    rw [List.getElem?_modify] at hi
    cases he2 : es.toList[i]? with
    | none => rw [he2] at hi; simp at hi
    | some y2 =>
      rw [he2] at hi
      have := hborn y2 (List.mem_of_getElem? he2)
      split at hi
      · simp at hi; rw [← hi]; exact this
      · simp at hi; rw [← hi]; exact this
  · rw [hmod]
    have : (es.toList.modify j fun e => { e with val := V v }).map (·.born) = es.toList.map (·.born) := by
      apply List.ext_getElem?
      intro i
      rw [List.getElem?_map, List.getElem?_map, List.getElem?_modify]
      cases es.toList[i]? with
      | none => simp
      | some y => by_cases hij : j = i <;> simp [hij]
    rw [this]
    exact hbnd
theorem a0_ (m : List (α × β)) (a : α) (z v : β) : aput (aent m a z) a v = aput m a v := by
  unfold aent
  split
  · rfl
  · next h =>
    have h0 : aget m a = none := by simpa using h
    have h1 : (aget (aput m a z) a).isSome = true := by rw [a1_, if_pos rfl]; rfl
    have h2 : aput m a z = m ++ [(a, z)] := by unfold aput; rw [if_neg h]
    unfold aput at h1 ⊢
    rw [if_neg h] at h1 ⊢
    rw [if_pos h1, if_neg h, List.map_append]
    congr 1
    · rw [List.map_congr_left (g := id)]
      · simp
      · intro p hp
        rw [df_] at h0
        have : p.1 ≠ a := fun e => h0 (e ▸ List.mem_map.2 ⟨p, hp, rfl⟩)
        simp [this]
    · simp
end
end Go.Proofs.YtggajaigfkekhaaGreat
namespace Go.Proofs.YtggajaigfkekhaaGreat.A
open Go.RowKit
def mapAtPc {α β : Type} (b : Nat) (K : α → Value) (V : β → Value) (Good : α → Prop) (m : List (α × β)) (a : α) (s : Nat) : Pc where
  ids := [b]
  p := fun _ w => MapAt w b K V Good m a s
  carry := fun _ _ _ _ _ hs h => by
    obtain ⟨es, clock, h1, h2⟩ := h
    exact ⟨es, clock, (hs b (by simp)).trans h1, h2⟩
  lt := fun _ w h k hk => by
    simp at hk
    subst hk
    obtain ⟨es, clock, h1, _⟩ := h
    exact bu_ h1
section
variable {P : Program} {n : Nat} {W : Wd} {σ τ : Blks} {l : Slots} {X : List Nat} {x y z : Operand} {d : Option Nat} {ty t k e : TypeId} {pos : String} {aft : Array Edge} {g : Option (Nat × Bool)} {b s : Nat} {A B C : Abs}
variable {α β : Type} [DecidableEq α] {K : α → Value} {V : β → Value} {Good : α → Prop} {m : List (α × β)} {a : α} {v zv : β}
theorem e6_ {m' : List (α × β)} (kf : KeyFit P k K Good) (ht : P.underlying t = some (.map k e)) (hx : look l x = some (mapV b)) (hu : Upd (.pc (mapPc b K V Good m)) (.pc (mapPc b K V Good m')) σ τ) (hy : look l y = some A) (hA : A.is (K a)) (ha : Good a) (hm : adel m a = m') :
    Eff P n W σ l [b] ⟨d, .call { callee := .builtin .delete, args := #[x, y], argTypes := #[t, k] }, ty, pos, aft, g⟩ fun u τ' => u = .tup [] ∧ τ' = τ := fun ac w hs => by
  subst hm
  have h1 : MapOf w b K V Good m := hs.mem.hold _ hu.mem
  obtain ⟨w', hr, h2, h3⟩ := h1.del_run kf ht ha ty
  have h4 := hs.mem.upd hu (h3.mono (by simp [It.mids, mapPc])) (by simp [It.mids, mapPc]) (fun k hk => .inl hk) rfl (fun _ => h2)
  refine ⟨.tuple #[], w', _, _, ⟨rfl, rfl⟩, h3, ⟨[], rfl, rfl⟩, h4.1, h4.2, .inl ?_⟩
  simp [execOp, resolve, invoke, builtin, hs.plain hx, hA.1 _ _ _ (hs.eval hy), hr, Result.andThen]
theorem ay_ {τ : Nat → Blks} (kf : KeyFit P k K Good) (ht : P.underlying t = some (.map k e)) (hz : ∀ w, (zeroValue e).run P w = .ok (V zv) w) (hx : look l x = some (mapV b)) (hu : ∀ s, Upd (.pc (mapPc b K V Good m)) (.pc (mapAtPc b K V Good (aent m a zv) a s)) σ (τ s))
    (hy : look l y = some A) (hA : A.is (K a)) (ha : Good a) (hC : C.is (((aget m a).map V).getD (V zv))) :
    Eff P n W σ l [b] ⟨d, .mapEntry t x y, ty, pos, aft, g⟩ fun u τ' => ∃ s : Nat, u = .tup [C, .v (.int .i64 (s : Nat))] ∧ τ' = τ s := fun ac w hs => by
  have h1 : MapOf w b K V Good m := hs.mem.hold _ (hu 0).mem
  obtain ⟨w', s, hr, h2, h3⟩ := h1.entry_run kf ht (hz w) ha
  have h4 := hs.mem.upd (hu s) (h3.mono (by simp [It.mids, mapPc])) (by simp [It.mids, mapAtPc]) (fun k hk => .inl (by simpa [It.mids, mapPc, mapAtPc] using hk)) rfl (fun _ => h2)
  refine ⟨.tuple #[((aget m a).map V).getD (V zv), .int .i64 (s : Nat)], w', _, _, ⟨s, rfl, rfl⟩, h3, ⟨_, rfl, _, _, rfl, hC.2 _ _, _, _, rfl, rfl, rfl⟩, h4.1, h4.2, .inl ?_⟩
  simp only [execOp, hs.plain hx, hA.1 _ _ _ (hs.eval hy), Sem.run_bind, hr, Result.andThen_ok, Sem.run_pure]
theorem ag_ {m' : List (α × β)} (hx : look l x = some (mapV b)) (hu : Upd (.pc (mapAtPc b K V Good m a s)) (.pc (mapPc b K V Good m')) σ τ) (hy : look l y = some (.v (.int .i64 (s : Nat)))) (hz : look l z = some B) (hB : B.is (V v)) (hm : aput m a v = m') :
    Eff P n W σ l [b] ⟨d, .entryStore t x y z, ty, pos, aft, g⟩ fun u τ' => u = .v undef ∧ τ' = τ := fun ac w hs => by
  subst hm
  have h1 : MapAt w b K V Good m a s := hs.mem.hold _ hu.mem
  obtain ⟨w', hr, h2, h3⟩ := h1.store_run (P := P) (t := t) v
  have h4 := hs.mem.upd hu (h3.mono (by simp [It.mids, mapAtPc])) (by simp [It.mids, mapPc]) (fun k hk => .inl (by simpa [It.mids, mapPc, mapAtPc] using hk)) rfl (fun _ => h2)
  refine ⟨_, w', _, _, ⟨rfl, rfl⟩, h3, rfl, h4.1, h4.2, .inr ⟨rfl, ?_⟩⟩
  simp only [execOp, hs.plain hx, hs.plain hy, hB.1 _ _ _ (hs.eval hz), Sem.run_bind, hr, Result.andThen_ok, Sem.run_pure]
end
/-! ### Keys that are ints -/
abbrev intK (x : Int) : Value := .int .i64 x
abbrev intOk (x : Int) : Prop := InR .i64 x
theorem int_wf {x : Int} (h : intOk x) : (Lit.int .i64 x).wf = true := by
  simp only [InR, lo, hi] at h
  simp only [Lit.wf, Bool.and_eq_true, decide_eq_true_eq]
  exact ⟨by show (-9223372036854775808 : Int) ≤ _; omega, by show _ ≤ (9223372036854775807 : Int); omega⟩
theorem a4_ {P : Program} {k : TypeId} (hk : P.underlying k = some (.int .i64)) : KeyFit P k intK intOk where
  keyed := Maps.int_keyed hk
  lit a h := ⟨_, Maps.keyOf_int_mk hk (int_wf h)⟩
  inj a b _ _ h := by
    injection h
abbrev cntV (x : Nat) : Value := .int .i64 (x : Nat)
def srt (ks : List Int) : List Int := ks.mergeSort fun x y => decide (x ≤ y)
theorem c3_ (ks : List Int) : (srt ks).Perm ks := List.mergeSort_perm _ _
theorem cz_ (ks : List Int) : (srt ks).Pairwise (· ≤ ·) := by
  have h := List.pairwise_mergeSort (le := fun x y : Int => decide (x ≤ y)) (fun a b c h1 h2 => by simp only [decide_eq_true_eq] at *; omega) (fun a b => by simp only [Bool.or_eq_true, decide_eq_true_eq]; omega) ks
  exact h.imp fun h => by simpa using h
theorem bK_ : ∀ {l m : List Int}, l.Perm m → l.Pairwise (· ≤ ·) → m.Pairwise (· ≤ ·) → l = m
  | [], m, h, _, _ => (List.nil_perm.1 h).symm ▸ rfl
  | a :: l, [], h, _, _ => by have := h.length_eq; simp at this
  | a :: l, b :: m, h, h1, h2 => by
    rw [List.pairwise_cons] at h1 h2
    have hab : a = b := by
      have ha : a ∈ b :: m := h.mem_iff.1 List.mem_cons_self
      have hb : b ∈ a :: l := h.mem_iff.2 List.mem_cons_self
      rcases List.mem_cons.1 ha with e | ha
      · exact e
      · rcases List.mem_cons.1 hb with e | hb
        · exact e.symm
        · have := h1.1 b hb; have := h2.1 a ha; omega
    subst hab
    rw [bK_ (h.cons_inv) h1.2 h2.2]
theorem ip_ {l m : List Int} (h : l.Perm m) : srt l = srt m := bK_ (((c3_ l).trans h).trans (c3_ m).symm) (cz_ l) (cz_ m)
theorem cA_ (ks : List Int) : (srt ks).length = ks.length := (c3_ ks).length_eq
section
variable {α : Type} [DecidableEq α] {m : List (Int × α)} {c : List (α × Nat)} {u v k : α} {w who : Int}
def cget (c : List (α × Nat)) (v : α) : Nat := (aget c v).getD 0
def cnt (m : List (Int × α)) (v : α) : Nat := (m.filter fun p => decide (p.2 = v)).length
def decO (c : List (α × Nat)) : Option α → List (α × Nat)
  | none => c
  | some v => if cget (aput c v (cget c v - 1)) v = 0 then adel (aput c v (cget c v - 1)) v else aput c v (cget c v - 1)
def chgC (m : List (Int × α)) (c : List (α × Nat)) (who : Int) (k : α) : List (α × Nat) := aput (decO c (aget m who)) k (cget (decO c (aget m who)) k + 1)
structure TInv (m : List (Int × α)) (c : List (α × Nat)) : Prop where
  nd : (m.map (·.1)).Nodup
  num : ∀ v, cget c v = cnt m v
theorem cu_ (c : List (α × Nat)) (k v : α) (n : Nat) : cget (aput c k n) v = if v = k then n else cget c v := by
  unfold cget
  rw [a1_]
  split <;> rfl
theorem ji_ (c : List (α × Nat)) (k v : α) : cget (adel c k) v = if v = k then 0 else cget c v := by
  unfold cget
  rw [jp_]
  split <;> rfl
theorem fs_ (c : List (α × Nat)) (u v : α) : cget (decO c (some u)) v = if v = u then cget c u - 1 else cget c v := by
  show cget (if cget (aput c u (cget c u - 1)) u = 0 then adel (aput c u (cget c u - 1)) u else aput c u (cget c u - 1)) v = _
  split
  · next h =>
    rw [cu_, if_pos rfl] at h
    rw [ji_, cu_]
    split
    · omega
    · rfl
  · rw [cu_]
theorem d0_ (p : Int × α) (m : List (Int × α)) (v : α) : cnt (p :: m) v = (if p.2 = v then 1 else 0) + cnt m v := by
  unfold cnt
  rw [List.filter_cons]
  by_cases h : p.2 = v
  · simp [h]; omega
  · simp [h]
theorem h2_ (m l : List (Int × α)) (v : α) : cnt (m ++ l) v = cnt m v + cnt l v := by simp [cnt]
theorem cnt_le (m : List (Int × α)) (v : α) : cnt m v ≤ m.length := List.length_filter_le _ _
omit [DecidableEq α] in
theorem gk_ (p : Int × α) (m : List (Int × α)) (w : Int) : aget (p :: m) w = if p.1 = w then some p.2 else aget m w := by
  unfold aget
  rw [List.find?_cons]
  by_cases h : p.1 = w <;> simp [h]
theorem gT_ : ∀ {m : List (Int × α)} {w : Int} {v : α}, aget m w = some v → 1 ≤ cnt m v
  | [], w, v, h => by cases h
  | p :: m, w, v, h => by
    rw [gk_] at h
    rw [d0_]
    split at h
    · have := Option.some.inj h
      rw [if_pos this]
      omega
    · have := gT_ h
      omega
omit [DecidableEq α] in
theorem aput_new (h : aget m w = none) (k : α) : aput m w k = m ++ [(w, k)] := by
  unfold aput
  rw [if_neg (by rw [h]; simp)]
theorem cnt_new (h : aget m w = none) (k v : α) : cnt (aput m w k) v = cnt m v + (if k = v then 1 else 0) := by
  rw [aput_new h, h2_]
  congr 1
  rw [d0_]
  simp [cnt]
omit [DecidableEq α] in
theorem hr_ : ∀ {m : List (Int × α)} {w : Int} {k : α}, w ∉ m.map (·.1) → (m.map fun p => if p.1 = w then (w, k) else p) = m
  | [], _, _, _ => rfl
  | p :: m, w, k, h => by
    rw [List.map_cons, List.mem_cons, not_or] at h
    rw [List.map_cons, if_neg (fun e => h.1 e.symm), hr_ h.2]
theorem jc_ : ∀ {m : List (Int × α)} {w : Int} {u : α}, (m.map (·.1)).Nodup → aget m w = some u → ∀ k v : α, cnt (m.map fun p => if p.1 = w then (w, k) else p) v + (if u = v then 1 else 0) = cnt m v + (if k = v then 1 else 0)
  | [], w, u, _, h, _, _ => by cases h
  | p :: m, w, u, hn, h, k, v => by
    rw [List.map_cons, List.nodup_cons] at hn
    rw [gk_] at h
    rw [List.map_cons, d0_, d0_]
    by_cases hp : p.1 = w
    · rw [if_pos hp] at h
      have := Option.some.inj h
      subst this
      subst hp
      rw [if_pos rfl, hr_ hn.1]
      dsimp only
      omega
    · rw [if_neg hp] at h
      have := jc_ hn.2 h k v
      rw [if_neg hp]
      omega
theorem TInv.nil : TInv ([] : List (Int × α)) [] := ⟨by simp, fun v => rfl⟩
theorem TInv.chg (h : TInv m c) (who : Int) (k : α) : TInv (aput m who k) (chgC m c who k) := by
  refine ⟨b9_ h.nd who k, fun v => ?_⟩
  unfold chgC
  rw [cu_]
  cases hw : aget m who with
  | none =>
    rw [cnt_new hw]
    show (if v = k then cget c k + 1 else cget c v) = _
    rw [h.num, h.num]
    by_cases hv : v = k
    · subst hv; simp
    · rw [if_neg hv, if_neg (fun e => hv e.symm)]; omega
  | some u =>
    have h1 := jc_ h.nd hw k v
    have h2 := gT_ hw
    have e : aput m who k = m.map fun p => if p.1 = who then (who, k) else p := by
      unfold aput
      rw [if_pos (by rw [hw]; rfl)]
    rw [e, fs_, fs_, h.num, h.num, h.num]
    by_cases hv : v = k
    · subst hv
      have e1 : (if v = v then 1 else 0) = 1 := if_pos rfl
      rw [e1] at h1
      rw [if_pos rfl]
      by_cases hu : v = u
      · subst hu
        rw [if_pos rfl] at h1 ⊢
        omega
      · have e2 : (if u = v then 1 else 0) = 0 := if_neg fun e => hu e.symm
        rw [e2] at h1
        rw [if_neg hu]
        omega
    · have e1 : (if k = v then 1 else 0) = 0 := if_neg fun e => hv e.symm
      rw [e1] at h1
      rw [if_neg hv]
      by_cases hu : v = u
      · subst hu
        rw [if_pos rfl] at h1 ⊢
        omega
      · have e2 : (if u = v then 1 else 0) = 0 := if_neg fun e => hu e.symm
        rw [e2] at h1
        rw [if_neg hu]
        omega
theorem TInv.le (h : TInv m c) (v : α) : cget c v ≤ m.length := by rw [h.num]; exact cnt_le m v
theorem TInv.pos (h : TInv m c) (hw : aget m who = some v) : 1 ≤ cget c v := by rw [h.num]; exact gT_ hw
theorem TInv.dec_le (h : TInv m c) (o : Option α) (v : α) : cget (decO c o) v ≤ m.length := by
  cases o with
  | none => exact h.le v
  | some u =>
    rw [fs_]
    have h1 := h.le u
    have h2 := h.le v
    split <;> omega
theorem i7_ (h : cget (aput c v (cget c v - 1)) v = 0) : adel (aput c v (cget c v - 1)) v = decO c (some v) := (if_pos h).symm
theorem hz_ (h : ¬ cget (aput c v (cget c v - 1)) v = 0) : decO c (some v) = aput c v (cget c v - 1) := if_neg h
theorem aK_ (c : List (α × Nat)) (v : α) : (int ((cget c v : Nat) : Int)).is (((aget c v).map cntV).getD (cntV 0)) := by
  unfold cget
  cases aget c v with
  | none => exact is_v
  | some n => exact is_v
omit [DecidableEq α] in
theorem b2_ (m : List (Int × α)) (w : Int) (k : α) : (aput m w k).length ≤ m.length + 1 := by
  rw [cZ_]
  split <;> omega
end
def isOwn (σ : Blks) (e : TypeId) (s : Nat) (v : Value) (xs : List (List Abs)) : Prop := own e s v xs ∈ σ ∨ It.rdpc (ownPc e s v xs) ∈ σ
def eptr : Value → Nat → Value
  | .slice (some ⟨b, off, _⟩) _ _, o => .pointer (some ⟨b, off + o, none⟩)
  | v, _ => v
section
variable {P : Program} {n : Nat} {W : Wd} {σ τ : Blks} {l : Slots} {X : List Nat} {x y z : Operand} {d : Option Nat} {ty t e e' : TypeId} {pos : String} {aft : Array Edge} {g : Option (Nat × Bool)} {v : Value} {k : IntKind} {A : Abs} {tab : List (Nat × TI)} {xs : List (List Abs)} {s q : Nat} {cs : List Abs}
theorem Mem.ownR {w0 w : World} {F G : List Nat} (h : Mem w0 F G σ w) (hb : isOwn σ e s v xs) : ∃ us, IsRow [] w v xs.length us ∧ repss (mids σ ++ G) w s xs us := by
  have hp : (ownPc e s v xs).p (mids σ ++ G) w := by
    rcases hb with hb | hb
    · exact h.hold _ hb
    · exact h.hold _ hb
  obtain ⟨us, h1, h2⟩ := hp
  exact ⟨us, ownsRow.isRow h1 (by simp), h2⟩
theorem ey_ {m : Nat} (hx : look l x = some (.v v)) (hb : isOwn σ e' s v xs) (ht : P.underlying t = some (.slice e)) (hm : xs.length = m) : Val P n W σ l X ⟨d, .call { callee := .builtin .len, args := #[x], argTypes := #[t] }, ty, pos, aft, g⟩ (.v (.int .i64 m)) := aO_ fun a w hs _ => by
  subst hm
  obtain ⟨us, h1, _⟩ := hs.mem.ownR hb
  obtain ⟨A', c, h2, _⟩ := h1.shape
  exact ⟨_, rfl, fun w' _ => Proofs.YtggajaigfkekhaaGreat.w_ (by rw [hs.at2 hx, hs.plain hx, h2]) ht⟩
theorem iI_ {w : World} {us : List Value} (hr : IsRow [] w v xs.length us) (hp : repss (mids σ ++ W.G) w s xs us) (hpos : 0 < s) (hq : xs[q]? = some cs) : ∃ b off c, v = .slice (some ⟨b, off, none⟩) xs.length c ∧ b < w.heap.size ∧ ∃ vs : List Value, vs.length = s ∧ reps (mids σ ++ W.G) w cs vs ∧ ∀ j u, vs[j]? = some u → w.cell? ⟨b, off + q * s + j, none⟩ = some u := by
  obtain ⟨vs, h3, h4, h5⟩ := ee_ hp hq
  have hlt : q < xs.length := (List.getElem?_eq_some_iff.1 hq).1
  have hlen := aW_ hp
  have hne : us ≠ [] := by
    rintro rfl
    have : xs.length * s = 0 := by simpa using hlen.symm
    rcases Nat.mul_eq_zero.1 this with h | h <;> omega
  obtain ⟨A', c, hsh, h6, h7, h8⟩ := hr.shape
  obtain ⟨b, off, n', c', hv, hb, hc⟩ := hr.cells hne
  have hv2 := hv
  rw [hsh] at hv2
  simp at hv2
  obtain ⟨rfl, rfl, rfl⟩ := hv2
  have hcell : ∀ j u, vs[j]? = some u → w.cell? ⟨b, off + q * s + j, none⟩ = some u := fun j u hu => by rw [Nat.add_assoc]; exact hc _ u (h5 j u hu)
  have hbl : b < w.heap.size := by
    cases vs with
    | nil => simp at h3; omega
    | cons u vs => exact block_lt_of_cell (hcell 0 u rfl)
  exact ⟨b, off, _, hsh, hbl, vs, h3, h4, hcell⟩
theorem bm_ (hT : TabOk P tab) {j : TI} (hu : P.underlying t = some (.slice e)) (hj : ti tab e = some j) (hx : look l x = some (.v v)) (hb : isOwn σ e' s v xs) {r : Int} (hy : look l y = some (.v (.int k r))) (hr : r = (q : Nat)) (hq : q < xs.length) (hsz : Nat.beq s j.size = true) (hpos : Nat.blt 0 s = true) :
    Val P n W σ l X ⟨d, .indexAddr t x y, ty, pos, aft, g⟩ (.v (eptr v (q * s))) := aO_ fun a w hs hX => by
  subst hr
  have hsz := Nat.eq_of_beq_eq_true hsz
  have hpos : 0 < s := by simpa [Nat.blt_eq] using hpos
  obtain ⟨us, h1, h2⟩ := hs.mem.ownR hb
  obtain ⟨b, off, c, hv, _⟩ := iI_ h1 h2 hpos (List.getElem?_eq_getElem hq)
  refine ⟨_, rfl, fun w' _ => ?_⟩
  rw [hv]
  show Proofs.YtggajaigfkekhaaGreat.Val _ _ _ _ _ (.pointer (some ⟨b, off + q * s, none⟩))
  rw [hsz]
  exact Proofs.YtggajaigfkekhaaGreat.au_ hT hu hj (by rw [hs.at2 hx, hs.plain hx, hv]) (by rw [hs.at2 hy, hs.plain hy]) hq
theorem bE_ (hT : TabOk P tab) {sz : Nat} {zs : List Value} (ht : ti tab t = some ⟨sz, .one, zs⟩) (hx : look l x = some (.v (eptr v (q * s)))) (hb : isOwn σ e' s v xs) (hpos : Nat.blt 0 s = true) (hq : xs[q]? = some cs) (hv : cs[0]? = some A) : Val P n W σ l [] ⟨d, .load t x, ty, pos, aft, g⟩ A := aO_ fun a w hs hX => by
  have hpos : 0 < s := by simpa [Nat.blt_eq] using hpos
  obtain ⟨us, h1, h2⟩ := hs.mem.ownR hb
  obtain ⟨b, off, c, hvv, hbl, vs, h3, h4, h5⟩ := iI_ h1 h2 hpos hq
  obtain ⟨u, h6, h7⟩ := bT_ h4 hv
  refine ⟨u, h7, fun w' hw' => Proofs.YtggajaigfkekhaaGreat.dx_ (b := b) (o := off + q * s) hT ht (by rw [hs.at2 hx, hs.plain hx, hvv]; rfl) fun w1 e => by subst e; exact ds_ hw' (by simp) (h5 0 u h6)⟩
theorem bc_ {ι : Type} {σ1 : Blks} {τ' : ι → Blks} {K : Blks → ι → Prop} (α : Blks) {β : Blks} (hσ : σ = α ++ (σ1 ++ β)) (hr : ∀ x ∈ σ1, x.rids = []) (k : ∀ z, K (α ++ (τ' z ++ β)) z) : After σ σ1 τ' K := by
  subst hσ
  refine ⟨α ++ β, ⟨?_, fun x hx => .inl ⟨by simp [hx], hr x hx⟩, fun x hx => ?_⟩, fun z => ⟨_, ?_, k z⟩⟩
  · simp only [Q_]
    exact List.perm_append_comm_assoc _ _ _
  · rcases List.mem_append.1 hx with h | h <;> simp [h]
  · exact List.perm_append_comm_assoc _ _ _
end
theorem g8_ {P : Program} {n : Nat} {W : Wd} {σ : Blks} {l : Slots} {Q : Exit → Act → World → Prop} {x y : Code} {ι : Type} (H : ι → Blks) (L : ι → Slots) (Φ : ι → Prop) (h : SC P x (St n W σ l) (Exit.then (fun a w => ∃ z, Head n W H L Φ z a w) Q)) (k : ∀ z, Φ z → SC P y (St n W (H z) (L z)) Q) : SC P (.seq x y) (St n W σ l) Q := jG_ H L Φ h k
theorem Val.maxI {P : Program} {n : Nat} {W : Wd} {σ : Blks} {l : Slots} {X : List Nat} {x y : Operand} {d : Option Nat} {ty t t' : TypeId} {pos : String} {aft : Array Edge} {gq : Option (Nat × Bool)} {k : IntKind} {a b : Int} (hx : look l x = some (.v (.int k a))) (hy : look l y = some (.v (.int k b))) :
    Val P n W σ l X ⟨d, .call { callee := .builtin .max, args := #[x, y], argTypes := #[t, t'] }, ty, pos, aft, gq⟩ (.v (.int k (max a b))) := fun ac w hs _ => ⟨_, rfl, fun w' _ => by
  have hm : (if a < b then b else a) = max a b := by omega
  simp [execOp, resolve, invoke, builtin, Builtin.max_, Builtin.max2, hs.plain hx, hs.plain hy, List.foldlM, hm]⟩
end Go.Proofs.YtggajaigfkekhaaGreat.A
