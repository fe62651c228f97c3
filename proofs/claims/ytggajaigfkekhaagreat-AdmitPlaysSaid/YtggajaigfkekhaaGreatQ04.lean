/-
  Packed out of the texts: A5, AQk, Rd, A6, Names, Cores, EntD.
-/
import Derived.Test.YtggajaigfkekhaaGreatQ03
set_option maxRecDepth 100000
set_option linter.unusedSimpArgs false
set_option linter.unusedVariables false
namespace Go.Proofs.YtggajaigfkekhaaGreat.A
open Go.RowKit
section
variable {K : List Nat} {w : World} {s : Nat}
theorem c0_ {xs : List (List Abs)} {us : List Value} (h : repss K w s xs us) (q : Nat) (hq : q ≤ xs.length) : repss K w s (xs.drop q) (us.drop (q * s)) ∧ repss K w s (xs.take q) (us.take (q * s)) := by
  have h1 := h
  rw [← List.take_append_drop q xs] at h1
  obtain ⟨u1, u2, rfl, h2, h3⟩ := e3_ h1
  have hl : u1.length = q * s := by rw [a5_ h2, List.length_take, Nat.min_eq_left hq]
  rw [← hl]
  simp [h2, h3]
theorem IsRow.tailN {A : Option Addr} {m c q : Nat} {us : List Value} (h : IsRow K w (.slice A m c) m us) (hq : q ≤ m) (hl : us.length = m * s) : IsRow K w (.slice (if c = q then A else A.map (·.add (q * s))) (m - q) (c - q)) (m - q) (us.drop (q * s)) := by
  obtain ⟨A', c', hv, h1, h2, h3⟩ := h.shape
  simp at hv
  obtain ⟨rfl, rfl⟩ := hv
  refine ⟨⟨_, c - q, rfl, by omega, by omega, fun hA => ?_⟩, fun hn => ?_⟩
  · split at hA
    · have := h3 hA; omega
    · cases A with
      | none => have := h3 rfl; omega
      | some a => simp at hA
  · have hlt : q < m := by
      rcases Nat.lt_or_ge q m with h4 | h4
      · exact h4
      · have : q = m := by omega
        subst this
        exact absurd (List.drop_eq_nil_of_le (by omega)) hn
    obtain ⟨b, off, n', c2, hv, hb, hc⟩ := h.cells (by rintro rfl; simp at hn)
    simp at hv
    obtain ⟨rfl, rfl, rfl⟩ := hv
    refine ⟨b, off + q * s, m - q, c - q, by rw [if_neg (by omega)]; simp [Addr.add_none], hb, fun j u hu => ?_⟩
    rw [List.getElem?_drop] at hu
    rw [Nat.add_assoc]; exact hc _ u hu
end
section
variable {P : Program} {n : Nat} {W : Wd} {σ τ : Blks} {l : Slots} {X : List Nat} {x y z : Operand} {d : Option Nat} {ty t t' e : TypeId} {pos : String} {aft : Array Edge} {g : Option (Nat × Bool)} {v u : Value} {k k' : IntKind} {a b r : Int} {o : Oper} {A B : Abs} {tab : List (Nat × TI)} {xs ys : List (List Abs)} {s q : Nat} {fn : Func}
theorem fs_ (hT : TabOk P tab) {i : TI} (hu : P.underlying t = some (.slice e)) (hi : ti tab e = some i) (hsz : Nat.beq s i.size = true) (hx : look l x = some (.sl s xs)) (hy : look l y = some (.v (.int k r))) (hr : r = (q : Nat)) (hq : q ≤ xs.length) :
    Val P n W σ l X ⟨d, .slice t x (some y) none none, ty, pos, aft, g⟩ (.sl s (xs.drop q)) := fun a w hs _ => by
  subst hr
  have hsz := Nat.eq_of_beq_eq_true hsz
  subst hsz
  obtain ⟨us, h1, h2⟩ := hs.eval hx
  obtain ⟨A', c, hsh, h3, h4, h5⟩ := h1.shape
  rw [hsh] at h1
  have h6 := IsRow.tailN h1 hq (a5_ h2)
  refine ⟨_, ⟨_, by rw [List.length_drop]; exact h6, (c0_ h2 q hq).1⟩, fun w' _ => ?_⟩
  have h7 := (hT _ _ hi).sizeOf (w := w')
  simp [execOp, Instr.sliceAt, Instr.slice, Instr.sliceBounds, Instr.sliceBound, asIntOf, hsh, hs.plain hy, run_underlying hu, Sem.run_bind, Result.andThen, h7, hq]
def args0 : List Abs → Nat → Slots
  | [], _ => []
  | v :: vs, i => (i, v) :: args0 vs (i + 1)
theorem fD_ : ∀ (vs : List Abs) (i t : Nat) (v : Abs), slot (args0 vs i) t = some v → i ≤ t ∧ vs[t - i]? = some v
  | [], i, t, v, h => by simp [args0, slot] at h
  | u :: vs, i, t, v, h => by
    unfold args0 slot at h
    by_cases hit : i = t
    · subst hit
      simp at h
      subst h
      simp
    · rw [dd_ hit] at h
      obtain ⟨h1, h2⟩ := fD_ vs (i + 1) t v h
      refine ⟨by omega, ?_⟩
      rw [show t - i = (t - (i + 1)) + 1 by omega]
      simpa using h2
section
variable {ι : Type} {τ' : ι → Blks} {res : ι → Abs} {args : List Abs}
def Post (G : List Nat) (σ : Blks) (τ' : ι → Blks) (res : ι → Abs) (w : World) (e : Ending) (w' : World) : Prop :=
  ∃ z r, e = .returned r ∧ (∀ x ∈ τ' z, x.rids = []) ∧ Mem w (mids σ) G (τ' z) w' ∧ rep (mids (τ' z) ++ G) w' (res z) r
theorem G_ {f : FuncId} {c : Code} (hf : P.funcs[f]? = some fn) (hb : fn.body = some c) (hn : fn.ntmps = n) (hle : Nat.ble args.length n = true)
    (h : ∀ G w, SC P c (St n ⟨w, mids σ, G⟩ σ (args0 args 0)) (bodyPost P fn (Post G σ τ' res w))) : Spec P f args σ τ' res := fun G w vals hm hv => by
  have hlen := aj_ hv
  refine ad_ vals hf hb hn (by rw [hlen]; exact hle) (fun w1 => w1 = w) rfl fun a w1 hfr hw => ?_
  subst hw
  refine h G w1 a w1 ⟨hfr.defers, hfr.size, fun t x hx => ?_, hm⟩
  have h1 := (fD_ args 0 t x hx).2
  rw [Nat.sub_zero] at h1
  obtain ⟨u, h2, h3⟩ := ce_ hv h1
  refine ⟨u, hfr.at_ t u ?_, h3⟩
  have h4 := eX_ vals 0 t u h2
  rw [Nat.zero_add] at h4
  exact h4
inductive RV (P : Program) (n : Nat) (W : Wd) (σ : Blks) (l : Slots) : List ResultVar → List Abs → Prop
  | nil : RV P n W σ l [] []
  | tmp {t : Nat} {v : Abs} {rs : List ResultVar} {vs : List Abs} (h : slot l t = some v) (k : RV P n W σ l rs vs) : RV P n W σ l (.tmp t :: rs) (v :: vs)
  | cell {p ty b : Nat} {v : Abs} {rs : List ResultVar} {vs : List Abs} (h : slot l p = some (.v (.pointer (some ⟨b, 0, none⟩)))) (hv : ∀ a w, St n W σ l a w → ∃ u, rep (mids σ ++ W.G) w v u ∧ (loadVar ty ⟨b, 0, none⟩).run P w = .ok u w) (k : RV P n W σ l rs vs) : RV P n W σ l (.cell p ty :: rs) (v :: vs)
theorem RV.run {rs : List ResultVar} {vs : List Abs} (h : RV P n W σ l rs vs) {a : Act} {w : World} (hs : St n W σ l a w) : ∃ us, reps (mids σ ++ W.G) w vs us ∧ (rs.mapM (resV a.tmps)).run P w = .ok us w := by
  induction h with
  | nil => exact ⟨[], rfl, rfl⟩
  | @tmp t v rs vs h _ ih =>
    obtain ⟨us, h3, h4⟩ := ih
    obtain ⟨u, h1, h2⟩ := hs.slots t v h
    have h5 : (resV a.tmps (.tmp t)).run P w = .ok u w := by simp [resV, h1]
    exact ⟨u :: us, ⟨u, us, rfl, h2, h3⟩, by simp only [List.mapM_cons, Sem.run_bind, h5, Result.andThen_ok, h4, Sem.run_pure]⟩
  | @cell q ty b v rs vs h hv _ ih =>
    obtain ⟨us, h3, h4⟩ := ih
    obtain ⟨u, h1, h2⟩ := hv a w hs
    obtain ⟨p, h6, h7⟩ := hs.slots q _ h
    have h8 : p = .pointer (some ⟨b, 0, none⟩) := h7
    subst h8
    have h5 : (resV a.tmps (.cell q ty)).run P w = .ok u w := by simp [resV, h6, asAddr]; exact h2
    exact ⟨u :: us, ⟨u, us, rfl, h1, h3⟩, by simp only [List.mapM_cons, Sem.run_bind, h5, Result.andThen_ok, h4, Sem.run_pure]⟩
theorem RV.cellA (hT : TabOk P tab) {i : TI} {b : Nat} {cs : List Abs} (ht : ti tab t = some i) (hk : (match i.k with | .one => false | _ => true) = true) (hb : isBlk σ b t' cs) (hl : cs.length = i.size) : ∀ a w, St n W σ l a w → ∃ u, rep (mids σ ++ W.G) w (.agg cs) u ∧ (loadVar t ⟨b, 0, none⟩).run P w = .ok u w := fun a w hs => by
  obtain ⟨us, h1, h2⟩ := hs.mem.blk hb
  exact ⟨_, ⟨us, rfl, h2⟩, dh_ hT ht hk (by rw [aj_ h2]; exact hl) fun j u hu => by rw [Nat.zero_add, bQ_ h1]; exact hu⟩
def retA : List Abs → Abs
  | [v] => v
  | vs => .tup vs
theorem ret_rep {K : List Nat} {w : World} : ∀ {vs : List Abs} {us : List Value}, reps K w vs us → rep K w (retA vs) (retOf us)
  | [], us, h => by have : us = [] := h; subst this; exact ⟨[], rfl, rfl⟩
  | [v], us, ⟨u, us', h1, h2, h3⟩ => by have : us' = [] := h3; subst this h1; exact h2
  | v :: v2 :: vs, us, h => by
    obtain ⟨u, us', h1, h2, u2, us2, h3, h4, h5⟩ := id h
    subst h1 h3
    exact ⟨_, rfl, h⟩
theorem RV.results {rs : List ResultVar} {vs : List Abs} (hr : fn.results = rs.toArray) (h : RV P n W σ l rs vs) {a : Act} {w : World} (hs : St n W σ l a w) : ∃ us, reps (mids σ ++ W.G) w vs us ∧ (results fn a.tmps).run P w = .ok (retOf us) w := by
  obtain ⟨us, h1, h2⟩ := h.run hs
  refine ⟨us, h1, ?_⟩
  rw [fF_, hr, Array.mapM_eq_mapM_toList, Sem.run_bind, Sem.run_map]
  dsimp only
  rw [h2]
  match us with
  | [] => rfl
  | [v] => rfl
  | v :: u :: vs => simp [retOf, Result.andThen]
theorem lK_ {R : Ending → World → Prop} {rs : List ResultVar} {vs : List Abs} (hr : fn.results = rs.toArray) (h : RV P n W σ l rs vs) (k : ∀ a w us, St n W σ l a w → reps (mids σ ++ W.G) w vs us → R (.returned (retOf us)) w) : SE .ret (St n W σ l) (bodyPost P fn R) := fun a w hs => by
  obtain ⟨us, h1, h2⟩ := h.results hr hs
  exact ⟨hs.defers, _, h2, k a w us hs h1⟩
theorem SE.doneG {R : Ending → World → Prop} {rs : List ResultVar} {vs : List Abs} (hr : fn.results = rs.toArray) (h : RV P n W σ l rs vs) (k : ∀ a w us, St n W σ l a w → reps (mids σ ++ W.G) w vs us → R (.returned (retOf us)) w) : SE .normal (St n W σ l) (bodyPost P fn R) := fun a w hs => by
  obtain ⟨us, h1, h2⟩ := h.results hr hs
  exact ⟨hs.defers, _, h2, k a w us hs h1⟩
theorem hT_ {G : List Nat} {w0 : World} {σ0 : Blks} {vs : List Abs} (z : ι) (hsub : (τ' z).Sublist σ) (hro : ∀ x ∈ τ' z, x.rids = []) (hres : retA vs = res z) {a : Act} {w : World} {us : List Value} (hs : St n ⟨w0, mids σ0, G⟩ σ l a w) (hv : reps (mids σ ++ G) w vs us) : Post G σ0 τ' res w0 (.returned (retOf us)) w := by
  obtain ⟨h1, h2⟩ := hs.mem.sub hsub
  exact ⟨z, _, rfl, hro, h1, hres ▸ ret_rep (aA_ h2 _ _ hv)⟩
theorem SE.fin {G : List Nat} {w0 : World} {σ0 : Blks} {rs : List ResultVar} {vs : List Abs} (hr : fn.results = rs.toArray) (h : RV P n ⟨w0, mids σ0, G⟩ σ l rs vs) (z : ι) (hsub : (τ' z).Sublist σ) (hro : ∀ x ∈ τ' z, x.rids = []) (hres : retA vs = res z) : SE .ret (St n ⟨w0, mids σ0, G⟩ σ l) (bodyPost P fn (Post G σ0 τ' res w0)) :=
  lK_ hr h fun _ _ _ hs hv => hT_ z hsub hro hres hs hv
theorem lM_ {G : List Nat} {w0 : World} {σ0 : Blks} {rs : List ResultVar} {vs vs2 : List Abs} (hr : fn.results = rs.toArray) (h : RV P n ⟨w0, mids σ0, G⟩ σ l rs vs) (hca : Casts vs vs2) (z : ι) (hsub : (τ' z).Sublist σ) (hro : ∀ x ∈ τ' z, x.rids = []) (hres : retA vs2 = res z) : SE .ret (St n ⟨w0, mids σ0, G⟩ σ l) (bodyPost P fn (Post G σ0 τ' res w0)) :=
  lK_ hr h fun _ _ _ hs hv => hT_ z hsub hro hres hs (hca _ _ _ hv)
theorem aN_ {cs ds : List Abs} (h : Casts cs ds) : ∀ K w u, rep K w (.agg cs) u → rep K w (.agg ds) u := fun K w _ ⟨us, h1, h2⟩ => ⟨us, h1, h K w us h2⟩
theorem Casts.nils {s : Nat} {xs ys : List Abs} (k : Casts xs ys) : Casts (.v (.slice none 0 0) :: xs) (.sl s [] :: ys) := k.cons fun _ _ _ h => dU_ h
theorem cp_ {G : List Nat} {w0 : World} {σ0 : Blks} {rs : List ResultVar} {vs : List Abs} (hr : fn.results = rs.toArray) (h : RV P n ⟨w0, mids σ0, G⟩ σ l rs vs) (z : ι) (hsub : (τ' z).Sublist σ) (hro : ∀ x ∈ τ' z, x.rids = []) (hres : retA vs = res z) : SE .normal (St n ⟨w0, mids σ0, G⟩ σ l) (bodyPost P fn (Post G σ0 τ' res w0)) :=
  SE.doneG hr h fun _ _ _ hs hv => hT_ z hsub hro hres hs hv
end
/-! ### Contracts of the first engine -/
def old2 (w : World) (K : List Nat) : Proofs.YtggajaigfkekhaaGreat.It := .pc
  { ids := (List.range w.heap.size).filter fun k => decide (k ∈ K)
    p := fun w' => w.heap.size ≤ w'.heap.size ∧ ∀ k, k < w.heap.size → k ∈ K → w'.heap[k]? = w.heap[k]?
    st := fun F w1 w2 hx hF h => ⟨Nat.le_trans h.1 hx.size, fun k hk hm => (hx.block k (Nat.lt_of_lt_of_le hk h.1) (hF k (by simp [hk, hm]))).trans (h.2 k hk hm)⟩
    lt := fun w' h k hk => by
      have : k < w.heap.size := by have := (List.mem_filter.1 hk).1; simpa using this
      exact Nat.lt_of_lt_of_le this h.1 }
theorem bt_ {w : World} {K : List Nat} {k : Nat} : k ∈ (old2 w K).ids ↔ k < w.heap.size ∧ k ∈ K := by simp [old2, Proofs.YtggajaigfkekhaaGreat.It.ids]
theorem enter2 (w : World) (K : List Nat) : Proofs.YtggajaigfkekhaaGreat.Mem [(w, K)] [old2 w K] [] w := by
  refine ⟨fun s hs => ?_, fun x hx k hk s hs => ?_, ?_, fun x hx => ?_, by simp⟩
  · rw [List.mem_singleton] at hs; subst hs; exact Ext.refl w
  · rw [List.mem_singleton] at hs hx; subst hs hx; exact .inl (bt_.1 hk).2
  · simp only [List.flatMap_cons, List.flatMap_nil, List.append_nil]
    exact List.Nodup.sublist List.filter_sublist List.nodup_range
  · rw [List.mem_singleton] at hx; subst hx; exact ⟨Nat.le_refl _, fun _ _ _ => rfl⟩
theorem leave2 {w w' : World} {K : List Nat} {ρ : List Dt} {σ2 : Proofs.YtggajaigfkekhaaGreat.Blks} (h : Proofs.YtggajaigfkekhaaGreat.Mem [(w, K)] σ2 ρ w') (hm : old2 w K ∈ σ2) : Ext [] w w' := by
  have h1 := h.ext (w, K) (by simp)
  have h2 : _ ∧ _ := h.hold _ hm
  exact ⟨h1.os, h1.tape, h1.output, h1.size, fun k hk _ => by
    by_cases hK : k ∈ K
    · exact h2.2 k hk hK
    · exact h1.block k hk hK⟩
theorem row2 {w : World} {K : List Nat} {v : Value} {n : Nat} {cs : List Value} (h : IsRow K w v n cs) : IsRow ([old2 w K].flatMap Proofs.YtggajaigfkekhaaGreat.It.ids) w v n cs :=
  h.grow fun k hk => .inl (by
    simp only [List.flatMap_cons, List.flatMap_nil, List.append_nil] at hk
    exact (bt_.1 hk).2)
theorem row3 {w w' : World} {K L : List Nat} {v : Value} {n : Nat} {cs : List Value} (hK : ∀ k ∈ K, k < w.heap.size) (hL : ∀ k, k < w.heap.size → k ∈ K → k ∈ L) (h : IsRow L w' v n cs) : IsRow K w' v n cs :=
  h.grow fun k hk => .inl (hL k (hK k hk) hk)
theorem Pure.of2 {f : FuncId} {args : List Abs} {res : Abs} (h : ∀ (K : List Nat) (w : World) (vals : List Value), (∀ k ∈ K, k < w.heap.size) → reps K w args vals → Calls P f vals.toArray w fun e w' => ∃ r, e = .returned r ∧ Ext [] w w' ∧ rep K w' res r) : Pure P f args res := fun G w vals hm hv =>
  (h G w vals hm.old hv).mono fun e w' ⟨r, he, hx, hr⟩ => ⟨(), r, he, by simp, ⟨hx, by simp [mids], by simp [mids], fun k hk => Nat.lt_of_lt_of_le (hm.old k hk) hx.size, by simp, by simp [mids], by simp⟩, hr⟩
end
section
variable {P : Program} {n : Nat} {W : Wd} {σ τ : Blks} {l l' : Slots} {X : List Nat} {o : Oper} {y : Abs} {tab : List (Nat × TI)} {ops : Array Oper} {rest rest' : List Oper} {Q : Exit → Act → World → Prop}
def cmpQ (f : Int → Int → Bool) (l : Slots) (x y : Operand) : Option Abs := match look l x, look l y with
  | some (.v (.int k a)), some (.v (.int k' b)) => if k = k' then some (.v (.bool (f a b))) else none
  | _, _ => none
def stepQ (tab : List (Nat × TI)) (l : Slots) : Oper → Option Abs
  | ⟨_, .move x, _, _, _, _⟩ => look l x
  | ⟨_, .assign x, _, _, _, _⟩ => look l x
  | ⟨_, .extract x i, _, _, _, _⟩ => match look l x with
    | some (.tup vs) => vs[i]?
    | _ => none
  | ⟨_, .nilCheck x, _, _, _, _⟩ => match look l x with
    | some (.v (.pointer (some p))) => some (.v (.pointer (some p)))
    | _ => none
  | ⟨_, .pick x y z, _, _, _, _⟩ => match look l x with
    | some (.v (.bool true)) => look l y
    | some (.v (.bool false)) => look l z
    | _ => none
  | ⟨_, .fieldAddr t x f, _, _, _, _⟩ => match ti tab t with
    | some ⟨_, .struct gs, _⟩ => match look l x with
      | some (.v (.pointer (some ⟨b, off, none⟩))) => match gs[f]? with
        | some (fo, ft) => match ti tab ft with
          | some j => bif Nat.beq j.size 0 then none else some (.v (.pointer (some ⟨b, off + fo, none⟩)))
          | none => none
        | none => none
      | _ => none
    | _ => none
  | ⟨_, .binOp .eql _ x y _, _, _, _, _⟩ => cmpQ (fun a b => decide (a = b)) l x y
  | ⟨_, .binOp .neq _ x y _, _, _, _, _⟩ => cmpQ (fun a b => decide (a ≠ b)) l x y
  | ⟨_, .binOp .lss _ x y _, _, _, _, _⟩ => cmpQ (fun a b => decide (a < b)) l x y
  | ⟨_, .binOp .leq _ x y _, _, _, _, _⟩ => cmpQ (fun a b => decide (a ≤ b)) l x y
  | ⟨_, .binOp .gtr _ x y _, _, _, _, _⟩ => cmpQ (fun a b => decide (b < a)) l x y
  | ⟨_, .binOp .geq _ x y _, _, _, _, _⟩ => cmpQ (fun a b => decide (b ≤ a)) l x y
  | _ => none
theorem c5_ {f : Int → Int → Bool} {x z : Operand} (h : cmpQ f l x z = some y) : ∃ k a b, look l x = some (.v (.int k a)) ∧ look l z = some (.v (.int k b)) ∧ y = .v (.bool (f a b)) := by
  unfold cmpQ at h
  split at h
  · next k a k' b h1 h2 =>
    split at h
    · next hk => subst hk; cases h; exact ⟨k, a, b, h1, h2, rfl⟩
    · cases h
  · cases h
theorem gN_ (hT : TabOk P tab) (h : stepQ tab l o = some y) : Val P n W σ l X o y := by
  unfold stepQ at h
  split at h
  · exact k_ h
  · exact j_ h
  · split at h
    · exact aV_ (by assumption) h
    · cases h
  · split at h
    · cases h; exact an_ (by assumption)
    · cases h
  · split at h
    · exact R_ (by assumption) h
    · exact U_ (by assumption) h
    · cases h
  · split at h
    · split at h
      · split at h
        · split at h
          · next j hj =>
            cases hb : Nat.beq j.size 0 with
            | true => rw [hb] at h; cases h
            | false => rw [hb] at h; cases h; exact y_ hT (by assumption) (by assumption) (by assumption) hj hb
          · cases h
        · cases h
      · cases h
    · cases h
  · obtain ⟨k, a, b, h1, h2, rfl⟩ := c5_ h; exact aq_ h1 h2
  · obtain ⟨k, a, b, h1, h2, rfl⟩ := c5_ h; exact aX_ h1 h2
  · obtain ⟨k, a, b, h1, h2, rfl⟩ := c5_ h; exact ay_ h1 h2
  · obtain ⟨k, a, b, h1, h2, rfl⟩ := c5_ h; exact du_ h1 h2
  · obtain ⟨k, a, b, h1, h2, rfl⟩ := c5_ h; exact aI_ h1 h2
  · obtain ⟨k, a, b, h1, h2, rfl⟩ := c5_ h; exact bZ_ h1 h2
  · cases h
def autoQ (tab : List (Nat × TI)) (n : Nat) (ops : Array Oper) : Nat → List Oper → Slots → Option (List Oper × Slots)
  | 0, rest, l => some (rest, l)
  | _ + 1, [], _ => none
  | k + 1, o :: rest, l => match lt? o.dst n with
    | false => none
    | true => match gd ops l o with
      | some true => match stepQ tab l o with
        | some y => autoQ tab n ops k rest (put? l o.dst y)
        | none => none
      | some false => autoQ tab n ops k rest (put? l o.dst (.v undef))
      | none => none
theorem iu_ (hT : TabOk P tab) : ∀ (k : Nat) {rest : List Oper} {l : Slots}, autoQ tab n ops k rest l = some (rest', l') → SL P ops rest' (St n W σ l') Q → SL P ops rest (St n W σ l) Q
  | 0, _, _, h, K => by unfold autoQ at h; cases h; exact K
  | _ + 1, [], _, h, _ => by unfold autoQ at h; cases h
  | k + 1, o :: rest, l, h, K => by
    unfold autoQ at h
    cases hd : lt? o.dst n with
    | false => rw [hd] at h; cases h
    | true =>
      rw [hd] at h
      dsimp only at h
      split at h
      · next hg =>
        split at h
        · next y hy => exact b_ (gN_ hT hy) hg hd (iu_ hT k h K)
        · cases h
      · next hg => exact af_ hg hd (iu_ hT k h K)
      · cases h
end
section
variable {n : Nat} {W : Wd} {σ : Blks} {l l' : Slots} {ops : Array Oper} {rest rest' : List Oper} {Q : Exit → Act → World → Prop}
theorem q_ (k : Nat) (h : autoQ tab n ops k rest l = some (rest', l')) (K : SL Tryz.prog ops rest' (St n W σ l') Q) : SL Tryz.prog ops rest (St n W σ l) Q := iu_ tabOk k h K
end
section
variable {x y a b c d e f g h : It} {σ τ : Blks}
theorem u0_ : Upd x y (x :: σ) (y :: σ) := Upd.here
theorem u1_ : Upd x y (a :: x :: σ) (a :: y :: σ) := Upd.there u0_
theorem u2_ : Upd x y (a :: b :: x :: σ) (a :: b :: y :: σ) := Upd.there u1_
theorem u3_ : Upd x y (a :: b :: c :: x :: σ) (a :: b :: c :: y :: σ) := Upd.there u2_
theorem u4_ : Upd x y (a :: b :: c :: d :: x :: σ) (a :: b :: c :: d :: y :: σ) := Upd.there u3_
theorem u5_ : Upd x y (a :: b :: c :: d :: e :: x :: σ) (a :: b :: c :: d :: e :: y :: σ) := Upd.there u4_
end
section
variable {P : Program} {n : Nat} {W : Wd} {ops : Array Oper} {l : Slots} {σ σ1 τ : Blks} {X : List Nat} {Q : Exit → Act → World → Prop} {ix : Plan} {ι : Type} {τ' : ι → Blks} {K : Blks → ι → Prop} {res : ι → Abs} {fn : Func} {G : List Nat} {w0 : World} {σ0 : Blks} {rs : List ResultVar} {vs vs2 : List Abs}
theorem ap_ (k : ∀ z, K σ z) (h : Reads σ σ1 := by repeat (first | exact Reads.nil | (refine Reads.blk ?_ ?_; focus ((repeat first|assumption|exact List.mem_cons_self|apply List.mem_cons_of_mem); done)) | (refine Reads.rd ?_ ?_; focus ((repeat first|assumption|exact List.mem_cons_self|apply List.mem_cons_of_mem); done)) | (refine Reads.pc ?_ ?_; focus ((repeat first|assumption|exact List.mem_cons_self|apply List.mem_cons_of_mem); done)) | (refine Reads.rdpc ?_ ?_; focus ((repeat first|assumption|exact List.mem_cons_self|apply List.mem_cons_of_mem); done)))) (hτ : ∀ z, τ' z = [] := by exact fun _ => rfl) : After σ σ1 τ' K := bp_ h hτ k
theorem hx_ (k : (∀ k ∈ X, k ∈ mids σ) → SX P ops ix X (St n W σ l) Q) (h : ∀ k ∈ X, k ∈ mids σ := by first | (simp [mids, It.mids, ownPc]; done) | (intro k hk; simp [mids, It.mids, ownPc] at hk ⊢; grind)) : SX P ops ix X (St n W σ l) Q := k h
theorem f_ (hr : fn.results = rs.toArray) (h : RV P n ⟨w0, mids σ0, G⟩ σ l rs vs) (z : ι) (hsub : (τ' z).Sublist σ) (hres : retA vs = res z) (hro : ∀ x ∈ τ' z, x.rids = [] := by simp [It.rids]) : SE .ret (St n ⟨w0, mids σ0, G⟩ σ l) (bodyPost P fn (Post G σ0 τ' res w0)) := SE.fin hr h z hsub hro hres
theorem fC_ (hr : fn.results = rs.toArray) (h : RV P n ⟨w0, mids σ0, G⟩ σ l rs vs) (hca : Casts vs vs2) (z : ι) (hsub : (τ' z).Sublist σ) (hres : retA vs2 = res z) (hro : ∀ x ∈ τ' z, x.rids = [] := by simp [It.rids]) : SE .ret (St n ⟨w0, mids σ0, G⟩ σ l) (bodyPost P fn (Post G σ0 τ' res w0)) := lM_ hr h hca z hsub hro hres
end
section
variable {P : Program} {n : Nat} {W : Wd} {σ : Blks} {l l' : Slots} {X : List Nat} {o : Oper} {tab : List (Nat × TI)} {ops : Array Oper} {ix ix' : Plan} {rest : List Oper} {Q : Exit → Act → World → Prop} {Y : List Nat}
def autoX (tab : List (Nat × TI)) (n : Nat) (ops : Array Oper) : Nat → Plan → Slots → Option (Plan × Slots)
  | 0, ix, l => some (ix, l)
  | k + 1, .q i ix, l => match ops[i]? with
    | none => none
    | some o => match lt? o.dst n with
      | false => none
      | true => match gd ops l o with
        | some true => match stepQ tab l o with
          | some y => autoX tab n ops k ix (put? l o.dst y)
          | none => none
        | some false => autoX tab n ops k ix (put? l o.dst (.v undef))
        | none => none
  | _ + 1, _, _ => none
theorem gF_ (hT : TabOk P tab) (hX : ∀ k ∈ X, k ∈ mids σ) : ∀ (k : Nat) {ix : Plan} {l : Slots}, autoX tab n ops k ix l = some (ix', l') → SX P ops ix' X (St n W σ l') Q → SX P ops ix X (St n W σ l) Q
  | 0, _, _, h, K => by unfold autoX at h; cases h; exact K
  | k + 1, ix, l, h, K => by
    unfold autoX at h
    split at h
    · cases h; next h0 => cases h0
    · next h0 =>
      cases h0
      split at h
      · cases h
      · next o ho =>
        split at h
        · cases h
        · next hd =>
          split at h
          · next hg =>
            split at h
            · next y hy => exact l_ ho (gN_ hT hy) hX hg hd (gF_ hT hX _ h K)
            · cases h
          · next hg => exact bq_ ho hg hd (gF_ hT hX _ h K)
          · cases h
    · cases h
theorem e_ {y0 : Abs} {τ0 : Blks} (hv : Eff P n W σ l Y o fun y τ => y = y0 ∧ τ = τ0) (hg : gd ops l o = some true) (hd : lt? o.dst n = true) (k : SL P ops rest (St n W τ0 (put? l o.dst y0)) Q) : SL P ops (o :: rest) (St n W σ l) Q := az_ hv hg hd (by rintro _ _ ⟨rfl, rfl⟩; exact k)
theorem eb_ {ι : Type} {y0 : ι → Abs} {τ0 : ι → Blks} (hv : Eff P n W σ l Y o fun y τ => ∃ b, y = y0 b ∧ τ = τ0 b) (hg : gd ops l o = some true) (hd : lt? o.dst n = true) (k : ∀ b, SL P ops rest (St n W (τ0 b) (put? l o.dst (y0 b))) Q) : SL P ops (o :: rest) (St n W σ l) Q := az_ hv hg hd (by rintro _ _ ⟨b, rfl, rfl⟩; exact k b)
theorem ex_ {i : Nat} {y0 : Abs} {τ0 : Blks} (hi : ops[i]? = some o) (hv : Eff P n W σ l Y o fun y τ => y = y0 ∧ τ = τ0) (hY : ∀ k ∈ Y, k ∈ X) (hg : gd ops l o = some true) (hd : lt? o.dst n = true) (k : SX P ops ix X (St n W τ0 (put? l o.dst y0)) Q) : SX P ops (.e i ix) X (St n W σ l) Q := et_ hi hv hY hg hd (by rintro _ _ ⟨rfl, rfl⟩; exact k)
theorem exb_ {i : Nat} {ι : Type} {y0 : ι → Abs} {τ0 : ι → Blks} (hi : ops[i]? = some o) (hv : Eff P n W σ l Y o fun y τ => ∃ b, y = y0 b ∧ τ = τ0 b) (hY : ∀ k ∈ Y, k ∈ X) (hg : gd ops l o = some true) (hd : lt? o.dst n = true) (k : ∀ b, SX P ops ix X (St n W (τ0 b) (put? l o.dst (y0 b))) Q) : SX P ops (.e i ix) X (St n W σ l) Q := et_ hi hv hY hg hd (by rintro _ _ ⟨b, rfl, rfl⟩; exact k b)
end
section
variable {n : Nat} {W : Wd} {σ : Blks} {l l' : Slots} {ops : Array Oper} {X : List Nat} {ix ix' : Plan} {Q : Exit → Act → World → Prop}
theorem qx_ (k : Nat) (hX : ∀ k ∈ X, k ∈ mids σ) (h : autoX tab n ops k ix l = some (ix', l')) (K : SX Tryz.prog ops ix' X (St n W σ l') Q) : SX Tryz.prog ops ix X (St n W σ l) Q := gF_ tabOk hX k h K
theorem qs_ (k : Nat) (h : autoX tab n ops k ix l = some (ix', l')) (K : SX Tryz.prog ops ix' X (St n W σ l') Q) (hX : ∀ k ∈ X, k ∈ mids σ := by simp) : SX Tryz.prog ops ix X (St n W σ l) Q := gF_ tabOk hX k h K
end
end Go.Proofs.YtggajaigfkekhaaGreat.A
namespace Go.Proofs.YtggajaigfkekhaaGreat
open Go.RowKit
def Rd.as (s t : Rd) : Prop := s.l = t.l ∧ s.e = t.e
section
variable {s t : Rd}
theorem Rd.as.bad (h : s.as t) (n : Int) : s.bad n ↔ t.bad n := by unfold Rd.bad; rw [h.1]
theorem Rd.as.fixed (h : s.as t) (n : Int) : (s.fixed n).as (t.fixed n) := by
  unfold Rd.fixed Rd.as
  by_cases he : t.e = 0
  · have he' : s.e = 0 := by rw [h.2, he]
    by_cases hb : t.bad n
    · simp [he, he', hb, (h.bad n).2 hb, h.1]
    · have hb' : ¬ s.bad n := fun x => hb ((h.bad n).1 x)
      simp [he, he', hb, hb', h.1]
  · have he' : s.e ≠ 0 := by rw [h.2]; exact he
    simp [he, h.1, h.2]
theorem Rd.as.out (h : s.as t) (n : Int) : s.out n = t.out n := by
  unfold Rd.out
  rw [h.1, h.2]
  by_cases hb : t.bad n
  · simp [hb, (h.bad n).2 hb]
  · have hb' : ¬ s.bad n := fun x => hb ((h.bad n).1 x)
    simp [hb, hb']
theorem Rd.as.num (h : s.as t) (n : Int) : s.num n = t.num n := by unfold Rd.num; rw [h.out]
theorem Rd.as.row (h : s.as t) (most : Int) : (s.row most).as (t.row most) := by
  have h1 := h.fixed 4
  unfold Rd.row
  rw [h1.2, h.num 4]
  split
  · exact h1
  · split
    · exact ⟨h1.1, rfl⟩
    · exact h1.fixed _
theorem Rd.as.rowOut (h : s.as t) (most : Int) : s.rowOut most = t.rowOut most := by
  have h1 := h.fixed 4
  unfold Rd.rowOut
  rw [h1.2, h.num 4, h1.out]
theorem Rd.as.end_ (h : s.as t) : s.end_ = t.end_ := by unfold Rd.end_; rw [h.1, h.2]
end
def Rd.of (l : List UInt8) : Rd := ⟨.slice none 0 0, l, 0⟩
theorem of_as (z : Value) (l : List UInt8) : (⟨z, l, 0⟩ : Rd).as (Rd.of l) := ⟨rfl, rfl⟩
theorem Rd.rowOut_length (s : Rd) (most : Int) : (s.rowOut most).length ≤ s.l.length := by
  have h1 := s.fixed_length 4
  unfold Rd.rowOut
  split
  · simp
  · split
    · simp
    · unfold Rd.out
      split
      · simp
      · split
        · simp
        · simp; omega
section
variable {P : Program} {n : Nat} {l : Slots} {D : World → Prop} {x y : Operand} {d : Option Nat} {ty t t' : TypeId} {pos : String} {aft : Array Edge} {g : Option (Nat × Bool)}
theorem Val.minN {k : IntKind} {i j : Nat} {b : Int} (hx : look l x = some (.int k i)) (hy : look l y = some (.int k b)) (hb : b = (j : Nat)) : Val P n l D ⟨d, .call { callee := .builtin .min, args := #[x, y], argTypes := #[t, t'] }, ty, pos, aft, g⟩ (.int k ((min i j : Nat) : Int)) := by
  subst hb
  have := jw_ (P := P) (n := n) (D := D) (d := d) (t := t) (t' := t') (ty := ty) (pos := pos) (aft := aft) (g := g) hx hy
  rw [show (min (i : Int) (j : Int)) = ((min i j : Nat) : Int) by omega] at this
  exact this
end
end Go.Proofs.YtggajaigfkekhaaGreat
namespace Go.Proofs.YtggajaigfkekhaaGreat.A
open Go.RowKit
abbrev int (x : Int) : Abs := .v (.int .i64 x)
abbrev wrd (x : Nat) : Abs := .v (.int .u64 (x : Nat))
abbrev boo (b : Bool) : Abs := .v (.bool b)
abbrev ptr (b : Nat) : Abs := .v (.pointer (some ⟨b, 0, none⟩))
abbrev rdA (T : TypeId) (p : Nat) (s : Rd) : It := .blk p T [byt s.l, int s.e]
section
variable {P : Program} {f : FuncId}
abbrev flat {α : Type} (s : Nat) (c : α → List Value) (xs : List α) : Abs := .sl s (xs.map fun a => (c a).map .v)
theorem aO_ {K : List Nat} {w : World} : ∀ {us vs : List Value}, reps K w (us.map .v) vs ↔ vs = us
  | [], vs => Iff.rfl
  | u :: us, vs => by
    constructor
    · rintro ⟨u', us', h1, h2, h3⟩
      have h2 : u' = u := h2
      rw [h1, h2, aO_.1 h3]
    · rintro rfl; exact ⟨u, us, rfl, rfl, aO_.2 rfl⟩
theorem cZ_ {K : List Nat} {w : World} {α : Type} {s : Nat} {c : α → List Value} (hc : ∀ a, (c a).length = s) : ∀ {xs : List α} {us : List Value}, repss K w s (xs.map fun a => (c a).map .v) us ↔ us = xs.flatMap c
  | [], us => Iff.rfl
  | x :: xs, us => by
    constructor
    · rintro ⟨u1, u2, h1, h2, h3, h4⟩
      rw [h1, aO_.1 h3, (cZ_ hc).1 h4, List.flatMap_cons]
    · rintro rfl
      exact ⟨c x, _, rfl, hc x, aO_.2 rfl, (cZ_ hc).2 rfl⟩
theorem b2_ {K : List Nat} {w : World} {α : Type} {s : Nat} {c : α → List Value} (hc : ∀ a, (c a).length = s) {xs : List α} {x : Value} : rep K w (flat s c xs) x ↔ IsRow K w x xs.length (xs.flatMap c) := by
  constructor
  · rintro ⟨us, h1, h2⟩
    have := (cZ_ hc).1 h2
    subst this
    simpa using h1
  · intro h
    exact ⟨_, by simpa using h, (cZ_ hc).2 rfl⟩
theorem Spec.ofRdG {T p : Nat} {s t : Rd} {vals : List Value} {res : Abs} (h : ∀ (S : List (World × List Nat)) (σ2 : Proofs.YtggajaigfkekhaaGreat.Blks) (ρ : List Dt) (w : World) (v : Value), Proofs.YtggajaigfkekhaaGreat.Mem S (rdI T p ⟨v, s.l, s.e⟩ :: σ2) ρ w → bytesD v s.l ∈ ρ →
    Calls P f vals.toArray w fun e w' => ∃ r v' ρ', e = .returned r ∧ Proofs.YtggajaigfkekhaaGreat.Mem S (rdI T p ⟨v', t.l, t.e⟩ :: σ2) ρ' w' ∧ bytesD v' t.l ∈ ρ' ∧ ∀ K', (∀ x n cs, rowD x n cs ∈ ρ' → IsRow K' w' x n cs) → rep K' w' res r) : Spec P f (vals.map .v) [rdA T p s] (fun _ : Unit => [rdA T p t]) (fun _ => res) := fun G w vs hm hv => by
  have := aO_.1 hv
  subst this
  obtain ⟨us, hb, v, us', h1, h2, e, us2, h3, h4, h5⟩ := hm.hold (rdA T p s) (by simp)
  have h4 : e = .int .i64 s.e := h4
  have h5 : us2 = [] := h5
  subst h5 h4 h3 h1
  have h2 := bj_.1 h2
  have hpG : p ∉ G := hm.sep p (by simp [mids, It.mids])
  have hw2 : Proofs.YtggajaigfkekhaaGreat.Mem [(w, p :: G)] (rdI T p ⟨v, s.l, s.e⟩ :: [old2 w G]) [bytesD v s.l] w := by
    refine ⟨fun s hs => ?_, fun x hx k hk s hs => ?_, ?_, fun x hx => ?_, fun z hz => ?_⟩
    · rw [List.mem_singleton] at hs; subst hs; exact Ext.refl w
    · rw [List.mem_singleton] at hs
      subst hs
      rcases List.mem_cons.1 hx with rfl | hx
      · simp only [Proofs.YtggajaigfkekhaaGreat.It.ids, List.mem_singleton] at hk; exact .inl (by simp [hk])
      · rw [List.mem_singleton] at hx; subst hx
        exact .inl (List.mem_cons_of_mem _ (bt_.1 hk).2)
    · simp only [List.flatMap_cons, List.flatMap_nil, List.append_nil, List.nodup_append]
      refine ⟨by simp [Proofs.YtggajaigfkekhaaGreat.It.ids], List.Nodup.sublist List.filter_sublist List.nodup_range, fun a ha b hb he => ?_⟩
      simp only [Proofs.YtggajaigfkekhaaGreat.It.ids, List.mem_singleton] at ha
      subst ha he
      exact hpG (bt_.1 hb).2
    · rcases List.mem_cons.1 hx with rfl | hx
      · exact hb
      · rw [List.mem_singleton] at hx; subst hx; exact ⟨Nat.le_refl _, fun _ _ _ => rfl⟩
    · rw [List.mem_singleton] at hz; subst hz
      refine h2.grow fun k hk => .inl ?_
      simp only [List.flatMap_cons, List.flatMap_nil, List.append_nil, List.mem_append] at hk
      rcases hk with hk | hk
      · simp only [Proofs.YtggajaigfkekhaaGreat.It.ids, List.mem_singleton] at hk
        simp [mids, It.mids, hk]
      · simp [(bt_.1 hk).2]
  refine (h _ _ _ _ v hw2 (by simp)).mono fun e w' ⟨r, v', ρ', he, hm', hd, hd2⟩ => ?_
  have hx := hm'.ext (w, p :: G) (by simp)
  have ho : _ ∧ _ := hm'.hold (old2 w G) (by simp)
  have hx2 : Ext (mids [rdA T p s]) w w' := ⟨hx.os, hx.tape, hx.output, hx.size, fun k hk hn => by
    by_cases hK : k ∈ G
    · exact ho.2 k hk hK
    · exact hx.block k hk (by simp only [List.mem_cons, not_or]; exact ⟨by simpa [mids, It.mids] using hn, hK⟩)⟩
  have hb' : w'.heap[p]? = some (row T [v', .int .i64 t.e]) := hm'.holds (by simp)
  have hgrow : ∀ (x : Value) (m : Nat) (cs : List Value), rowD x m cs ∈ ρ' → IsRow (mids [rdA T p t] ++ G) w' x m cs := fun _ _ _ hd => (hm'.data hd).grow fun k hk => by
    simp only [List.mem_append] at hk
    refine .inl ?_
    simp only [List.flatMap_cons, List.flatMap_nil, List.append_nil, List.mem_append]
    rcases hk with hk | hk
    · exact .inl (by simpa [mids, It.mids, Proofs.YtggajaigfkekhaaGreat.It.ids] using hk)
    · exact .inr (bt_.2 ⟨hm.old k hk, hk⟩)
  refine ⟨(), r, he, by simp [It.rids], ⟨hx2, fun k hk => .inl hk, fun k hk hg => hpG (by simp [mids, It.mids] at hk; subst hk; exact hg), fun k hk => Nat.lt_of_lt_of_le (hm.old k hk) hx.size, by simp [It.rids], by simp [mids, It.mids], fun x hx => ?_⟩, hd2 _ hgrow⟩
  rw [List.mem_singleton] at hx; subst hx
  exact ⟨_, hb', _, _, rfl, bj_.2 (hgrow _ _ _ hd), _, _, rfl, rfl, rfl⟩
theorem Spec.ofRd {T p : Nat} {s t : Rd} {vals : List Value} {u : Value} (h : ∀ (S : List (World × List Nat)) (σ2 : Proofs.YtggajaigfkekhaaGreat.Blks) (ρ : List Dt) (w : World) (v : Value), Proofs.YtggajaigfkekhaaGreat.Mem S (rdI T p ⟨v, s.l, s.e⟩ :: σ2) ρ w → bytesD v s.l ∈ ρ →
    Calls P f vals.toArray w fun e w' => ∃ v' ρ', e = .returned u ∧ Proofs.YtggajaigfkekhaaGreat.Mem S (rdI T p ⟨v', t.l, t.e⟩ :: σ2) ρ' w' ∧ bytesD v' t.l ∈ ρ') : Spec P f (vals.map .v) [rdA T p s] (fun _ : Unit => [rdA T p t]) (fun _ => .v u) :=
  Spec.ofRdG fun S σ2 ρ w v hw hd => (h S σ2 ρ w v hw hd).mono fun _ _ ⟨v', ρ', h1, h2, h3⟩ => ⟨u, v', ρ', h1, h2, h3, fun _ _ => rfl⟩
theorem Spec.ofRdB {T p : Nat} {s t : Rd} {vals : List Value} {out : List UInt8} (h : ∀ (S : List (World × List Nat)) (σ2 : Proofs.YtggajaigfkekhaaGreat.Blks) (ρ : List Dt) (w : World) (v : Value), Proofs.YtggajaigfkekhaaGreat.Mem S (rdI T p ⟨v, s.l, s.e⟩ :: σ2) ρ w → bytesD v s.l ∈ ρ →
    Calls P f vals.toArray w fun e w' => ∃ r v' ρ', e = .returned r ∧ Proofs.YtggajaigfkekhaaGreat.Mem S (rdI T p ⟨v', t.l, t.e⟩ :: σ2) ρ' w' ∧ bytesD v' t.l ∈ ρ' ∧ bytesD r out ∈ ρ') : Spec P f (vals.map .v) [rdA T p s] (fun _ : Unit => [rdA T p t]) (fun _ => byt out) :=
  Spec.ofRdG fun S σ2 ρ w v hw hd => (h S σ2 ρ w v hw hd).mono fun _ _ ⟨r, v', ρ', h1, h2, h3, h4⟩ => ⟨r, v', ρ', h1, h2, h3, fun _ hK => bj_.2 (hK _ _ _ h4)⟩
theorem Pure.ofB {l out : List UInt8} {rest : List Value} (h : ∀ (S : List (World × List Nat)) (σ2 : Proofs.YtggajaigfkekhaaGreat.Blks) (ρ : List Dt) (w : World) (v : Value), Proofs.YtggajaigfkekhaaGreat.Mem S σ2 ρ w → bytesD v l ∈ ρ →
    Calls P f (v :: rest).toArray w fun e w' => ∃ r ρ', e = .returned r ∧ Proofs.YtggajaigfkekhaaGreat.Mem S σ2 ρ' w' ∧ bytesD r out ∈ ρ') : Pure P f (byt l :: rest.map .v) (byt out) := Pure.of2 fun K w vals hK hv => by
  obtain ⟨v, us', rfl, h1, h2⟩ := hv
  have := aO_.1 h2
  subst this
  refine (h _ _ _ _ v ((enter2 w K).add (z := bytesD v l) (row2 (bj_.1 h1))) (by simp)).mono fun e w' ⟨r, ρ', he, hm, hd⟩ => ⟨r, he, leave2 hm (by simp), bj_.2 (row3 hK ?_ (hm.data hd))⟩
  intro k hk hkK
  simp only [List.flatMap_cons, List.flatMap_nil, List.append_nil]
  exact bt_.2 ⟨hk, hkK⟩
theorem Pure.ofBB {l m out : List UInt8} (h : ∀ (S : List (World × List Nat)) (σ2 : Proofs.YtggajaigfkekhaaGreat.Blks) (ρ : List Dt) (w : World) (v r : Value), Proofs.YtggajaigfkekhaaGreat.Mem S σ2 ρ w → bytesD v l ∈ ρ → bytesD r m ∈ ρ →
    Calls P f #[v, r] w fun e w' => ∃ r ρ', e = .returned r ∧ Proofs.YtggajaigfkekhaaGreat.Mem S σ2 ρ' w' ∧ bytesD r out ∈ ρ') : Pure P f [byt l, byt m] (byt out) := Pure.of2 fun K w vals hK hv => by
  obtain ⟨v, us', rfl, h1, r, us2, rfl, h2, h3⟩ := hv
  have h3 : us2 = [] := h3
  subst h3
  refine (h _ _ _ _ v r (((enter2 w K).add (z := bytesD v l) (row2 (bj_.1 h1))).add (z := bytesD r m) (row2 (bj_.1 h2))) (by simp) (by simp)).mono fun e w' ⟨r, ρ', he, hm, hd⟩ => ⟨r, he, leave2 hm (by simp), bj_.2 (row3 hK ?_ (hm.data hd))⟩
  intro k hk hkK
  simp only [List.flatMap_cons, List.flatMap_nil, List.append_nil]
  exact bt_.2 ⟨hk, hkK⟩
end
section
variable {l m : List UInt8} {p : Nat} {s : Rd}
theorem put_s {x : Nat} {n : Int} (hl : l.length ≤ lots) (hx : x < 18446744073709551616) (hn : sizeB n = true) : Pure Tryz.prog 76 [byt l, wrd x, int n] (byt (l ++ beBytes x n.toNat)) :=
  Pure.ofB (rest := [_, _]) fun _ _ _ _ _ hw hd => (fw_ hw (hw.bytes hd) hl hx hn).mono fun _ _ ⟨r, h1, h2⟩ => ⟨r, _, h1, h2, by simp⟩
theorem em_ {x n : Nat} (hl : l.length + 8 ≤ lots) (hn : sizeB n = true) : Pure Tryz.prog 80 [byt l, wrd x, int n] (byt (l ++ beBytes x n)) :=
  Pure.ofB (rest := [_, _]) fun _ _ _ _ _ hw hd => (e1_ hw hd hl hn).mono fun _ _ ⟨r, h1, h2⟩ => ⟨r, _, h1, h2, by simp⟩
theorem row_s (hl : l.length + m.length + 4 ≤ lots) (hm : m.length < 4294967296) : Pure Tryz.prog 112 [byt l, byt m] (byt (l ++ beBytes m.length 4 ++ m)) :=
  Pure.ofBB fun _ _ _ _ _ _ hw hd hd2 => (dY_ hw hd hd2 hl hm).mono fun _ _ ⟨r, h1, h2⟩ => ⟨r, _, h1, h2, by simp⟩
theorem rrow_s (hl : l.length + m.length + 8 ≤ lots) (hm : m.length < 4294967296) : Pure Tryz.prog 115 [byt l, byt m] (byt (l ++ beBytes m.length 4 ++ m)) :=
  Pure.ofBB fun _ _ _ _ _ _ hw hd hd2 => (eA_ hw hd hd2 hl hm).mono fun _ _ ⟨r, h1, h2⟩ => ⟨r, _, h1, h2, by simp⟩
abbrev TR : Nat := 169
abbrev pv (p : Nat) : Value := .pointer (some ⟨p, 0, none⟩)
theorem d6_ (v : Value) (s : Rd) : (⟨v, s.l, s.e⟩ : Rd).as s := ⟨rfl, rfl⟩
theorem iN_ {T : Nat} {s t : Rd} (h : s.as t) : rdI T p s = rdI T p ⟨s.v, t.l, t.e⟩ := by rw [rdI, rdI, h.2]
theorem _root_.Go.Proofs.YtggajaigfkekhaaGreat.Rd.as.count {s t : Rd} (h : s.as t) (most : Int) : (s.count most).as (t.count most) := by
  unfold Rd.count
  rw [(h.fixed 2).2, h.num]
  split
  · exact ⟨(h.fixed 2).1, rfl⟩
  · exact h.fixed 2
theorem _root_.Go.Proofs.YtggajaigfkekhaaGreat.Rd.as.countN {s t : Rd} (h : s.as t) (most : Int) : s.countN most = t.countN most := by
  unfold Rd.countN
  rw [(h.fixed 2).2, h.num]
theorem dB_ {n : Int} (hl : s.l.length ≤ lots) (hn : sizeB n = true) : Spec Tryz.prog 71 [ptr p, int n] [rdA TR p s] (fun _ : Unit => [rdA TR p (s.fixed n)]) (fun _ => wrd (s.num n)) :=
  Spec.ofRd (vals := [pv p, .int .i64 n]) fun _ _ _ _ v hw hd => (bn_ hw .here hd hl hn).mono fun _ _ ⟨h1, h2⟩ => ⟨_, _, by rw [h1, (d6_ v s).num], iN_ ((d6_ v s).fixed n) ▸ h2, by rw [← ((d6_ v s).fixed n).1]; simp⟩
theorem ld_ {n : Int} (hl : s.l.length ≤ lots) : Spec Tryz.prog 72 [ptr p, int n] [rdA TR p s] (fun _ : Unit => [rdA TR p (s.count n)]) (fun _ => int (s.countN n : Nat)) :=
  Spec.ofRd (vals := [pv p, .int .i64 n]) fun _ _ _ _ v hw hd => (count_c hw .here hd hl).mono fun _ _ ⟨h1, h2⟩ => ⟨_, _, by rw [h1, (d6_ v s).countN], iN_ ((d6_ v s).count n) ▸ h2, by rw [← ((d6_ v s).count n).1]; simp⟩
theorem fixed_s {n : Int} (hl : s.l.length ≤ lots) : Spec Tryz.prog 73 [ptr p, int n] [rdA TR p s] (fun _ : Unit => [rdA TR p (s.fixed n)]) (fun _ => byt (s.out n)) :=
  Spec.ofRdB (vals := [pv p, .int .i64 n]) fun _ _ _ _ v hw hd => (h2_ hw .here hd hl).mono fun _ _ ⟨r, h1, h2⟩ => ⟨r, _, _, h1, iN_ ((d6_ v s).fixed n) ▸ h2, by rw [← ((d6_ v s).fixed n).1]; simp, by rw [(d6_ v s).out]; simp⟩
theorem rowr_s {n : Int} (hl : s.l.length ≤ lots) (hn : 0 ≤ n ∧ n ≤ 9223372036854775807) : Spec Tryz.prog 110 [ptr p, int n] [rdA TR p s] (fun _ : Unit => [rdA TR p (s.row n)]) (fun _ => byt (s.rowOut n)) :=
  Spec.ofRdB (vals := [pv p, .int .i64 n]) fun _ _ _ _ v hw hd => (row_c hw .here hd hl hn).mono fun _ _ ⟨r, h1, h2⟩ => ⟨r, _, _, h1, iN_ ((d6_ v s).row n) ▸ h2, by rw [← ((d6_ v s).row n).1]; simp, by rw [(d6_ v s).rowOut]; simp⟩
theorem end_s : Spec Tryz.prog 75 [ptr p] [rdA TR p s] (fun _ : Unit => [rdA TR p s]) (fun _ => int s.end_) :=
  Spec.ofRd (vals := [pv p]) fun _ _ _ _ v hw hd => (end_c (s := ⟨v, s.l, s.e⟩) hw List.mem_cons_self hd).mono fun _ _ ⟨h1, h2⟩ => ⟨v, _, by rw [h1, (d6_ v s).end_], h2, hd⟩
theorem read_s (hl : l.length ≤ lots) : Spec Tryz.prog 70 [byt l] [] (fun p : Nat => [rdA TR p (Rd.of l)]) (fun p => ptr p) := fun G w vals hm hv => by
  obtain ⟨v, us', rfl, h1, h2⟩ := hv
  have h2 : us' = [] := h2
  subst h2
  refine (ky_ ((enter2 w G).add (z := bytesD v l) (row2 (bj_.1 h1))) (by simp) hl).mono fun e w' ⟨p, z, he, hm2⟩ => ?_
  have hx := leave2 hm2 (by simp)
  have hb : w'.heap[p]? = some (row TR [z, .int .i64 0]) := hm2.holds (by simp)
  have hd := hm2.data (z := bytesD z l) (by simp)
  have hpn : w.heap.size ≤ p := by
    have h3 := hm2.out _ (List.mem_cons_self) p (by simp [Proofs.YtggajaigfkekhaaGreat.It.ids]) (w, G) (by simp)
    rcases h3 with h3 | h3
    · have h4 := hm2.nodup
      simp only [List.flatMap_cons, List.flatMap_nil, List.append_nil, List.nodup_append] at h4
      exact absurd rfl (h4.2.2 p (by simp [Proofs.YtggajaigfkekhaaGreat.It.ids]) p (bt_.2 ⟨hm.old p h3, h3⟩))
    · exact h3
  refine ⟨p, _, he, by simp [It.rids], ⟨hx, fun k hk => ?_, fun k hk hg => ?_, fun k hk => Nat.lt_of_lt_of_le (hm.old k hk) hx.size, by simp [It.rids], by simp [mids, It.mids], fun x hxm => ?_⟩, rfl⟩
  · simp [mids, It.mids] at hk; subst hk; exact .inr hpn
  · simp [mids, It.mids] at hk; subst hk; have := hm.old k hg; omega
  · rw [List.mem_singleton] at hxm; subst hxm
    refine ⟨_, hb, _, _, rfl, bj_.2 (hd.grow fun k hk => .inl ?_), _, _, rfl, rfl, rfl⟩
    simp only [List.flatMap_cons, List.flatMap_nil, List.append_nil, List.mem_append] at hk ⊢
    rcases hk with hk | hk
    · exact .inl (by simpa [mids, It.mids, Proofs.YtggajaigfkekhaaGreat.It.ids] using hk)
    · exact .inr (bt_.2 ⟨hm.old k hk, hk⟩)
end
end Go.Proofs.YtggajaigfkekhaaGreat.A
namespace Go.Proofs.YtggajaigfkekhaaGreat
open Go.RowKit
def nameC (c : Nat) : Bool := (decide (97 ≤ c) && decide (c ≤ 122)) || (decide (48 ≤ c) && decide (c ≤ 57)) || decide (c = 45)
def nameB (s : ByteArray) : Bool := s.data.toList.all (fun c => nameC c.toNat) && decide (1 ≤ s.size) && decide (s.size ≤ 16)
section
variable {S : List (World × List Nat)} {σ τ : Blks} {ρ : List Dt} {w : World}
theorem ht_ {s : ByteArray} {k : Nat} (h : k < s.size) (hb : nameC (s[k]'h).toNat = false) : s.data.toList.all (fun c => nameC c.toNat) = false := by
  rw [List.all_eq_false]
  refine ⟨s[k]'h, ?_, by rw [hb]; decide⟩
  have : s[k]'h = s.data.toList[k]'(by simpa using h) := rfl
  rw [this]
  exact List.getElem_mem _
theorem il_ {s : ByteArray} (hp : ∀ j (hj : j < s.size), nameC (s[j]'hj).toNat = true) : s.data.toList.all (fun c => nameC c.toNat) = true := by
  rw [List.all_eq_true]
  intro c hc
  obtain ⟨j, hj, rfl⟩ := List.getElem_of_mem hc
  exact hp j (by simpa using hj)
theorem odd_c {r : Nat} (hw : Mem S σ ρ w) : Calls Tryz.prog 162 #[.int .i32 r] w fun e w' => e = .returned (.bool (!nameC r)) ∧ Mem S σ ρ w' := by
  refine ad_ [.int .i32 r] Tryz.func162 rfl Tryz.ntmps162 rfl (Mem S σ ρ) hw ?_
  refine d_ (a_ ?_)
  refine b_ (j_ rfl) rfl rfl ?_
  refine g_ (c_ ?_)
  refine d_ (a_ ?_)
  refine b_ (k_ rfl) rfl rfl ?_
  refine b_ (ay_ rfl rfl) rfl rfl ?_
  refine b_ (k_ rfl) rfl rfl ?_
  refine C_ (t := 5) rfl ?_ ?_
  · intro hc5
    iterate 2 refine af_ rfl rfl ?_
    refine b_ (R_ rfl rfl) rfl rfl ?_
    iterate 2 refine b_ (k_ rfl) rfl rfl ?_
    refine b_ (ay_ rfl rfl) rfl rfl ?_
    refine b_ (k_ rfl) rfl rfl ?_
    refine C_ (t := 12) rfl ?_ ?_
    · intro hc12
      iterate 2 refine af_ rfl rfl ?_
      refine b_ (R_ rfl rfl) rfl rfl ?_
      refine b_ (R_ rfl rfl) rfl rfl ?_
      iterate 2 refine b_ (k_ rfl) rfl rfl ?_
      refine b_ (aX_ rfl rfl) rfl rfl ?_
      refine b_ (R_ rfl rfl) rfl rfl ?_
      refine b_ (j_ rfl) rfl rfl ?_
      refine g_ (c_ ?_)
      refine n_ ?_
      refine M_ rfl rfl ?_
      intro w' hw'
      refine ⟨?_, hw'⟩
      congr 2
      rw [Bool.eq_iff_iff]
      simp [nameC]
      omega
    intro hc12
    refine b_ (k_ rfl) rfl rfl ?_
    refine b_ (aI_ rfl rfl) rfl rfl ?_
    refine b_ (U_ rfl rfl) rfl rfl ?_
    refine b_ (R_ rfl rfl) rfl rfl ?_
    refine b_ (k_ rfl) rfl rfl ?_
    refine C_ (t := 17) rfl ?_ ?_
    · intro hc17
      refine b_ (k_ rfl) rfl rfl ?_
      refine b_ (aX_ rfl rfl) rfl rfl ?_
      refine b_ (R_ rfl rfl) rfl rfl ?_
      refine b_ (j_ rfl) rfl rfl ?_
      refine g_ (c_ ?_)
      refine n_ ?_
      refine M_ rfl rfl ?_
      intro w' hw'
      refine ⟨?_, hw'⟩
      congr 2
      rw [Bool.eq_iff_iff]
      simp [nameC]
      omega
    intro hc17
    iterate 2 refine af_ rfl rfl ?_
    refine b_ (U_ rfl rfl) rfl rfl ?_
    refine b_ (j_ rfl) rfl rfl ?_
    refine g_ (c_ ?_)
    refine n_ ?_
    refine M_ rfl rfl ?_
    intro w' hw'
    refine ⟨?_, hw'⟩
    congr 2
    rw [Bool.eq_iff_iff]
    simp [nameC]
    omega
  intro hc5
  refine b_ (k_ rfl) rfl rfl ?_
  refine b_ (aI_ rfl rfl) rfl rfl ?_
  refine b_ (U_ rfl rfl) rfl rfl ?_
  refine b_ (k_ rfl) rfl rfl ?_
  refine C_ (t := 9) rfl ?_ ?_
  rotate_left
  · intro hc9
    iterate 6 refine af_ rfl rfl ?_
    refine b_ (U_ rfl rfl) rfl rfl ?_
    refine b_ (k_ rfl) rfl rfl ?_
    iterate 2 refine af_ rfl rfl ?_
    refine b_ (U_ rfl rfl) rfl rfl ?_
    refine b_ (j_ rfl) rfl rfl ?_
    refine g_ (c_ ?_)
    refine n_ ?_
    refine M_ rfl rfl ?_
    intro w' hw'
    refine ⟨?_, hw'⟩
    congr 2
    rw [Bool.eq_iff_iff]
    simp [nameC]
    omega
  intro hc9
  refine b_ (k_ rfl) rfl rfl ?_
  refine b_ (ay_ rfl rfl) rfl rfl ?_
  refine b_ (k_ rfl) rfl rfl ?_
  refine C_ (t := 12) rfl ?_ ?_
  · intro hc12
    iterate 2 refine af_ rfl rfl ?_
    refine b_ (R_ rfl rfl) rfl rfl ?_
    refine b_ (R_ rfl rfl) rfl rfl ?_
    iterate 2 refine b_ (k_ rfl) rfl rfl ?_
    refine b_ (aX_ rfl rfl) rfl rfl ?_
    refine b_ (R_ rfl rfl) rfl rfl ?_
    refine b_ (j_ rfl) rfl rfl ?_
    refine g_ (c_ ?_)
    refine n_ ?_
    refine M_ rfl rfl ?_
    intro w' hw'
    refine ⟨?_, hw'⟩
    congr 2
    rw [Bool.eq_iff_iff]
    simp [nameC]
    omega
  intro hc12
  refine b_ (k_ rfl) rfl rfl ?_
  refine b_ (aI_ rfl rfl) rfl rfl ?_
  refine b_ (U_ rfl rfl) rfl rfl ?_
  refine b_ (R_ rfl rfl) rfl rfl ?_
  refine b_ (k_ rfl) rfl rfl ?_
  refine C_ (t := 17) rfl ?_ ?_
  · intro hc17
    refine b_ (k_ rfl) rfl rfl ?_
    refine b_ (aX_ rfl rfl) rfl rfl ?_
    refine b_ (R_ rfl rfl) rfl rfl ?_
    refine b_ (j_ rfl) rfl rfl ?_
    refine g_ (c_ ?_)
    refine n_ ?_
    refine M_ rfl rfl ?_
    intro w' hw'
    refine ⟨?_, hw'⟩
    congr 2
    rw [Bool.eq_iff_iff]
    simp [nameC]
    omega
  intro hc17
  iterate 2 refine af_ rfl rfl ?_
  refine b_ (U_ rfl rfl) rfl rfl ?_
  refine b_ (j_ rfl) rfl rfl ?_
  refine g_ (c_ ?_)
  refine n_ ?_
  refine M_ rfl rfl ?_
  intro w' hw'
  refine ⟨?_, hw'⟩
  congr 2
  rw [Bool.eq_iff_iff]
  simp [nameC]
  omega
set_option maxHeartbeats 400000 in
theorem jP_ {s : ByteArray} (hw : Mem S σ ρ w) (_hs : s.size ≤ 16) : Calls Tryz.prog 166 #[.string s, .func (.func 162) #[] #[], .bool true] w fun e w' => ∃ r : Int, e = .returned (.int .i64 r) ∧ (0 ≤ r ↔ s.data.toList.all (fun c => nameC c.toNat) = false) ∧ Mem S σ ρ w' := by
  refine ad_ [.string s, .func (.func 162) #[] #[], .bool true] Tryz.func166 rfl Tryz.ntmps166 rfl (Mem S σ ρ) hw ?_
  refine d_ (a_ ?_)
  refine b_ (j_ rfl) rfl rfl ?_
  refine g_ (c_ ?_)
  refine d_ ?_
  refine d_ (a_ ?_)
  refine b_ (k_ rfl) rfl rfl ?_
  refine az_ (ix_ rfl Tryz.underlying9) rfl rfl ?_
  rintro _ _ ⟨b10, rfl, rfl⟩
  refine g_ (c_ ?_)
  refine t_ ?_
  refine S_ (ι := Nat) (fun k => [(1, .func (.func 162) #[] #[]), (2, .bool true), (10, .pointer (some ⟨b10, 0, none⟩))]) (fun k w' => (k ≤ s.size ∧ ∀ j (hj : j < s.size), j < k → nameC (s[j]'hj).toNat = true) ∧ Mem S (.blk b10 (.stringIter s k) :: σ) ρ w') (fun k => s.size - k) 0 (by exact ⟨rfl, rfl, rfl, trivial⟩) (fun w' hw' => ⟨⟨Nat.zero_le _, fun j hj h => by omega⟩, hw'⟩) ?_
  intro k
  refine a0_ ?_
  rintro ⟨hk, hp⟩
  by_cases hlt : k < s.size
  · have hd := h6_ s k hlt
    have hc := (s[k]'hlt).toNat_lt
    skip
    refine d_ (a_ ?_)
    refine az_ (j8_ rfl .here hlt) rfl rfl ?_
    rintro _ _ ⟨rfl, rfl⟩
    refine b_ (aV_ rfl rfl) rfl rfl ?_
    refine g_ (c_ ?_)
    refine d_ ?_
    refine O_ rfl ?_
    refine p_ ?_
    refine c_ ?_
    refine t_ ?_
    refine d_ (a_ ?_)
    refine b_ (aV_ rfl rfl) rfl rfl ?_
    refine b_ (aV_ rfl rfl) rfl rfl ?_
    iterate 2 refine b_ (j_ rfl) rfl rfl ?_
    refine g_ (c_ ?_)
    refine d_ (a_ ?_)
    iterate 2 refine b_ (k_ rfl) rfl rfl ?_
    refine b5_ rfl (by kernel_rfl) rfl rfl rfl ?_
    intro w hw
    refine (odd_c hw).mono ?_
    rintro _ _ ⟨rfl, hm⟩
    refine ⟨_, _, rfl, hm, ?_⟩
    clear hm hw w
    refine b_ (k_ rfl) rfl rfl ?_
    refine b_ (lG_ rfl rfl (by kernel_rfl)) rfl rfl ?_
    refine g_ (c_ ?_)
    refine ac_ rfl ?_ ?_
    rotate_left
    · intro hodd
      refine p_ ?_
      refine o_ ?_
      simp only [beq_true, Bool.not_eq_false'] at hodd
      have h128 : (s[k]'hlt).toNat < 128 := by
        rcases Nat.lt_or_ge (s[k]'hlt).toNat 128 with h | h
        · exact h
        · have h2 := hd (by omega)
          simp only [nameC, Bool.or_eq_true, Bool.and_eq_true, decide_eq_true_eq] at hodd
          omega
      have e1 := decode_ascii s k hlt h128
      exact x_ (k + 1) (by omega) (by exact ⟨rfl, rfl, rfl, trivial⟩) (fun w' hw' => ⟨⟨hlt, fun j hj h => by
        rcases Nat.lt_or_ge j k with h2 | h2
        · exact hp j hj h2
        · obtain rfl : j = k := by omega
          rw [e1] at hodd; exact hodd⟩, by rw [e1] at hw'; exact hw'⟩)
    intro hodd
    refine d_ (a_ ?_)
    refine b_ (k_ rfl) rfl rfl ?_
    refine b_ (j_ rfl) rfl rfl ?_
    refine g_ (c_ ?_)
    refine n_ ?_
    refine E_ ?_
    refine i_ (by intro h; cases h) ?_
    refine E_ ?_
    refine i_ (by intro h; cases h) ?_
    refine M_ rfl rfl ?_
    intro w' hw'
    refine ⟨_, rfl, ?_, hw'.sub (fun _ h => h) (List.sublist_cons_self _ _)⟩
    rw [ht_ hlt (by
  simp only [beq_true, Bool.not_eq_true'] at hodd
  rcases Nat.lt_or_ge (s[k]'hlt).toNat 128 with h | h
  · rw [decode_ascii s k hlt h] at hodd; exact hodd
  · simp only [nameC, Bool.or_eq_false_iff, Bool.and_eq_false_iff, decide_eq_false_iff_not]; omega)]
    simp
  · skip
    refine d_ (a_ ?_)
    refine b_ (iq_ rfl List.mem_cons_self hlt) rfl rfl ?_
    refine b_ (aV_ rfl rfl) rfl rfl ?_
    refine g_ (c_ ?_)
    refine d_ ?_
    refine V_ rfl ?_
    refine Q_ ?_
    refine i_ (by intro h; cases h) ?_
    refine i_ (by intro h; cases h) ?_
    refine P_ ?_
    refine c_ ?_
    refine d_ (a_ ?_)
    refine b_ (j_ rfl) rfl rfl ?_
    refine g_ (c_ ?_)
    refine n_ ?_
    refine M_ rfl rfl ?_
    intro w' hw'
    refine ⟨_, rfl, ?_, hw'.sub (fun _ h => h) (List.sublist_cons_self _ _)⟩
    rw [il_ fun j hj => hp j hj (by omega)]
    simp
theorem index_c {s : ByteArray} (hw : Mem S σ ρ w) (hs : s.size ≤ 16) : Calls Tryz.prog 165 #[.string s, .func (.func 162) #[] #[]] w fun e w' => ∃ r : Int, e = .returned (.int .i64 r) ∧ (0 ≤ r ↔ s.data.toList.all (fun c => nameC c.toNat) = false) ∧ Mem S σ ρ w' := by
  refine ad_ [.string s, .func (.func 162) #[] #[]] Tryz.func165 rfl Tryz.ntmps165 rfl (Mem S σ ρ) hw ?_
  refine d_ (a_ ?_)
  refine b_ (j_ rfl) rfl rfl ?_
  refine g_ (c_ ?_)
  refine d_ (a_ ?_)
  iterate 2 refine b_ (k_ rfl) rfl rfl ?_
  refine u_ (by kernel_rfl) rfl rfl rfl ?_
  intro w hw
  refine (jP_ hw hs).mono ?_; rintro _ _ ⟨r, rfl, hr, hm⟩; refine ⟨_, _, rfl, hm, ?_⟩; clear hm hw w
  refine b_ (j_ rfl) rfl rfl ?_
  refine g_ (c_ ?_)
  refine n_ ?_
  refine M_ rfl rfl ?_
  intro w' hw'
  exact ⟨_, rfl, hr, hw'⟩
theorem jT_ {s : ByteArray} (hw : Mem S σ ρ w) (hs : s.size ≤ 16) : Calls Tryz.prog 163 #[.string s, .func (.func 162) #[] #[]] w fun e w' => e = .returned (.bool (!s.data.toList.all (fun c => nameC c.toNat))) ∧ Mem S σ ρ w' := by
  refine ad_ [.string s, .func (.func 162) #[] #[]] Tryz.func163 rfl Tryz.ntmps163 rfl (Mem S σ ρ) hw ?_
  refine d_ (a_ ?_)
  refine b_ (j_ rfl) rfl rfl ?_
  refine g_ (c_ ?_)
  refine d_ (a_ ?_)
  iterate 2 refine b_ (k_ rfl) rfl rfl ?_
  refine u_ (by kernel_rfl) rfl rfl rfl ?_
  intro w hw
  refine (index_c hw hs).mono ?_; rintro _ _ ⟨r, rfl, hr, hm⟩; refine ⟨_, _, rfl, hm, ?_⟩; clear hm hw w
  refine b_ (bZ_ rfl rfl) rfl rfl ?_
  refine b_ (j_ rfl) rfl rfl ?_
  refine g_ (c_ ?_)
  refine n_ ?_
  refine M_ rfl rfl ?_
  intro w' hw'
  refine ⟨?_, hw'⟩
  congr 2
  rw [Bool.eq_iff_iff, decide_eq_true_eq, hr]
  simp
theorem isName_c {s : ByteArray} (hw : Mem S σ ρ w) : Calls Tryz.prog 155 #[.string s] w fun e w' => e = .returned (.bool (nameB s)) ∧ Mem S σ ρ w' := by
  have h0 : (s = ⟨#[]⟩) ↔ s.size = 0 := by
    constructor
    · rintro rfl; rfl
    · intro h
      obtain ⟨a⟩ := s
      congr 1
      exact Array.eq_empty_of_size_eq_zero h
  refine ad_ [.string s] Tryz.func155 rfl Tryz.ntmps155 rfl (Mem S σ ρ) hw ?_
  refine d_ (a_ ?_)
  refine b_ (j_ rfl) rfl rfl ?_
  refine g_ (c_ ?_)
  refine d_ (a_ ?_)
  refine b_ (j_ rfl) rfl rfl ?_
  refine g_ (c_ ?_)
  refine d_ (a_ ?_)
  refine b_ (k_ rfl) rfl rfl ?_
  refine b_ (lF_ rfl rfl) rfl rfl ?_
  refine b_ (k_ rfl) rfl rfl ?_
  refine C_ (t := 6) rfl ?_ ?_
  rotate_left
  · intro hc6
    iterate 3 refine af_ rfl rfl ?_
    refine b_ (U_ rfl rfl) rfl rfl ?_
    refine b_ (k_ rfl) rfl rfl ?_
    iterate 4 refine af_ rfl rfl ?_
    refine b_ (U_ rfl rfl) rfl rfl ?_
    refine b_ (j_ rfl) rfl rfl ?_
    refine g_ (c_ ?_)
    refine n_ ?_
    refine M_ rfl rfl ?_
    intro w' hw'
    refine ⟨?_, hw'⟩
    congr 2
    unfold nameB
    rw [Ne, h0] at hc6
    rw [Bool.eq_iff_iff]
    (simp; omega)
  intro hc6
  refine b_ (k_ rfl) rfl rfl ?_
  refine b_ (bH_ rfl Tryz.underlying9) rfl rfl ?_
  refine b_ (du_ rfl rfl) rfl rfl ?_
  refine b_ (R_ rfl rfl) rfl rfl ?_
  refine b_ (k_ rfl) rfl rfl ?_
  refine C_ (t := 11) rfl ?_ ?_
  rotate_left
  · intro hc11
    iterate 4 refine af_ rfl rfl ?_
    refine b_ (U_ rfl rfl) rfl rfl ?_
    refine b_ (j_ rfl) rfl rfl ?_
    refine g_ (c_ ?_)
    refine n_ ?_
    refine M_ rfl rfl ?_
    intro w' hw'
    refine ⟨?_, hw'⟩
    congr 2
    unfold nameB
    rw [Ne, h0] at hc6
    rw [Bool.eq_iff_iff]
    (simp; omega)
  intro hc11
  iterate 2 refine b_ (k_ rfl) rfl rfl ?_
  refine u_ (by kernel_rfl) rfl rfl rfl ?_
  intro w hw
  refine (jT_ hw (by omega)).mono ?_; rintro _ _ ⟨rfl, hm⟩; refine ⟨_, _, rfl, hm, ?_⟩; clear hm hw w
  refine b_ (ai_ rfl) rfl rfl ?_
  refine b_ (R_ rfl rfl) rfl rfl ?_
  refine b_ (j_ rfl) rfl rfl ?_
  refine g_ (c_ ?_)
  refine n_ ?_
  refine M_ rfl rfl ?_
  intro w' hw'
  refine ⟨?_, hw'⟩
  congr 2
  unfold nameB
  rw [Ne, h0] at hc6
  rw [Bool.eq_iff_iff]
  first
    | (simp; omega)
    | (have h1 : 1 ≤ s.size := by omega
       have h2 : s.size ≤ 16 := by omega
       simp [h1, h2])
set_option maxHeartbeats 400000 in
theorem kv_ {s : ByteArray} (hw : Mem S σ ρ w) (hs : s.size ≤ 9223372036854775807) : Calls Tryz.prog 154 #[.string s] w fun e w' => e = .returned (.bool (nameB s)) ∧ Mem S σ ρ w' := by
  refine ad_ [.string s] Tryz.func154 rfl Tryz.ntmps154 rfl (Mem S σ ρ) hw ?_
  refine d_ (a_ ?_)
  refine b_ (j_ rfl) rfl rfl ?_
  refine g_ (c_ ?_)
  refine d_ ?_
  refine d_ (a_ ?_)
  refine b_ (j_ rfl) rfl rfl ?_
  refine g_ (c_ ?_)
  refine t_ ?_
  refine S_ (ι := Nat) (fun k => [(0, .string s), (3, .int .i64 (k : Nat))]) (fun k w' => (k ≤ s.size ∧ ∀ j (hj : j < s.size), j < k → nameC (s[j]'hj).toNat = true) ∧ Mem S σ ρ w') (fun k => s.size - k) 0 (by exact ⟨rfl, rfl, trivial⟩) (fun w' hw' => ⟨⟨Nat.zero_le _, fun j hj h => by omega⟩, hw'⟩) ?_
  intro k
  refine a0_ ?_
  rintro ⟨hk, hp⟩
  refine d_ ?_
  refine d_ (a_ ?_)
  iterate 2 refine b_ (k_ rfl) rfl rfl ?_
  refine b_ (bH_ rfl Tryz.underlying9) rfl rfl ?_
  refine b_ (ay_ rfl rfl) rfl rfl ?_
  refine g_ (c_ ?_)
  refine r_ rfl ?_ ?_
  rotate_left
  · intro hc7
    refine Q_ ?_
    refine i_ (by intro h; cases h) ?_
    refine i_ (by intro h; cases h) ?_
    refine P_ ?_
    refine c_ ?_
    refine d_ (a_ ?_)
    refine b_ (k_ rfl) rfl rfl ?_
    refine b_ (bH_ rfl Tryz.underlying9) rfl rfl ?_
    refine b_ (bZ_ rfl rfl) rfl rfl ?_
    refine b_ (k_ rfl) rfl rfl ?_
    refine C_ (t := 42) rfl ?_ ?_
    · intro hc42
      refine b_ (k_ rfl) rfl rfl ?_
      refine b_ (bH_ rfl Tryz.underlying9) rfl rfl ?_
      refine b_ (du_ rfl rfl) rfl rfl ?_
      refine b_ (R_ rfl rfl) rfl rfl ?_
      refine b_ (j_ rfl) rfl rfl ?_
      refine g_ (c_ ?_)
      refine n_ ?_
      refine M_ rfl rfl ?_
      intro w' hw'
      refine ⟨?_, hw'⟩
      congr 2
      unfold nameB
      (rw [il_ fun j hj => hp j hj (by omega)]; rw [Bool.eq_iff_iff]; simp; omega)
    intro hc42
    iterate 3 refine af_ rfl rfl ?_
    refine b_ (U_ rfl rfl) rfl rfl ?_
    refine b_ (j_ rfl) rfl rfl ?_
    refine g_ (c_ ?_)
    refine n_ ?_
    refine M_ rfl rfl ?_
    intro w' hw'
    refine ⟨?_, hw'⟩
    congr 2
    unfold nameB
    (rw [il_ fun j hj => hp j hj (by omega)]; rw [Bool.eq_iff_iff]; simp; omega)
  intro hc7
  have hlt : k < s.size := by omega
  refine p_ ?_
  refine c_ ?_
  refine d_ ?_
  refine t_ ?_
  refine d_ (a_ ?_)
  iterate 2 refine b_ (k_ rfl) rfl rfl ?_
  refine b_ (aU_ (q := k) rfl rfl rfl hlt Tryz.underlying9) rfl rfl ?_
  refine b_ (bZ_ rfl rfl) rfl rfl ?_
  refine b_ (k_ rfl) rfl rfl ?_
  refine C_ (t := 14) rfl ?_ ?_
  rotate_left
  · intro hc14
    iterate 4 refine af_ rfl rfl ?_
    refine b_ (U_ rfl rfl) rfl rfl ?_
    iterate 3 refine b_ (k_ rfl) rfl rfl ?_
    refine b_ (aU_ (q := k) rfl rfl rfl hlt Tryz.underlying9) rfl rfl ?_
    refine b_ (bZ_ rfl rfl) rfl rfl ?_
    refine b_ (k_ rfl) rfl rfl ?_
    refine C_ (t := 25) rfl ?_ ?_
    rotate_left
    · intro hc25
      iterate 4 refine af_ rfl rfl ?_
      refine b_ (U_ rfl rfl) rfl rfl ?_
      refine b_ (U_ rfl rfl) rfl rfl ?_
      iterate 3 refine b_ (k_ rfl) rfl rfl ?_
      refine b_ (aU_ (q := k) rfl rfl rfl hlt Tryz.underlying9) rfl rfl ?_
      refine b_ (aq_ rfl rfl) rfl rfl ?_
      refine b_ (U_ rfl rfl) rfl rfl ?_
      refine b_ (aL_ rfl) rfl rfl ?_
      refine g_ (c_ ?_)
      refine r_ rfl ?_ ?_
      rotate_left
      · intro hc38
        refine p_ ?_
        refine o_ ?_
        refine c_ ?_
        refine a_ ?_
        refine b_ (k_ rfl) rfl rfl ?_
        refine b_ (s_ rfl rfl (by simp only [InR, lo, hi]; omega)) rfl rfl ?_
        refine b_ (j_ rfl) rfl rfl ?_
        refine g_ ?_
        have hgood : nameC (s[k]'hlt).toNat = true := by
          simp [nameC]
          omega
        exact x_ (k + 1) (by omega) (by exact ⟨rfl, rfl, trivial⟩) (fun w' hw' => ⟨⟨hlt, fun j hj h => by
          rcases Nat.lt_or_ge j k with h2 | h2
          · exact hp j hj h2
          · obtain rfl : j = k := by omega
            exact hgood⟩, hw'⟩)
      intro hc38
      refine d_ (a_ ?_)
      refine b_ (j_ rfl) rfl rfl ?_
      refine g_ (c_ ?_)
      refine n_ ?_
      refine E_ ?_
      refine i_ (by intro h; cases h) ?_
      refine i_ (by intro h; cases h) ?_
      refine E_ ?_
      refine i_ (by intro h; cases h) ?_
      refine M_ rfl rfl ?_
      intro w' hw'
      refine ⟨?_, hw'⟩
      congr 2
      unfold nameB
      (rw [ht_ hlt (by simp [nameC]; omega)]; rfl)
    intro hc25
    iterate 2 refine b_ (k_ rfl) rfl rfl ?_
    refine b_ (aU_ (q := k) rfl rfl rfl hlt Tryz.underlying9) rfl rfl ?_
    refine b_ (du_ rfl rfl) rfl rfl ?_
    refine b_ (R_ rfl rfl) rfl rfl ?_
    refine b_ (U_ rfl rfl) rfl rfl ?_
    refine b_ (k_ rfl) rfl rfl ?_
    refine C_ (t := 32) rfl ?_ ?_
    · intro hc32
      iterate 4 refine af_ rfl rfl ?_
      refine b_ (R_ rfl rfl) rfl rfl ?_
      refine b_ (bG_ rfl) rfl rfl ?_
      refine g_ (c_ ?_)
      refine V_ rfl ?_
      refine p_ ?_
      refine o_ ?_
      refine c_ ?_
      refine a_ ?_
      refine b_ (k_ rfl) rfl rfl ?_
      refine b_ (s_ rfl rfl (by simp only [InR, lo, hi]; omega)) rfl rfl ?_
      refine b_ (j_ rfl) rfl rfl ?_
      refine g_ ?_
      have hgood : nameC (s[k]'hlt).toNat = true := by
        simp [nameC]
        omega
      exact x_ (k + 1) (by omega) (by exact ⟨rfl, rfl, trivial⟩) (fun w' hw' => ⟨⟨hlt, fun j hj h => by
        rcases Nat.lt_or_ge j k with h2 | h2
        · exact hp j hj h2
        · obtain rfl : j = k := by omega
          exact hgood⟩, hw'⟩)
    intro hc32
    iterate 2 refine b_ (k_ rfl) rfl rfl ?_
    refine b_ (aU_ (q := k) rfl rfl rfl hlt Tryz.underlying9) rfl rfl ?_
    refine b_ (aq_ rfl rfl) rfl rfl ?_
    refine b_ (U_ rfl rfl) rfl rfl ?_
    refine b_ (aL_ rfl) rfl rfl ?_
    refine g_ (c_ ?_)
    refine r_ rfl ?_ ?_
    rotate_left
    · intro hc38
      refine p_ ?_
      refine o_ ?_
      refine c_ ?_
      refine a_ ?_
      refine b_ (k_ rfl) rfl rfl ?_
      refine b_ (s_ rfl rfl (by simp only [InR, lo, hi]; omega)) rfl rfl ?_
      refine b_ (j_ rfl) rfl rfl ?_
      refine g_ ?_
      have hgood : nameC (s[k]'hlt).toNat = true := by
        simp [nameC]
        omega
      exact x_ (k + 1) (by omega) (by exact ⟨rfl, rfl, trivial⟩) (fun w' hw' => ⟨⟨hlt, fun j hj h => by
        rcases Nat.lt_or_ge j k with h2 | h2
        · exact hp j hj h2
        · obtain rfl : j = k := by omega
          exact hgood⟩, hw'⟩)
    intro hc38
    refine d_ (a_ ?_)
    refine b_ (j_ rfl) rfl rfl ?_
    refine g_ (c_ ?_)
    refine n_ ?_
    refine E_ ?_
    refine i_ (by intro h; cases h) ?_
    refine i_ (by intro h; cases h) ?_
    refine E_ ?_
    refine i_ (by intro h; cases h) ?_
    refine M_ rfl rfl ?_
    intro w' hw'
    refine ⟨?_, hw'⟩
    congr 2
    unfold nameB
    (rw [ht_ hlt (by simp [nameC]; omega)]; rfl)
  intro hc14
  iterate 2 refine b_ (k_ rfl) rfl rfl ?_
  refine b_ (aU_ (q := k) rfl rfl rfl hlt Tryz.underlying9) rfl rfl ?_
  refine b_ (du_ rfl rfl) rfl rfl ?_
  refine b_ (R_ rfl rfl) rfl rfl ?_
  refine b_ (k_ rfl) rfl rfl ?_
  refine C_ (t := 20) rfl ?_ ?_
  · intro hc20
    iterate 10 refine af_ rfl rfl ?_
    refine b_ (R_ rfl rfl) rfl rfl ?_
    refine b_ (k_ rfl) rfl rfl ?_
    iterate 4 refine af_ rfl rfl ?_
    refine b_ (R_ rfl rfl) rfl rfl ?_
    refine b_ (bG_ rfl) rfl rfl ?_
    refine g_ (c_ ?_)
    refine V_ rfl ?_
    refine p_ ?_
    refine o_ ?_
    refine c_ ?_
    refine a_ ?_
    refine b_ (k_ rfl) rfl rfl ?_
    refine b_ (s_ rfl rfl (by simp only [InR, lo, hi]; omega)) rfl rfl ?_
    refine b_ (j_ rfl) rfl rfl ?_
    refine g_ ?_
    have hgood : nameC (s[k]'hlt).toNat = true := by
      simp [nameC]
      omega
    exact x_ (k + 1) (by omega) (by exact ⟨rfl, rfl, trivial⟩) (fun w' hw' => ⟨⟨hlt, fun j hj h => by
      rcases Nat.lt_or_ge j k with h2 | h2
      · exact hp j hj h2
      · obtain rfl : j = k := by omega
        exact hgood⟩, hw'⟩)
  intro hc20
  iterate 2 refine b_ (k_ rfl) rfl rfl ?_
  refine b_ (aU_ (q := k) rfl rfl rfl hlt Tryz.underlying9) rfl rfl ?_
  refine b_ (bZ_ rfl rfl) rfl rfl ?_
  refine b_ (k_ rfl) rfl rfl ?_
  refine C_ (t := 25) rfl ?_ ?_
  rotate_left
  · intro hc25
    iterate 4 refine af_ rfl rfl ?_
    refine b_ (U_ rfl rfl) rfl rfl ?_
    refine b_ (U_ rfl rfl) rfl rfl ?_
    iterate 3 refine b_ (k_ rfl) rfl rfl ?_
    refine b_ (aU_ (q := k) rfl rfl rfl hlt Tryz.underlying9) rfl rfl ?_
    refine b_ (aq_ rfl rfl) rfl rfl ?_
    refine b_ (U_ rfl rfl) rfl rfl ?_
    refine b_ (aL_ rfl) rfl rfl ?_
    refine g_ (c_ ?_)
    refine r_ rfl ?_ ?_
    rotate_left
    · intro hc38
      refine p_ ?_
      refine o_ ?_
      refine c_ ?_
      refine a_ ?_
      refine b_ (k_ rfl) rfl rfl ?_
      refine b_ (s_ rfl rfl (by simp only [InR, lo, hi]; omega)) rfl rfl ?_
      refine b_ (j_ rfl) rfl rfl ?_
      refine g_ ?_
      have hgood : nameC (s[k]'hlt).toNat = true := by
        simp [nameC]
        omega
      exact x_ (k + 1) (by omega) (by exact ⟨rfl, rfl, trivial⟩) (fun w' hw' => ⟨⟨hlt, fun j hj h => by
        rcases Nat.lt_or_ge j k with h2 | h2
        · exact hp j hj h2
        · obtain rfl : j = k := by omega
          exact hgood⟩, hw'⟩)
    intro hc38
    refine d_ (a_ ?_)
    refine b_ (j_ rfl) rfl rfl ?_
    refine g_ (c_ ?_)
    refine n_ ?_
    refine E_ ?_
    refine i_ (by intro h; cases h) ?_
    refine i_ (by intro h; cases h) ?_
    refine E_ ?_
    refine i_ (by intro h; cases h) ?_
    refine M_ rfl rfl ?_
    intro w' hw'
    refine ⟨?_, hw'⟩
    congr 2
    unfold nameB
    (rw [ht_ hlt (by simp [nameC]; omega)]; rfl)
  intro hc25
  iterate 2 refine b_ (k_ rfl) rfl rfl ?_
  refine b_ (aU_ (q := k) rfl rfl rfl hlt Tryz.underlying9) rfl rfl ?_
  refine b_ (du_ rfl rfl) rfl rfl ?_
  refine b_ (R_ rfl rfl) rfl rfl ?_
  refine b_ (U_ rfl rfl) rfl rfl ?_
  refine b_ (k_ rfl) rfl rfl ?_
  refine C_ (t := 32) rfl ?_ ?_
  · intro hc32
    iterate 4 refine af_ rfl rfl ?_
    refine b_ (R_ rfl rfl) rfl rfl ?_
    refine b_ (bG_ rfl) rfl rfl ?_
    refine g_ (c_ ?_)
    refine V_ rfl ?_
    refine p_ ?_
    refine o_ ?_
    refine c_ ?_
    refine a_ ?_
    refine b_ (k_ rfl) rfl rfl ?_
    refine b_ (s_ rfl rfl (by simp only [InR, lo, hi]; omega)) rfl rfl ?_
    refine b_ (j_ rfl) rfl rfl ?_
    refine g_ ?_
    have hgood : nameC (s[k]'hlt).toNat = true := by
      simp [nameC]
      omega
    exact x_ (k + 1) (by omega) (by exact ⟨rfl, rfl, trivial⟩) (fun w' hw' => ⟨⟨hlt, fun j hj h => by
      rcases Nat.lt_or_ge j k with h2 | h2
      · exact hp j hj h2
      · obtain rfl : j = k := by omega
        exact hgood⟩, hw'⟩)
  intro hc32
  iterate 2 refine b_ (k_ rfl) rfl rfl ?_
  refine b_ (aU_ (q := k) rfl rfl rfl hlt Tryz.underlying9) rfl rfl ?_
  refine b_ (aq_ rfl rfl) rfl rfl ?_
  refine b_ (U_ rfl rfl) rfl rfl ?_
  refine b_ (aL_ rfl) rfl rfl ?_
  refine g_ (c_ ?_)
  refine r_ rfl ?_ ?_
  rotate_left
  · intro hc38
    refine p_ ?_
    refine o_ ?_
    refine c_ ?_
    refine a_ ?_
    refine b_ (k_ rfl) rfl rfl ?_
    refine b_ (s_ rfl rfl (by simp only [InR, lo, hi]; omega)) rfl rfl ?_
    refine b_ (j_ rfl) rfl rfl ?_
    refine g_ ?_
    have hgood : nameC (s[k]'hlt).toNat = true := by
      simp [nameC]
      omega
    exact x_ (k + 1) (by omega) (by exact ⟨rfl, rfl, trivial⟩) (fun w' hw' => ⟨⟨hlt, fun j hj h => by
      rcases Nat.lt_or_ge j k with h2 | h2
      · exact hp j hj h2
      · obtain rfl : j = k := by omega
        exact hgood⟩, hw'⟩)
  intro hc38
  refine d_ (a_ ?_)
  refine b_ (j_ rfl) rfl rfl ?_
  refine g_ (c_ ?_)
  refine n_ ?_
  refine E_ ?_
  refine i_ (by intro h; cases h) ?_
  refine i_ (by intro h; cases h) ?_
  refine E_ ?_
  refine i_ (by intro h; cases h) ?_
  refine M_ rfl rfl ?_
  intro w' hw'
  refine ⟨?_, hw'⟩
  congr 2
  unfold nameB
  (rw [ht_ hlt (by simp [nameC]; omega)]; rfl)
end
structure Core where
  client : Int
  stamp : Int
  op : Int
  letter : ByteArray
  a : Int
  b : Int
  text : ByteArray
def Core.cells (c : Core) : List Value := [.int .i64 c.client, .int .i64 c.stamp, .int .i64 c.op, .string c.letter, .int .i64 c.a, .int .i64 c.b, .string c.text]
def Core.check (c : Core) (n : Int) : Int :=
  if n < 1 ∨ 7 < n then 1 else if c.client < n ∨ n + 4 ≤ c.client then 17 else if c.stamp < 1 ∨ 1099511627776 < c.stamp ∨ c.op < 1 ∨ 9 < c.op then 5 else if nameB c.letter = false then 7 else if 200 < c.text.size then 3 else 0
def rowB (m : List UInt8) : List UInt8 := beBytes m.length 4 ++ m
def Core.bytes (c : Core) : List UInt8 :=
  beBytes (u64 c.client) 1 ++ beBytes (u64 c.stamp) 8 ++ beBytes (u64 c.op) 1 ++ rowB c.letter.data.toList ++ beBytes (u64 c.a) 8 ++ beBytes (u64 c.b) 8 ++ rowB c.text.data.toList
theorem cL_ (x : Int) : u64 x < 18446744073709551616 := by unfold u64; omega
section
variable {S : List (World × List Nat)} {σ τ : Blks} {ρ : List Dt} {w : World} {P : Program} {n : Nat} {l : Slots} {D : World → Prop} {x y : Operand} {d : Option Nat} {ty t : TypeId} {pos : String} {aft : Array Edge} {g : Option (Nat × Bool)} {v : Value}
theorem er_ {tab : List (Nat × TI)} (hT : TabOk P tab) {sz m e sz' : Nat} {zs zs' L : List Value} {k : IntKind} {r : Int} {q : Nat} (ht : ti tab t = some ⟨sz, .array m e, zs⟩) (hj : ti tab e = some ⟨sz', .one, zs'⟩) (hs : Nat.beq sz' 1 = true) (hx : look l x = some (.agg L.toArray)) (hy : look l y = some (.int k r)) (hr : r = (q : Nat)) (hq : q < m) (hv : L[q]? = some v) :
    Val P n l D ⟨d, .index t x y, ty, pos, aft, g⟩ v := fun A w hf hD => by
  obtain ⟨dd, hu, hk⟩ := (hT t _ ht).und
  cases dd <;> simp [kindOk] at hk
  obtain ⟨rfl, rfl⟩ := hk
  have h1 := (hT _ _ hj).sizeOf (w := w)
  have h2 := (hT _ _ hj).isAgg (w := w)
  rw [show sz' = 1 from Nat.eq_of_beq_eq_true hs] at h1
  subst hr
  simp [execOp, Instr.index, asIntOf, hf.eval hx, hf.eval hy, run_underlying hu, Sem.run_bind, Result.andThen, hq, h1, part, h2, hv]
set_option maxHeartbeats 400000 in
theorem check_c {c : Core} {n : Int} (hw : Mem S σ ρ w) : Calls Tryz.prog 131 #[.agg c.cells.toArray, .int .i64 n] w fun e w' => e = .returned (.int .i64 (c.check n)) ∧ Mem S σ ρ w' := by
  refine ad_ [.agg c.cells.toArray, .int .i64 n] Tryz.func131 rfl Tryz.ntmps131 rfl (Mem S σ ρ) hw ?_
  refine d_ (a_ ?_)
  refine az_ (L_ rfl) rfl rfl ?_
  rintro _ _ ⟨b2, rfl, rfl⟩
  refine b_ (j_ rfl) rfl rfl ?_
  refine g_ (c_ ?_)
  refine d_ ?_
  refine t_ ?_
  refine d_ (a_ ?_)
  refine b_ (k_ rfl) rfl rfl ?_
  refine b_ (ay_ rfl rfl) rfl rfl ?_
  refine b_ (k_ rfl) rfl rfl ?_
  refine C_ (t := 8) rfl ?_ ?_
  · intro hc8
    iterate 2 refine af_ rfl rfl ?_
    refine b_ (R_ rfl rfl) rfl rfl ?_
    refine b_ (j_ rfl) rfl rfl ?_
    refine g_ (c_ ?_)
    refine O_ rfl ?_
    refine d_ (a_ ?_)
    refine b_ (j_ rfl) rfl rfl ?_
    refine g_ (c_ ?_)
    refine n_ ?_
    refine E_ ?_
    refine i_ (by intro h; cases h) ?_
    refine M_ rfl rfl ?_
    intro w' hw'
    refine ⟨?_, hw'.sub (fun _ h => h) (List.sublist_cons_self _ _)⟩
    congr 2
    unfold Core.check
    repeat' split
    all_goals first | rfl | omega | simp_all
  intro hc8
  refine b_ (k_ rfl) rfl rfl ?_
  refine b_ (aI_ rfl rfl) rfl rfl ?_
  refine b_ (U_ rfl rfl) rfl rfl ?_
  refine b_ (j_ rfl) rfl rfl ?_
  refine g_ (c_ ?_)
  refine r_ rfl ?_ ?_
  · intro hc5
    refine d_ (a_ ?_)
    refine b_ (j_ rfl) rfl rfl ?_
    refine g_ (c_ ?_)
    refine n_ ?_
    refine E_ ?_
    refine i_ (by intro h; cases h) ?_
    refine M_ rfl rfl ?_
    intro w' hw'
    refine ⟨?_, hw'.sub (fun _ h => h) (List.sublist_cons_self _ _)⟩
    congr 2
    unfold Core.check
    repeat' split
    all_goals first | rfl | omega | simp_all
  intro hc5
  refine d_ (a_ ?_)
  refine b_ (y_ tabOk rfl rfl rfl rfl rfl) rfl rfl ?_
  refine b_ (h_ tabOk rfl rfl (by repeat (first | assumption | exact List.mem_cons_self | exact hmem _ | apply List.mem_cons_of_mem)) (by rfl)) rfl rfl ?_
  refine b_ (k_ rfl) rfl rfl ?_
  refine b_ (ay_ rfl rfl) rfl rfl ?_
  refine b_ (k_ rfl) rfl rfl ?_
  refine C_ (t := 17) rfl ?_ ?_
  · intro hc17
    iterate 5 refine af_ rfl rfl ?_
    refine b_ (R_ rfl rfl) rfl rfl ?_
    refine b_ (j_ rfl) rfl rfl ?_
    refine g_ (c_ ?_)
    refine O_ rfl ?_
    refine d_ (a_ ?_)
    refine b_ (j_ rfl) rfl rfl ?_
    refine g_ (c_ ?_)
    refine n_ ?_
    refine E_ ?_
    refine i_ (by intro h; cases h) ?_
    refine M_ rfl rfl ?_
    intro w' hw'
    refine ⟨?_, hw'.sub (fun _ h => h) (List.sublist_cons_self _ _)⟩
    congr 2
    unfold Core.check
    repeat' split
    all_goals first | rfl | omega | simp_all
  intro hc17
  refine b_ (y_ tabOk rfl rfl rfl rfl rfl) rfl rfl ?_
  refine b_ (h_ tabOk rfl rfl (by repeat (first | assumption | exact List.mem_cons_self | exact hmem _ | apply List.mem_cons_of_mem)) (by rfl)) rfl rfl ?_
  refine b_ (k_ rfl) rfl rfl ?_
  refine b_ (s_ rfl rfl (by simp only [InR, lo, hi]; omega)) rfl rfl ?_
  refine b_ (bZ_ rfl rfl) rfl rfl ?_
  refine b_ (U_ rfl rfl) rfl rfl ?_
  refine b_ (j_ rfl) rfl rfl ?_
  refine g_ (c_ ?_)
  refine r_ rfl ?_ ?_
  · intro hc12
    refine d_ (a_ ?_)
    refine b_ (j_ rfl) rfl rfl ?_
    refine g_ (c_ ?_)
    refine n_ ?_
    refine E_ ?_
    refine i_ (by intro h; cases h) ?_
    refine M_ rfl rfl ?_
    intro w' hw'
    refine ⟨?_, hw'.sub (fun _ h => h) (List.sublist_cons_self _ _)⟩
    congr 2
    unfold Core.check
    repeat' split
    all_goals first | rfl | omega | simp_all
  intro hc12
  refine d_ (a_ ?_)
  refine b_ (y_ tabOk rfl rfl rfl rfl rfl) rfl rfl ?_
  refine b_ (h_ tabOk rfl rfl (by repeat (first | assumption | exact List.mem_cons_self | exact hmem _ | apply List.mem_cons_of_mem)) (by rfl)) rfl rfl ?_
  refine b_ (ay_ rfl rfl) rfl rfl ?_
  refine b_ (k_ rfl) rfl rfl ?_
  refine C_ (t := 28) rfl ?_ ?_
  · intro hc28
    iterate 3 refine af_ rfl rfl ?_
    refine b_ (R_ rfl rfl) rfl rfl ?_
    refine b_ (k_ rfl) rfl rfl ?_
    iterate 3 refine af_ rfl rfl ?_
    refine b_ (R_ rfl rfl) rfl rfl ?_
    refine b_ (k_ rfl) rfl rfl ?_
    iterate 3 refine af_ rfl rfl ?_
    refine b_ (R_ rfl rfl) rfl rfl ?_
    refine b_ (j_ rfl) rfl rfl ?_
    refine g_ (c_ ?_)
    refine O_ rfl ?_
    refine d_ (a_ ?_)
    refine b_ (j_ rfl) rfl rfl ?_
    refine g_ (c_ ?_)
    refine n_ ?_
    refine E_ ?_
    refine i_ (by intro h; cases h) ?_
    refine M_ rfl rfl ?_
    intro w' hw'
    refine ⟨?_, hw'.sub (fun _ h => h) (List.sublist_cons_self _ _)⟩
    congr 2
    unfold Core.check
    repeat' split
    all_goals first | rfl | omega | simp_all
  intro hc28
  refine b_ (y_ tabOk rfl rfl rfl rfl rfl) rfl rfl ?_
  refine b_ (h_ tabOk rfl rfl (by repeat (first | assumption | exact List.mem_cons_self | exact hmem _ | apply List.mem_cons_of_mem)) (by rfl)) rfl rfl ?_
  refine b_ (aI_ rfl rfl) rfl rfl ?_
  refine b_ (U_ rfl rfl) rfl rfl ?_
  refine b_ (k_ rfl) rfl rfl ?_
  refine C_ (t := 33) rfl ?_ ?_
  · intro hc33
    iterate 3 refine af_ rfl rfl ?_
    refine b_ (R_ rfl rfl) rfl rfl ?_
    refine b_ (k_ rfl) rfl rfl ?_
    iterate 3 refine af_ rfl rfl ?_
    refine b_ (R_ rfl rfl) rfl rfl ?_
    refine b_ (j_ rfl) rfl rfl ?_
    refine g_ (c_ ?_)
    refine O_ rfl ?_
    refine d_ (a_ ?_)
    refine b_ (j_ rfl) rfl rfl ?_
    refine g_ (c_ ?_)
    refine n_ ?_
    refine E_ ?_
    refine i_ (by intro h; cases h) ?_
    refine M_ rfl rfl ?_
    intro w' hw'
    refine ⟨?_, hw'.sub (fun _ h => h) (List.sublist_cons_self _ _)⟩
    congr 2
    unfold Core.check
    repeat' split
    all_goals first | rfl | omega | simp_all
  intro hc33
  refine b_ (y_ tabOk rfl rfl rfl rfl rfl) rfl rfl ?_
  refine b_ (h_ tabOk rfl rfl (by repeat (first | assumption | exact List.mem_cons_self | exact hmem _ | apply List.mem_cons_of_mem)) (by rfl)) rfl rfl ?_
  refine b_ (ay_ rfl rfl) rfl rfl ?_
  refine b_ (U_ rfl rfl) rfl rfl ?_
  refine b_ (k_ rfl) rfl rfl ?_
  refine C_ (t := 38) rfl ?_ ?_
  · intro hc38
    iterate 3 refine af_ rfl rfl ?_
    refine b_ (R_ rfl rfl) rfl rfl ?_
    refine b_ (j_ rfl) rfl rfl ?_
    refine g_ (c_ ?_)
    refine O_ rfl ?_
    refine d_ (a_ ?_)
    refine b_ (j_ rfl) rfl rfl ?_
    refine g_ (c_ ?_)
    refine n_ ?_
    refine E_ ?_
    refine i_ (by intro h; cases h) ?_
    refine M_ rfl rfl ?_
    intro w' hw'
    refine ⟨?_, hw'.sub (fun _ h => h) (List.sublist_cons_self _ _)⟩
    congr 2
    unfold Core.check
    repeat' split
    all_goals first | rfl | omega | simp_all
  intro hc38
  refine b_ (y_ tabOk rfl rfl rfl rfl rfl) rfl rfl ?_
  refine b_ (h_ tabOk rfl rfl (by repeat (first | assumption | exact List.mem_cons_self | exact hmem _ | apply List.mem_cons_of_mem)) (by rfl)) rfl rfl ?_
  refine b_ (aI_ rfl rfl) rfl rfl ?_
  refine b_ (U_ rfl rfl) rfl rfl ?_
  refine b_ (j_ rfl) rfl rfl ?_
  refine g_ (c_ ?_)
  refine r_ rfl ?_ ?_
  · intro hc24
    refine d_ (a_ ?_)
    refine b_ (j_ rfl) rfl rfl ?_
    refine g_ (c_ ?_)
    refine n_ ?_
    refine E_ ?_
    refine i_ (by intro h; cases h) ?_
    refine M_ rfl rfl ?_
    intro w' hw'
    refine ⟨?_, hw'.sub (fun _ h => h) (List.sublist_cons_self _ _)⟩
    congr 2
    unfold Core.check
    repeat' split
    all_goals first | rfl | omega | simp_all
  intro hc24
  refine d_ (a_ ?_)
  refine b_ (y_ tabOk rfl rfl rfl rfl rfl) rfl rfl ?_
  refine b_ (h_ tabOk rfl rfl (by repeat (first | assumption | exact List.mem_cons_self | exact hmem _ | apply List.mem_cons_of_mem)) (by rfl)) rfl rfl ?_
  refine u_ (by kernel_rfl) rfl rfl rfl ?_
  intro w hw
  refine (isName_c hw).mono ?_; rintro _ _ ⟨rfl, hm⟩; refine ⟨_, _, rfl, hm, ?_⟩; clear hm hw w
  refine b_ (ai_ rfl) rfl rfl ?_
  refine b_ (j_ rfl) rfl rfl ?_
  refine g_ (c_ ?_)
  refine ac_ rfl ?_ ?_
  · intro hc43
    refine d_ (a_ ?_)
    refine b_ (j_ rfl) rfl rfl ?_
    refine g_ (c_ ?_)
    refine n_ ?_
    refine E_ ?_
    refine i_ (by intro h; cases h) ?_
    refine M_ rfl rfl ?_
    intro w' hw'
    refine ⟨?_, hw'.sub (fun _ h => h) (List.sublist_cons_self _ _)⟩
    congr 2
    unfold Core.check
    repeat' split
    all_goals first | rfl | omega | simp_all
  intro hc43
  refine d_ (a_ ?_)
  refine b_ (y_ tabOk rfl rfl rfl rfl rfl) rfl rfl ?_
  refine b_ (h_ tabOk rfl rfl (by repeat (first | assumption | exact List.mem_cons_self | exact hmem _ | apply List.mem_cons_of_mem)) (by rfl)) rfl rfl ?_
  refine b_ (bH_ rfl Tryz.underlying9) rfl rfl ?_
  refine b_ (aI_ rfl rfl) rfl rfl ?_
  refine b_ (j_ rfl) rfl rfl ?_
  refine g_ (c_ ?_)
  refine r_ rfl ?_ ?_
  · intro hc48
    refine d_ (a_ ?_)
    refine b_ (j_ rfl) rfl rfl ?_
    refine g_ (c_ ?_)
    refine n_ ?_
    refine E_ ?_
    refine i_ (by intro h; cases h) ?_
    refine M_ rfl rfl ?_
    intro w' hw'
    refine ⟨?_, hw'.sub (fun _ h => h) (List.sublist_cons_self _ _)⟩
    congr 2
    unfold Core.check
    repeat' split
    all_goals first | rfl | omega | simp_all
  intro hc48
  refine p_ ?_
  refine o_ ?_
  refine c_ ?_
  refine d_ (a_ ?_)
  refine b_ (j_ rfl) rfl rfl ?_
  refine g_ (c_ ?_)
  refine n_ ?_
  refine M_ rfl rfl ?_
  intro w' hw'
  refine ⟨?_, hw'.sub (fun _ h => h) (List.sublist_cons_self _ _)⟩
  congr 2
  unfold Core.check
  repeat' split
  all_goals first | rfl | omega | simp_all
set_option maxHeartbeats 400000 in
theorem rcheck_c {c : Core} {n : Int} (hw : Mem S σ ρ w) (hs : c.letter.size ≤ lots) : Calls Tryz.prog 129 #[.agg c.cells.toArray, .int .i64 n] w fun e w' => e = .returned (.int .i64 (c.check n)) ∧ Mem S σ ρ w' := by
  refine ad_ [.agg c.cells.toArray, .int .i64 n] Tryz.func129 rfl Tryz.ntmps129 rfl (Mem S σ ρ) hw ?_
  refine d_ (a_ ?_)
  refine az_ (L_ rfl) rfl rfl ?_
  rintro _ _ ⟨b2, rfl, rfl⟩
  refine b_ (j_ rfl) rfl rfl ?_
  refine g_ (c_ ?_)
  refine d_ ?_
  refine t_ ?_
  refine d_ (a_ ?_)
  refine b_ (k_ rfl) rfl rfl ?_
  refine b_ (ay_ rfl rfl) rfl rfl ?_
  refine b_ (k_ rfl) rfl rfl ?_
  refine C_ (t := 8) rfl ?_ ?_
  · intro hc8
    iterate 2 refine af_ rfl rfl ?_
    refine b_ (R_ rfl rfl) rfl rfl ?_
    refine b_ (j_ rfl) rfl rfl ?_
    refine g_ (c_ ?_)
    refine O_ rfl ?_
    refine d_ (a_ ?_)
    refine b_ (j_ rfl) rfl rfl ?_
    refine g_ (c_ ?_)
    refine n_ ?_
    refine E_ ?_
    refine i_ (by intro h; cases h) ?_
    refine M_ rfl rfl ?_
    intro w' hw'
    refine ⟨?_, hw'.sub (fun _ h => h) (List.sublist_cons_self _ _)⟩
    congr 2
    unfold Core.check
    repeat' split
    all_goals first | rfl | omega | simp_all
  intro hc8
  refine b_ (k_ rfl) rfl rfl ?_
  refine b_ (aI_ rfl rfl) rfl rfl ?_
  refine b_ (U_ rfl rfl) rfl rfl ?_
  refine b_ (j_ rfl) rfl rfl ?_
  refine g_ (c_ ?_)
  refine r_ rfl ?_ ?_
  · intro hc5
    refine d_ (a_ ?_)
    refine b_ (j_ rfl) rfl rfl ?_
    refine g_ (c_ ?_)
    refine n_ ?_
    refine E_ ?_
    refine i_ (by intro h; cases h) ?_
    refine M_ rfl rfl ?_
    intro w' hw'
    refine ⟨?_, hw'.sub (fun _ h => h) (List.sublist_cons_self _ _)⟩
    congr 2
    unfold Core.check
    repeat' split
    all_goals first | rfl | omega | simp_all
  intro hc5
  refine d_ (a_ ?_)
  refine b_ (y_ tabOk rfl rfl rfl rfl rfl) rfl rfl ?_
  refine b_ (h_ tabOk rfl rfl (by repeat (first | assumption | exact List.mem_cons_self | exact hmem _ | apply List.mem_cons_of_mem)) (by rfl)) rfl rfl ?_
  refine b_ (k_ rfl) rfl rfl ?_
  refine b_ (ay_ rfl rfl) rfl rfl ?_
  refine b_ (k_ rfl) rfl rfl ?_
  refine C_ (t := 17) rfl ?_ ?_
  · intro hc17
    iterate 5 refine af_ rfl rfl ?_
    refine b_ (R_ rfl rfl) rfl rfl ?_
    refine b_ (j_ rfl) rfl rfl ?_
    refine g_ (c_ ?_)
    refine O_ rfl ?_
    refine d_ (a_ ?_)
    refine b_ (j_ rfl) rfl rfl ?_
    refine g_ (c_ ?_)
    refine n_ ?_
    refine E_ ?_
    refine i_ (by intro h; cases h) ?_
    refine M_ rfl rfl ?_
    intro w' hw'
    refine ⟨?_, hw'.sub (fun _ h => h) (List.sublist_cons_self _ _)⟩
    congr 2
    unfold Core.check
    repeat' split
    all_goals first | rfl | omega | simp_all
  intro hc17
  refine b_ (y_ tabOk rfl rfl rfl rfl rfl) rfl rfl ?_
  refine b_ (h_ tabOk rfl rfl (by repeat (first | assumption | exact List.mem_cons_self | exact hmem _ | apply List.mem_cons_of_mem)) (by rfl)) rfl rfl ?_
  refine b_ (k_ rfl) rfl rfl ?_
  refine b_ (s_ rfl rfl (by simp only [InR, lo, hi]; omega)) rfl rfl ?_
  refine b_ (aI_ rfl rfl) rfl rfl ?_
  refine b_ (U_ rfl rfl) rfl rfl ?_
  refine b_ (j_ rfl) rfl rfl ?_
  refine g_ (c_ ?_)
  refine r_ rfl ?_ ?_
  · intro hc12
    refine d_ (a_ ?_)
    refine b_ (j_ rfl) rfl rfl ?_
    refine g_ (c_ ?_)
    refine n_ ?_
    refine E_ ?_
    refine i_ (by intro h; cases h) ?_
    refine M_ rfl rfl ?_
    intro w' hw'
    refine ⟨?_, hw'.sub (fun _ h => h) (List.sublist_cons_self _ _)⟩
    congr 2
    unfold Core.check
    repeat' split
    all_goals first | rfl | omega | simp_all
  intro hc12
  refine d_ (a_ ?_)
  refine b_ (y_ tabOk rfl rfl rfl rfl rfl) rfl rfl ?_
  refine b_ (h_ tabOk rfl rfl (by repeat (first | assumption | exact List.mem_cons_self | exact hmem _ | apply List.mem_cons_of_mem)) (by rfl)) rfl rfl ?_
  refine b_ (ay_ rfl rfl) rfl rfl ?_
  refine b_ (k_ rfl) rfl rfl ?_
  refine C_ (t := 28) rfl ?_ ?_
  · intro hc28
    iterate 3 refine af_ rfl rfl ?_
    refine b_ (R_ rfl rfl) rfl rfl ?_
    refine b_ (k_ rfl) rfl rfl ?_
    iterate 3 refine af_ rfl rfl ?_
    refine b_ (R_ rfl rfl) rfl rfl ?_
    refine b_ (k_ rfl) rfl rfl ?_
    iterate 3 refine af_ rfl rfl ?_
    refine b_ (R_ rfl rfl) rfl rfl ?_
    refine b_ (j_ rfl) rfl rfl ?_
    refine g_ (c_ ?_)
    refine O_ rfl ?_
    refine d_ (a_ ?_)
    refine b_ (j_ rfl) rfl rfl ?_
    refine g_ (c_ ?_)
    refine n_ ?_
    refine E_ ?_
    refine i_ (by intro h; cases h) ?_
    refine M_ rfl rfl ?_
    intro w' hw'
    refine ⟨?_, hw'.sub (fun _ h => h) (List.sublist_cons_self _ _)⟩
    congr 2
    unfold Core.check
    repeat' split
    all_goals first | rfl | omega | simp_all
  intro hc28
  refine b_ (y_ tabOk rfl rfl rfl rfl rfl) rfl rfl ?_
  refine b_ (h_ tabOk rfl rfl (by repeat (first | assumption | exact List.mem_cons_self | exact hmem _ | apply List.mem_cons_of_mem)) (by rfl)) rfl rfl ?_
  refine b_ (aI_ rfl rfl) rfl rfl ?_
  refine b_ (U_ rfl rfl) rfl rfl ?_
  refine b_ (k_ rfl) rfl rfl ?_
  refine C_ (t := 33) rfl ?_ ?_
  · intro hc33
    iterate 3 refine af_ rfl rfl ?_
    refine b_ (R_ rfl rfl) rfl rfl ?_
    refine b_ (k_ rfl) rfl rfl ?_
    iterate 3 refine af_ rfl rfl ?_
    refine b_ (R_ rfl rfl) rfl rfl ?_
    refine b_ (j_ rfl) rfl rfl ?_
    refine g_ (c_ ?_)
    refine O_ rfl ?_
    refine d_ (a_ ?_)
    refine b_ (j_ rfl) rfl rfl ?_
    refine g_ (c_ ?_)
    refine n_ ?_
    refine E_ ?_
    refine i_ (by intro h; cases h) ?_
    refine M_ rfl rfl ?_
    intro w' hw'
    refine ⟨?_, hw'.sub (fun _ h => h) (List.sublist_cons_self _ _)⟩
    congr 2
    unfold Core.check
    repeat' split
    all_goals first | rfl | omega | simp_all
  intro hc33
  refine b_ (y_ tabOk rfl rfl rfl rfl rfl) rfl rfl ?_
  refine b_ (h_ tabOk rfl rfl (by repeat (first | assumption | exact List.mem_cons_self | exact hmem _ | apply List.mem_cons_of_mem)) (by rfl)) rfl rfl ?_
  refine b_ (ay_ rfl rfl) rfl rfl ?_
  refine b_ (U_ rfl rfl) rfl rfl ?_
  refine b_ (k_ rfl) rfl rfl ?_
  refine C_ (t := 38) rfl ?_ ?_
  · intro hc38
    iterate 3 refine af_ rfl rfl ?_
    refine b_ (R_ rfl rfl) rfl rfl ?_
    refine b_ (j_ rfl) rfl rfl ?_
    refine g_ (c_ ?_)
    refine O_ rfl ?_
    refine d_ (a_ ?_)
    refine b_ (j_ rfl) rfl rfl ?_
    refine g_ (c_ ?_)
    refine n_ ?_
    refine E_ ?_
    refine i_ (by intro h; cases h) ?_
    refine M_ rfl rfl ?_
    intro w' hw'
    refine ⟨?_, hw'.sub (fun _ h => h) (List.sublist_cons_self _ _)⟩
    congr 2
    unfold Core.check
    repeat' split
    all_goals first | rfl | omega | simp_all
  intro hc38
  refine b_ (y_ tabOk rfl rfl rfl rfl rfl) rfl rfl ?_
  refine b_ (h_ tabOk rfl rfl (by repeat (first | assumption | exact List.mem_cons_self | exact hmem _ | apply List.mem_cons_of_mem)) (by rfl)) rfl rfl ?_
  refine b_ (aI_ rfl rfl) rfl rfl ?_
  refine b_ (U_ rfl rfl) rfl rfl ?_
  refine b_ (j_ rfl) rfl rfl ?_
  refine g_ (c_ ?_)
  refine r_ rfl ?_ ?_
  · intro hc24
    refine d_ (a_ ?_)
    refine b_ (j_ rfl) rfl rfl ?_
    refine g_ (c_ ?_)
    refine n_ ?_
    refine E_ ?_
    refine i_ (by intro h; cases h) ?_
    refine M_ rfl rfl ?_
    intro w' hw'
    refine ⟨?_, hw'.sub (fun _ h => h) (List.sublist_cons_self _ _)⟩
    congr 2
    unfold Core.check
    repeat' split
    all_goals first | rfl | omega | simp_all
  intro hc24
  refine d_ (a_ ?_)
  refine b_ (y_ tabOk rfl rfl rfl rfl rfl) rfl rfl ?_
  refine b_ (h_ tabOk rfl rfl (by repeat (first | assumption | exact List.mem_cons_self | exact hmem _ | apply List.mem_cons_of_mem)) (by rfl)) rfl rfl ?_
  refine u_ (by kernel_rfl) rfl rfl rfl ?_
  intro w hw
  refine (kv_ hw (Nat.le_trans hs (of_decide_eq_true (by kernel_rfl)))).mono ?_; rintro _ _ ⟨rfl, hm⟩; refine ⟨_, _, rfl, hm, ?_⟩; clear hm hw w
  refine b_ (ai_ rfl) rfl rfl ?_
  refine b_ (j_ rfl) rfl rfl ?_
  refine g_ (c_ ?_)
  refine ac_ rfl ?_ ?_
  · intro hc43
    refine d_ (a_ ?_)
    refine b_ (j_ rfl) rfl rfl ?_
    refine g_ (c_ ?_)
    refine n_ ?_
    refine E_ ?_
    refine i_ (by intro h; cases h) ?_
    refine M_ rfl rfl ?_
    intro w' hw'
    refine ⟨?_, hw'.sub (fun _ h => h) (List.sublist_cons_self _ _)⟩
    congr 2
    unfold Core.check
    repeat' split
    all_goals first | rfl | omega | simp_all
  intro hc43
  refine d_ (a_ ?_)
  refine b_ (y_ tabOk rfl rfl rfl rfl rfl) rfl rfl ?_
  refine b_ (h_ tabOk rfl rfl (by repeat (first | assumption | exact List.mem_cons_self | exact hmem _ | apply List.mem_cons_of_mem)) (by rfl)) rfl rfl ?_
  refine b_ (bH_ rfl Tryz.underlying9) rfl rfl ?_
  refine b_ (aI_ rfl rfl) rfl rfl ?_
  refine b_ (j_ rfl) rfl rfl ?_
  refine g_ (c_ ?_)
  refine r_ rfl ?_ ?_
  · intro hc48
    refine d_ (a_ ?_)
    refine b_ (j_ rfl) rfl rfl ?_
    refine g_ (c_ ?_)
    refine n_ ?_
    refine E_ ?_
    refine i_ (by intro h; cases h) ?_
    refine M_ rfl rfl ?_
    intro w' hw'
    refine ⟨?_, hw'.sub (fun _ h => h) (List.sublist_cons_self _ _)⟩
    congr 2
    unfold Core.check
    repeat' split
    all_goals first | rfl | omega | simp_all
  intro hc48
  refine p_ ?_
  refine o_ ?_
  refine c_ ?_
  refine d_ (a_ ?_)
  refine b_ (j_ rfl) rfl rfl ?_
  refine g_ (c_ ?_)
  refine n_ ?_
  refine M_ rfl rfl ?_
  intro w' hw'
  refine ⟨?_, hw'.sub (fun _ h => h) (List.sublist_cons_self _ _)⟩
  congr 2
  unfold Core.check
  repeat' split
  all_goals first | rfl | omega | simp_all
set_option maxHeartbeats 1000000 in
theorem h9_ {c : Core} (hw : Mem S σ ρ w) (h1 : c.letter.size ≤ 1000000) (h2 : c.text.size ≤ 1000000) : Calls Tryz.prog 134 #[.agg c.cells.toArray] w fun e w' => ∃ r, e = .returned r ∧ Mem S σ (bytesD r c.bytes :: ρ) w' := by
  have h3 : c.letter.size ≤ lots := by unfold lots; omega
  have h4 : c.text.size ≤ lots := by unfold lots; omega
  have hL : c.letter.data.toList.length ≤ 1000000 := h1
  have hT : c.text.data.toList.length ≤ 1000000 := h2
  refine ad_ [.agg c.cells.toArray] Tryz.func134 rfl Tryz.ntmps134 rfl (Mem S σ ρ) hw ?_
  refine d_ (a_ ?_)
  refine az_ (L_ rfl) rfl rfl ?_
  rintro _ _ ⟨b1, rfl, rfl⟩
  refine b_ (j_ rfl) rfl rfl ?_
  refine g_ (c_ ?_)
  refine d_ (a_ ?_)
  refine b_ (y_ tabOk rfl rfl rfl rfl rfl) rfl rfl ?_
  refine b_ (h_ tabOk rfl rfl (by repeat (first | assumption | exact List.mem_cons_self | exact hmem _ | apply List.mem_cons_of_mem)) (by rfl)) rfl rfl ?_
  refine b_ (aw_ rfl Tryz.underlying134 (by kernel_rfl)) rfl rfl ?_
  refine u_ (by kernel_rfl) rfl rfl rfl ?_
  intro w hw
  refine (fw_ (l := []) (x := u64 c.client) (n := 1) hw (BytesV.nil _) (by exact Nat.zero_le _) (cL_ _) rfl).mono ?_; rintro _ _ ⟨r, rfl, hm⟩; refine ⟨_, _, rfl, hm, ?_⟩; clear hm hw w
  refine b_ (j_ rfl) rfl rfl ?_
  refine g_ (c_ ?_)
  refine d_ (a_ ?_)
  refine b_ (k_ rfl) rfl rfl ?_
  refine b_ (y_ tabOk rfl rfl rfl rfl rfl) rfl rfl ?_
  refine b_ (h_ tabOk rfl rfl (by repeat (first | assumption | exact List.mem_cons_self | exact hmem _ | apply List.mem_cons_of_mem)) (by rfl)) rfl rfl ?_
  refine b_ (aw_ rfl Tryz.underlying134 (by kernel_rfl)) rfl rfl ?_
  refine u_ (by kernel_rfl) rfl rfl rfl ?_
  intro w hw
  refine (fw_ (l := ([] ++ beBytes (u64 c.client) (Int.toNat 1))) (x := u64 c.stamp) (n := 8) hw (hw.bytes (by repeat (first | assumption | exact List.mem_cons_self | exact hmem _ | apply List.mem_cons_of_mem))) (by (simp only [List.length_append, v_, List.length_nil]; unfold lots; omega)) (cL_ _) rfl).mono ?_; rintro _ _ ⟨r, rfl, hm⟩; refine ⟨_, _, rfl, hm, ?_⟩; clear hm hw w
  refine b_ (j_ rfl) rfl rfl ?_
  refine g_ (c_ ?_)
  refine d_ ?_
  refine Y_ _ (.q 0 (.q 1 (.q 2 (.q 3 (.q 5 (.q 6 (.two 4 7 (.e 7 (.e 8 (.q 9 .nil))) (.e 4 (.e 8 (.q 9 .nil)))))))))) (by kernel_rfl) (by kernel_rfl) (fun _ h => h) (fun _ h => h.drew) ?_
  refine l_ rfl (k_ rfl) rfl rfl ?_
  refine l_ rfl (y_ tabOk rfl rfl rfl rfl rfl) rfl rfl ?_
  refine l_ rfl (h_ tabOk rfl rfl (by repeat (first | assumption | exact List.mem_cons_self | exact hmem _ | apply List.mem_cons_of_mem)) (by rfl)) rfl rfl ?_
  refine l_ rfl (aw_ rfl Tryz.underlying134 (by kernel_rfl)) rfl rfl ?_
  refine l_ rfl (y_ tabOk rfl rfl rfl rfl rfl) rfl rfl ?_
  refine l_ rfl (h_ tabOk rfl rfl (by repeat (first | assumption | exact List.mem_cons_self | exact hmem _ | apply List.mem_cons_of_mem)) (by rfl)) rfl rfl ?_
  refine cT_ ?_ ?_
  · skip
    refine I_ rfl (by kernel_rfl) rfl rfl rfl ?_
    intro w hw
    refine (fw_ (l := (([] ++ beBytes (u64 c.client) (Int.toNat 1)) ++ beBytes (u64 c.stamp) (Int.toNat 8))) (x := u64 c.op) (n := 1) hw (hw.bytes (by repeat (first | assumption | exact List.mem_cons_self | exact hmem _ | apply List.mem_cons_of_mem))) (by (simp only [List.length_append, v_, List.length_nil]; unfold lots; omega)) (cL_ _) rfl).mono ?_; rintro _ _ ⟨r, rfl, hm⟩; refine ⟨_, _, rfl, hm, _, fun _ h => h.less (fun _ hx => List.mem_cons_of_mem _ hx), fun _ h => h, ?_⟩; clear hm hw w
    refine et_ rfl (bC_ rfl Tryz.underlying9 Tryz.underlying27 (by assumption)) rfl rfl ?_
    rintro sb22 _ rfl
    refine ⟨_, fun _ h => h.less (fun _ hx => List.mem_cons_of_mem _ hx), fun _ h => h, ?_⟩
    refine I_ rfl (by kernel_rfl) rfl rfl rfl ?_
    intro w hw
    refine (dY_ (l := ((([] ++ beBytes (u64 c.client) (Int.toNat 1)) ++ beBytes (u64 c.stamp) (Int.toNat 8)) ++ beBytes (u64 c.op) (Int.toNat 1))) (m := c.letter.data.toList) hw (by repeat (first | assumption | exact List.mem_cons_self | exact hmem _ | apply List.mem_cons_of_mem)) (by repeat (first | assumption | exact List.mem_cons_self | exact hmem _ | apply List.mem_cons_of_mem)) (by simp only [List.length_append, v_, List.length_nil]; unfold lots; omega) (by omega)).mono ?_; rintro _ _ ⟨r, rfl, hm⟩; refine ⟨_, _, rfl, hm, _, fun _ h => h.less (fun _ hx => List.mem_cons_of_mem _ hx), fun _ h => h, ?_⟩; clear hm hw w
    refine l_ rfl (j_ rfl) rfl rfl ?_
    refine N_ (c_ ?_)
    refine d_ ?_
    refine d_ (a_ ?_)
    refine b_ (y_ tabOk rfl rfl rfl rfl rfl) rfl rfl ?_
    refine b_ (h_ tabOk rfl rfl (by repeat (first | assumption | exact List.mem_cons_self | exact hmem _ | apply List.mem_cons_of_mem)) (by rfl)) rfl rfl ?_
    refine b_ (y_ tabOk rfl rfl rfl rfl rfl) rfl rfl ?_
    refine b_ (h_ tabOk rfl rfl (by repeat (first | assumption | exact List.mem_cons_self | exact hmem _ | apply List.mem_cons_of_mem)) (by rfl)) rfl rfl ?_
    refine b_ (cz_ tabOk rfl rfl rfl rfl) rfl rfl ?_
    refine b_ (k_ rfl) rfl rfl ?_
    refine g_ (c_ ?_)
    refine t_ ?_
    refine S_ (ι := Nat × Value) (fun z => [(1, .pointer (some ⟨b1, 0, none⟩)), (3, z.2), (28, .agg [.int .i64 c.a, .int .i64 c.b].toArray), (29, .int .i64 (z.1 : Nat))]) (fun z w' => z.1 ≤ 2 ∧ Mem S (.blk b1 (row 79 c.cells) :: σ) (bytesD z.2 ((((([] ++ beBytes (u64 c.client) (Int.toNat 1)) ++ beBytes (u64 c.stamp) (Int.toNat 8)) ++ beBytes (u64 c.op) (Int.toNat 1)) ++ beBytes c.letter.data.toList.length 4 ++ c.letter.data.toList) ++ (([c.a, c.b].take z.1).flatMap fun x => beBytes (u64 x) (Int.toNat 8))) :: ρ) w') (fun z => 2 - z.1) (0, _) (by exact ⟨rfl, rfl, rfl, rfl, trivial⟩) (fun w' hw' => ⟨by omega, hw'.less (by intro x hx; simp only [List.take_zero, List.flatMap_nil, List.append_nil] at hx; rcases List.mem_cons.1 hx with rfl | hx <;> simp [*])⟩) ?_
    intro z
    refine a0_ ?_
    intro hz
    have hlen : ((((([] ++ beBytes (u64 c.client) (Int.toNat 1)) ++ beBytes (u64 c.stamp) (Int.toNat 8)) ++ beBytes (u64 c.op) (Int.toNat 1)) ++ beBytes c.letter.data.toList.length 4 ++ c.letter.data.toList) ++ (([c.a, c.b].take z.1).flatMap fun x => beBytes (u64 x) (Int.toNat 8))).length ≤ 10 + (4 + c.letter.data.toList.length) + 16 := by
      simp only [List.length_append, v_, List.length_nil]
      have : ((([c.a, c.b].take z.1).flatMap fun x => beBytes (u64 x) (Int.toNat 8))).length ≤ 16 := by
        rcases (by omega : z.1 = 0 ∨ z.1 = 1 ∨ z.1 = 2) with h | h | h <;> rw [h] <;> simp [v_]
      omega
    refine d_ (a_ ?_)
    refine b_ (ay_ rfl rfl) rfl rfl ?_
    refine g_ (c_ ?_)
    refine d_ ?_
    refine r_ rfl ?_ ?_
    rotate_left
    · intro hc30
      have e2 : ((((([] ++ beBytes (u64 c.client) (Int.toNat 1)) ++ beBytes (u64 c.stamp) (Int.toNat 8)) ++ beBytes (u64 c.op) (Int.toNat 1)) ++ beBytes c.letter.data.toList.length 4 ++ c.letter.data.toList) ++ (([c.a, c.b].take z.1).flatMap fun x => beBytes (u64 x) (Int.toNat 8))) = (((([] ++ beBytes (u64 c.client) (Int.toNat 1)) ++ beBytes (u64 c.stamp) (Int.toNat 8)) ++ beBytes (u64 c.op) (Int.toNat 1)) ++ beBytes c.letter.data.toList.length 4 ++ c.letter.data.toList) ++ (beBytes (u64 c.a) (Int.toNat 8) ++ beBytes (u64 c.b) (Int.toNat 8)) := by
        have h : z.1 = 2 := by omega
        rw [h]
        simp
      rw [e2] at *
      refine Q_ ?_
      refine i_ (by intro h; cases h) ?_
      refine i_ (by intro h; cases h) ?_
      refine P_ ?_
      refine c_ ?_
      refine d_ (a_ ?_)
      refine b_ (k_ rfl) rfl rfl ?_
      refine b_ (y_ tabOk rfl rfl rfl rfl rfl) rfl rfl ?_
      refine b_ (h_ tabOk rfl rfl (by repeat (first | assumption | exact List.mem_cons_self | exact hmem _ | apply List.mem_cons_of_mem)) (by rfl)) rfl rfl ?_
      refine az_ (bC_ rfl Tryz.underlying9 Tryz.underlying27 (by assumption)) rfl rfl ?_
      rintro sb40 _ rfl
      refine u_ (by kernel_rfl) rfl rfl rfl ?_
      intro w hw
      refine (dY_ (l := ((((([] ++ beBytes (u64 c.client) (Int.toNat 1)) ++ beBytes (u64 c.stamp) (Int.toNat 8)) ++ beBytes (u64 c.op) (Int.toNat 1)) ++ beBytes c.letter.data.toList.length 4 ++ c.letter.data.toList) ++ (beBytes (u64 c.a) (Int.toNat 8) ++ beBytes (u64 c.b) (Int.toNat 8)))) (m := c.text.data.toList) hw (by repeat (first | assumption | exact List.mem_cons_self | exact hmem _ | apply List.mem_cons_of_mem)) (by repeat (first | assumption | exact List.mem_cons_self | exact hmem _ | apply List.mem_cons_of_mem)) (by simp only [List.length_append, v_, List.length_nil]; unfold lots; omega) (by omega)).mono ?_; rintro _ _ ⟨r, rfl, hm⟩; refine ⟨_, _, rfl, hm, ?_⟩; clear hm hw w
      refine b_ (j_ rfl) rfl rfl ?_
      refine g_ (c_ ?_)
      refine n_ ?_
      refine M_ rfl rfl ?_
      intro w' hw'
      refine ⟨_, rfl, (hw'.sub (fun _ h => h) (List.sublist_cons_self _ _)).less (fun x hx => ?_)⟩
      rcases List.mem_cons.1 hx with rfl | hx
      · have e3 : c.bytes = (((([] ++ beBytes (u64 c.client) (Int.toNat 1)) ++ beBytes (u64 c.stamp) (Int.toNat 8)) ++ beBytes (u64 c.op) (Int.toNat 1)) ++ beBytes c.letter.data.toList.length 4 ++ c.letter.data.toList) ++ (beBytes (u64 c.a) (Int.toNat 8) ++ beBytes (u64 c.b) (Int.toNat 8)) ++ beBytes c.text.data.toList.length 4 ++ c.text.data.toList := by simp [Core.bytes, rowB]
        rw [e3]; simp
      · simp [*]
    intro hc30
    have hlt : z.1 < [c.a, c.b].length := by show z.1 < 2; omega
    have helt : [Value.int .i64 c.a, Value.int .i64 c.b][z.1]? = some (.int .i64 ([c.a, c.b][z.1]'hlt)) := by
      rcases (by omega : z.1 = 0 ∨ z.1 = 1) with h | h <;> simp only [h] <;> rfl
    refine p_ ?_
    refine c_ ?_
    refine d_ ?_
    refine t_ ?_
    refine d_ (a_ ?_)
    refine b_ (er_ (L := [.int .i64 c.a, .int .i64 c.b]) (v := .int .i64 ([c.a, c.b][z.1]'hlt)) (q := z.1) tabOk rfl rfl rfl rfl rfl rfl hlt helt) rfl rfl ?_
    refine b_ (j_ rfl) rfl rfl ?_
    refine g_ (c_ ?_)
    refine a_ ?_
    iterate 2 refine b_ (k_ rfl) rfl rfl ?_
    refine b_ (aw_ rfl Tryz.underlying134 (by kernel_rfl)) rfl rfl ?_
    refine u_ (by kernel_rfl) rfl rfl rfl ?_
    intro w hw
    refine (fw_ (l := ((((([] ++ beBytes (u64 c.client) (Int.toNat 1)) ++ beBytes (u64 c.stamp) (Int.toNat 8)) ++ beBytes (u64 c.op) (Int.toNat 1)) ++ beBytes c.letter.data.toList.length 4 ++ c.letter.data.toList) ++ (([c.a, c.b].take z.1).flatMap fun x => beBytes (u64 x) (Int.toNat 8)))) (x := u64 ([c.a, c.b][z.1]'hlt)) (n := 8) hw (hw.bytes (by repeat (first | assumption | exact List.mem_cons_self | exact hmem _ | apply List.mem_cons_of_mem))) (by unfold lots; omega) (cL_ _) rfl).mono ?_; rintro _ _ ⟨r, rfl, hm⟩; refine ⟨_, _, rfl, hm, ?_⟩; clear hm hw w
    refine b_ (j_ rfl) rfl rfl ?_
    refine g_ ?_
    refine o_ ?_
    refine c_ ?_
    refine a_ ?_
    refine b_ (s_ rfl rfl (by simp only [InR, lo, hi]; omega)) rfl rfl ?_
    refine b_ (k_ rfl) rfl rfl ?_
    refine g_ ?_
    refine x_ (z.1 + 1, r) (by show 2 - (z.1 + 1) < 2 - z.1; omega) (by exact ⟨rfl, rfl, rfl, rfl, trivial⟩) (fun w' hw' => ⟨by show z.1 + 1 ≤ 2; omega, ?_⟩)
    have e1 : ((((([] ++ beBytes (u64 c.client) (Int.toNat 1)) ++ beBytes (u64 c.stamp) (Int.toNat 8)) ++ beBytes (u64 c.op) (Int.toNat 1)) ++ beBytes c.letter.data.toList.length 4 ++ c.letter.data.toList) ++ (([c.a, c.b].take (z.1 + 1)).flatMap fun x => beBytes (u64 x) (Int.toNat 8))) = ((((([] ++ beBytes (u64 c.client) (Int.toNat 1)) ++ beBytes (u64 c.stamp) (Int.toNat 8)) ++ beBytes (u64 c.op) (Int.toNat 1)) ++ beBytes c.letter.data.toList.length 4 ++ c.letter.data.toList) ++ (([c.a, c.b].take z.1).flatMap fun x => beBytes (u64 x) (Int.toNat 8))) ++ beBytes (u64 ([c.a, c.b][z.1]'hlt)) (Int.toNat 8) := by
      rw [List.take_succ_eq_append_getElem hlt, List.flatMap_append, ← List.append_assoc]
      simp
    show Mem S _ (bytesD r ((((([] ++ beBytes (u64 c.client) (Int.toNat 1)) ++ beBytes (u64 c.stamp) (Int.toNat 8)) ++ beBytes (u64 c.op) (Int.toNat 1)) ++ beBytes c.letter.data.toList.length 4 ++ c.letter.data.toList) ++ (([c.a, c.b].take (z.1 + 1)).flatMap fun x => beBytes (u64 x) (Int.toNat 8))) :: ρ) w'
    rw [e1]
    exact hw'.less (fun x hx => by rcases List.mem_cons.1 hx with rfl | hx <;> simp [*])
  · skip
    refine et_ rfl (bC_ rfl Tryz.underlying9 Tryz.underlying27 (by assumption)) rfl rfl ?_
    rintro sb22 _ rfl
    refine ⟨_, fun _ h => h.less (fun _ hx => List.mem_cons_of_mem _ hx), fun _ h => h, ?_⟩
    refine I_ rfl (by kernel_rfl) rfl rfl rfl ?_
    intro w hw
    refine (fw_ (l := (([] ++ beBytes (u64 c.client) (Int.toNat 1)) ++ beBytes (u64 c.stamp) (Int.toNat 8))) (x := u64 c.op) (n := 1) hw (hw.bytes (by repeat (first | assumption | exact List.mem_cons_self | exact hmem _ | apply List.mem_cons_of_mem))) (by (simp only [List.length_append, v_, List.length_nil]; unfold lots; omega)) (cL_ _) rfl).mono ?_; rintro _ _ ⟨r, rfl, hm⟩; refine ⟨_, _, rfl, hm, _, fun _ h => h.less (fun _ hx => List.mem_cons_of_mem _ hx), fun _ h => h, ?_⟩; clear hm hw w
    refine I_ rfl (by kernel_rfl) rfl rfl rfl ?_
    intro w hw
    refine (dY_ (l := ((([] ++ beBytes (u64 c.client) (Int.toNat 1)) ++ beBytes (u64 c.stamp) (Int.toNat 8)) ++ beBytes (u64 c.op) (Int.toNat 1))) (m := c.letter.data.toList) hw (by repeat (first | assumption | exact List.mem_cons_self | exact hmem _ | apply List.mem_cons_of_mem)) (by repeat (first | assumption | exact List.mem_cons_self | exact hmem _ | apply List.mem_cons_of_mem)) (by simp only [List.length_append, v_, List.length_nil]; unfold lots; omega) (by omega)).mono ?_; rintro _ _ ⟨r, rfl, hm⟩; refine ⟨_, _, rfl, hm, _, fun _ h => h.less (fun _ hx => List.mem_cons_of_mem _ hx), fun _ h => h, ?_⟩; clear hm hw w
    refine l_ rfl (j_ rfl) rfl rfl ?_
    refine N_ (c_ ?_)
    refine d_ ?_
    refine d_ (a_ ?_)
    refine b_ (y_ tabOk rfl rfl rfl rfl rfl) rfl rfl ?_
    refine b_ (h_ tabOk rfl rfl (by repeat (first | assumption | exact List.mem_cons_self | exact hmem _ | apply List.mem_cons_of_mem)) (by rfl)) rfl rfl ?_
    refine b_ (y_ tabOk rfl rfl rfl rfl rfl) rfl rfl ?_
    refine b_ (h_ tabOk rfl rfl (by repeat (first | assumption | exact List.mem_cons_self | exact hmem _ | apply List.mem_cons_of_mem)) (by rfl)) rfl rfl ?_
    refine b_ (cz_ tabOk rfl rfl rfl rfl) rfl rfl ?_
    refine b_ (k_ rfl) rfl rfl ?_
    refine g_ (c_ ?_)
    refine t_ ?_
    refine S_ (ι := Nat × Value) (fun z => [(1, .pointer (some ⟨b1, 0, none⟩)), (3, z.2), (28, .agg [.int .i64 c.a, .int .i64 c.b].toArray), (29, .int .i64 (z.1 : Nat))]) (fun z w' => z.1 ≤ 2 ∧ Mem S (.blk b1 (row 79 c.cells) :: σ) (bytesD z.2 ((((([] ++ beBytes (u64 c.client) (Int.toNat 1)) ++ beBytes (u64 c.stamp) (Int.toNat 8)) ++ beBytes (u64 c.op) (Int.toNat 1)) ++ beBytes c.letter.data.toList.length 4 ++ c.letter.data.toList) ++ (([c.a, c.b].take z.1).flatMap fun x => beBytes (u64 x) (Int.toNat 8))) :: ρ) w') (fun z => 2 - z.1) (0, _) (by exact ⟨rfl, rfl, rfl, rfl, trivial⟩) (fun w' hw' => ⟨by omega, hw'.less (by intro x hx; simp only [List.take_zero, List.flatMap_nil, List.append_nil] at hx; rcases List.mem_cons.1 hx with rfl | hx <;> simp [*])⟩) ?_
    intro z
    refine a0_ ?_
    intro hz
    have hlen : ((((([] ++ beBytes (u64 c.client) (Int.toNat 1)) ++ beBytes (u64 c.stamp) (Int.toNat 8)) ++ beBytes (u64 c.op) (Int.toNat 1)) ++ beBytes c.letter.data.toList.length 4 ++ c.letter.data.toList) ++ (([c.a, c.b].take z.1).flatMap fun x => beBytes (u64 x) (Int.toNat 8))).length ≤ 10 + (4 + c.letter.data.toList.length) + 16 := by
      simp only [List.length_append, v_, List.length_nil]
      have : ((([c.a, c.b].take z.1).flatMap fun x => beBytes (u64 x) (Int.toNat 8))).length ≤ 16 := by
        rcases (by omega : z.1 = 0 ∨ z.1 = 1 ∨ z.1 = 2) with h | h | h <;> rw [h] <;> simp [v_]
      omega
    refine d_ (a_ ?_)
    refine b_ (ay_ rfl rfl) rfl rfl ?_
    refine g_ (c_ ?_)
    refine d_ ?_
    refine r_ rfl ?_ ?_
    rotate_left
    · intro hc30
      have e2 : ((((([] ++ beBytes (u64 c.client) (Int.toNat 1)) ++ beBytes (u64 c.stamp) (Int.toNat 8)) ++ beBytes (u64 c.op) (Int.toNat 1)) ++ beBytes c.letter.data.toList.length 4 ++ c.letter.data.toList) ++ (([c.a, c.b].take z.1).flatMap fun x => beBytes (u64 x) (Int.toNat 8))) = (((([] ++ beBytes (u64 c.client) (Int.toNat 1)) ++ beBytes (u64 c.stamp) (Int.toNat 8)) ++ beBytes (u64 c.op) (Int.toNat 1)) ++ beBytes c.letter.data.toList.length 4 ++ c.letter.data.toList) ++ (beBytes (u64 c.a) (Int.toNat 8) ++ beBytes (u64 c.b) (Int.toNat 8)) := by
        have h : z.1 = 2 := by omega
        rw [h]
        simp
      rw [e2] at *
      refine Q_ ?_
      refine i_ (by intro h; cases h) ?_
      refine i_ (by intro h; cases h) ?_
      refine P_ ?_
      refine c_ ?_
      refine d_ (a_ ?_)
      refine b_ (k_ rfl) rfl rfl ?_
      refine b_ (y_ tabOk rfl rfl rfl rfl rfl) rfl rfl ?_
      refine b_ (h_ tabOk rfl rfl (by repeat (first | assumption | exact List.mem_cons_self | exact hmem _ | apply List.mem_cons_of_mem)) (by rfl)) rfl rfl ?_
      refine az_ (bC_ rfl Tryz.underlying9 Tryz.underlying27 (by assumption)) rfl rfl ?_
      rintro sb40 _ rfl
      refine u_ (by kernel_rfl) rfl rfl rfl ?_
      intro w hw
      refine (dY_ (l := ((((([] ++ beBytes (u64 c.client) (Int.toNat 1)) ++ beBytes (u64 c.stamp) (Int.toNat 8)) ++ beBytes (u64 c.op) (Int.toNat 1)) ++ beBytes c.letter.data.toList.length 4 ++ c.letter.data.toList) ++ (beBytes (u64 c.a) (Int.toNat 8) ++ beBytes (u64 c.b) (Int.toNat 8)))) (m := c.text.data.toList) hw (by repeat (first | assumption | exact List.mem_cons_self | exact hmem _ | apply List.mem_cons_of_mem)) (by repeat (first | assumption | exact List.mem_cons_self | exact hmem _ | apply List.mem_cons_of_mem)) (by simp only [List.length_append, v_, List.length_nil]; unfold lots; omega) (by omega)).mono ?_; rintro _ _ ⟨r, rfl, hm⟩; refine ⟨_, _, rfl, hm, ?_⟩; clear hm hw w
      refine b_ (j_ rfl) rfl rfl ?_
      refine g_ (c_ ?_)
      refine n_ ?_
      refine M_ rfl rfl ?_
      intro w' hw'
      refine ⟨_, rfl, (hw'.sub (fun _ h => h) (List.sublist_cons_self _ _)).less (fun x hx => ?_)⟩
      rcases List.mem_cons.1 hx with rfl | hx
      · have e3 : c.bytes = (((([] ++ beBytes (u64 c.client) (Int.toNat 1)) ++ beBytes (u64 c.stamp) (Int.toNat 8)) ++ beBytes (u64 c.op) (Int.toNat 1)) ++ beBytes c.letter.data.toList.length 4 ++ c.letter.data.toList) ++ (beBytes (u64 c.a) (Int.toNat 8) ++ beBytes (u64 c.b) (Int.toNat 8)) ++ beBytes c.text.data.toList.length 4 ++ c.text.data.toList := by simp [Core.bytes, rowB]
        rw [e3]; simp
      · simp [*]
    intro hc30
    have hlt : z.1 < [c.a, c.b].length := by show z.1 < 2; omega
    have helt : [Value.int .i64 c.a, Value.int .i64 c.b][z.1]? = some (.int .i64 ([c.a, c.b][z.1]'hlt)) := by
      rcases (by omega : z.1 = 0 ∨ z.1 = 1) with h | h <;> simp only [h] <;> rfl
    refine p_ ?_
    refine c_ ?_
    refine d_ ?_
    refine t_ ?_
    refine d_ (a_ ?_)
    refine b_ (er_ (L := [.int .i64 c.a, .int .i64 c.b]) (v := .int .i64 ([c.a, c.b][z.1]'hlt)) (q := z.1) tabOk rfl rfl rfl rfl rfl rfl hlt helt) rfl rfl ?_
    refine b_ (j_ rfl) rfl rfl ?_
    refine g_ (c_ ?_)
    refine a_ ?_
    iterate 2 refine b_ (k_ rfl) rfl rfl ?_
    refine b_ (aw_ rfl Tryz.underlying134 (by kernel_rfl)) rfl rfl ?_
    refine u_ (by kernel_rfl) rfl rfl rfl ?_
    intro w hw
    refine (fw_ (l := ((((([] ++ beBytes (u64 c.client) (Int.toNat 1)) ++ beBytes (u64 c.stamp) (Int.toNat 8)) ++ beBytes (u64 c.op) (Int.toNat 1)) ++ beBytes c.letter.data.toList.length 4 ++ c.letter.data.toList) ++ (([c.a, c.b].take z.1).flatMap fun x => beBytes (u64 x) (Int.toNat 8)))) (x := u64 ([c.a, c.b][z.1]'hlt)) (n := 8) hw (hw.bytes (by repeat (first | assumption | exact List.mem_cons_self | exact hmem _ | apply List.mem_cons_of_mem))) (by unfold lots; omega) (cL_ _) rfl).mono ?_; rintro _ _ ⟨r, rfl, hm⟩; refine ⟨_, _, rfl, hm, ?_⟩; clear hm hw w
    refine b_ (j_ rfl) rfl rfl ?_
    refine g_ ?_
    refine o_ ?_
    refine c_ ?_
    refine a_ ?_
    refine b_ (s_ rfl rfl (by simp only [InR, lo, hi]; omega)) rfl rfl ?_
    refine b_ (k_ rfl) rfl rfl ?_
    refine g_ ?_
    refine x_ (z.1 + 1, r) (by show 2 - (z.1 + 1) < 2 - z.1; omega) (by exact ⟨rfl, rfl, rfl, rfl, trivial⟩) (fun w' hw' => ⟨by show z.1 + 1 ≤ 2; omega, ?_⟩)
    have e1 : ((((([] ++ beBytes (u64 c.client) (Int.toNat 1)) ++ beBytes (u64 c.stamp) (Int.toNat 8)) ++ beBytes (u64 c.op) (Int.toNat 1)) ++ beBytes c.letter.data.toList.length 4 ++ c.letter.data.toList) ++ (([c.a, c.b].take (z.1 + 1)).flatMap fun x => beBytes (u64 x) (Int.toNat 8))) = ((((([] ++ beBytes (u64 c.client) (Int.toNat 1)) ++ beBytes (u64 c.stamp) (Int.toNat 8)) ++ beBytes (u64 c.op) (Int.toNat 1)) ++ beBytes c.letter.data.toList.length 4 ++ c.letter.data.toList) ++ (([c.a, c.b].take z.1).flatMap fun x => beBytes (u64 x) (Int.toNat 8))) ++ beBytes (u64 ([c.a, c.b][z.1]'hlt)) (Int.toNat 8) := by
      rw [List.take_succ_eq_append_getElem hlt, List.flatMap_append, ← List.append_assoc]
      simp
    show Mem S _ (bytesD r ((((([] ++ beBytes (u64 c.client) (Int.toNat 1)) ++ beBytes (u64 c.stamp) (Int.toNat 8)) ++ beBytes (u64 c.op) (Int.toNat 1)) ++ beBytes c.letter.data.toList.length 4 ++ c.letter.data.toList) ++ (([c.a, c.b].take (z.1 + 1)).flatMap fun x => beBytes (u64 x) (Int.toNat 8))) :: ρ) w'
    rw [e1]
    exact hw'.less (fun x hx => by rcases List.mem_cons.1 hx with rfl | hx <;> simp [*])
theorem ks_ {x n : Nat} (hw : Mem S σ ρ w) (hn : sizeB n = true) : Calls Tryz.prog 80 #[.slice none 0 0, .int .u64 x, .int .i64 n] w fun e w' => ∃ r, e = .returned r ∧ Mem S σ (bytesD r ([] ++ beBytes x n) :: ρ) w' :=
  (e1_ (hw.add (z := bytesD (.slice none 0 0) []) (IsRow.nil rfl)) List.mem_cons_self (by decide) hn).mono fun _ _ ⟨r, h1, h2⟩ => ⟨r, h1, h2.less (fun x hx => by rcases List.mem_cons.1 hx with h | h <;> simp [h])⟩
set_option maxHeartbeats 1000000 in
theorem gZ_ {c : Core} (hw : Mem S σ ρ w) (h1 : c.letter.size ≤ 1000000) (h2 : c.text.size ≤ 1000000) : Calls Tryz.prog 135 #[.agg c.cells.toArray] w fun e w' => ∃ r, e = .returned r ∧ Mem S σ (bytesD r c.bytes :: ρ) w' := by
  have h3 : c.letter.size ≤ lots := by unfold lots; omega
  have h4 : c.text.size ≤ lots := by unfold lots; omega
  have hL : c.letter.data.toList.length ≤ 1000000 := h1
  have hT : c.text.data.toList.length ≤ 1000000 := h2
  refine ad_ [.agg c.cells.toArray] Tryz.func135 rfl Tryz.ntmps135 rfl (Mem S σ ρ) hw ?_
  refine d_ (a_ ?_)
  refine az_ (L_ rfl) rfl rfl ?_
  rintro _ _ ⟨b1, rfl, rfl⟩
  refine b_ (j_ rfl) rfl rfl ?_
  refine g_ (c_ ?_)
  refine d_ ?_
  refine Y_ _ (.q 0 (.q 1 (.q 2 (.q 4 (.q 5 (.q 6 (.q 8 (.q 9 (.q 10 (.e 3 (.e 7 (.e 11 (.q 12 .nil))))))))))))) (by kernel_rfl) (by kernel_rfl) (fun _ h => h) (fun _ h => h.drew) ?_
  refine l_ rfl (y_ tabOk rfl rfl rfl rfl rfl) rfl rfl ?_
  refine l_ rfl (h_ tabOk rfl rfl (by repeat (first | assumption | exact List.mem_cons_self | exact hmem _ | apply List.mem_cons_of_mem)) (by rfl)) rfl rfl ?_
  refine l_ rfl (aw_ rfl Tryz.underlying134 (by kernel_rfl)) rfl rfl ?_
  refine l_ rfl (y_ tabOk rfl rfl rfl rfl rfl) rfl rfl ?_
  refine l_ rfl (h_ tabOk rfl rfl (by repeat (first | assumption | exact List.mem_cons_self | exact hmem _ | apply List.mem_cons_of_mem)) (by rfl)) rfl rfl ?_
  refine l_ rfl (aw_ rfl Tryz.underlying134 (by kernel_rfl)) rfl rfl ?_
  refine l_ rfl (y_ tabOk rfl rfl rfl rfl rfl) rfl rfl ?_
  refine l_ rfl (h_ tabOk rfl rfl (by repeat (first | assumption | exact List.mem_cons_self | exact hmem _ | apply List.mem_cons_of_mem)) (by rfl)) rfl rfl ?_
  refine l_ rfl (aw_ rfl Tryz.underlying134 (by kernel_rfl)) rfl rfl ?_
  refine I_ rfl (by kernel_rfl) rfl rfl rfl ?_
  intro w hw
  refine (ks_ (x := u64 c.client) (n := 1) hw rfl).mono ?_; rintro _ _ ⟨r, rfl, hm⟩; refine ⟨_, _, rfl, hm, _, fun _ h => h.less (fun _ hx => List.mem_cons_of_mem _ hx), fun _ h => h, ?_⟩; clear hm hw w
  refine I_ rfl (by kernel_rfl) rfl rfl rfl ?_
  intro w hw
  refine (e1_ (l := ([] ++ beBytes (u64 c.client) 1)) (x := u64 c.stamp) (n := 8) hw (by repeat (first | assumption | exact List.mem_cons_self | exact hmem _ | apply List.mem_cons_of_mem)) (by simp only [List.length_append, v_, List.length_nil]; unfold lots; omega) rfl).mono ?_; rintro _ _ ⟨r, rfl, hm⟩; refine ⟨_, _, rfl, hm, _, fun _ h => h.less (fun _ hx => List.mem_cons_of_mem _ hx), fun _ h => h, ?_⟩; clear hm hw w
  refine I_ rfl (by kernel_rfl) rfl rfl rfl ?_
  intro w hw
  refine (e1_ (l := (([] ++ beBytes (u64 c.client) 1) ++ beBytes (u64 c.stamp) 8)) (x := u64 c.op) (n := 1) hw (by repeat (first | assumption | exact List.mem_cons_self | exact hmem _ | apply List.mem_cons_of_mem)) (by simp only [List.length_append, v_, List.length_nil]; unfold lots; omega) rfl).mono ?_; rintro _ _ ⟨r, rfl, hm⟩; refine ⟨_, _, rfl, hm, _, fun _ h => h.less (fun _ hx => List.mem_cons_of_mem _ hx), fun _ h => h, ?_⟩; clear hm hw w
  refine l_ rfl (j_ rfl) rfl rfl ?_
  refine N_ (c_ ?_)
  refine d_ (a_ ?_)
  refine b_ (k_ rfl) rfl rfl ?_
  refine b_ (y_ tabOk rfl rfl rfl rfl rfl) rfl rfl ?_
  refine b_ (h_ tabOk rfl rfl (by repeat (first | assumption | exact List.mem_cons_self | exact hmem _ | apply List.mem_cons_of_mem)) (by rfl)) rfl rfl ?_
  refine az_ (bC_ rfl Tryz.underlying9 Tryz.underlying27 (by assumption)) rfl rfl ?_
  rintro sb19 _ rfl
  refine u_ (by kernel_rfl) rfl rfl rfl ?_
  intro w hw
  refine (eA_ (l := ((([] ++ beBytes (u64 c.client) 1) ++ beBytes (u64 c.stamp) 8) ++ beBytes (u64 c.op) 1)) (m := c.letter.data.toList) hw (by repeat (first | assumption | exact List.mem_cons_self | exact hmem _ | apply List.mem_cons_of_mem)) (by repeat (first | assumption | exact List.mem_cons_self | exact hmem _ | apply List.mem_cons_of_mem)) (by simp only [List.length_append, v_, List.length_nil]; unfold lots; omega) (by omega)).mono ?_; rintro _ _ ⟨r, rfl, hm⟩; refine ⟨_, _, rfl, hm, ?_⟩; clear hm hw w
  refine b_ (j_ rfl) rfl rfl ?_
  refine g_ (c_ ?_)
  refine d_ ?_
  refine Y_ _ (.q 0 (.q 1 (.q 2 (.q 3 (.q 5 (.q 6 (.q 7 (.e 4 (.e 8 (.q 9 .nil)))))))))) (by kernel_rfl) (by kernel_rfl) (fun _ h => h) (fun _ h => h.drew) ?_
  refine l_ rfl (k_ rfl) rfl rfl ?_
  refine l_ rfl (y_ tabOk rfl rfl rfl rfl rfl) rfl rfl ?_
  refine l_ rfl (h_ tabOk rfl rfl (by repeat (first | assumption | exact List.mem_cons_self | exact hmem _ | apply List.mem_cons_of_mem)) (by rfl)) rfl rfl ?_
  refine l_ rfl (aw_ rfl Tryz.underlying134 (by kernel_rfl)) rfl rfl ?_
  refine l_ rfl (y_ tabOk rfl rfl rfl rfl rfl) rfl rfl ?_
  refine l_ rfl (h_ tabOk rfl rfl (by repeat (first | assumption | exact List.mem_cons_self | exact hmem _ | apply List.mem_cons_of_mem)) (by rfl)) rfl rfl ?_
  refine l_ rfl (aw_ rfl Tryz.underlying134 (by kernel_rfl)) rfl rfl ?_
  refine I_ rfl (by kernel_rfl) rfl rfl rfl ?_
  intro w hw
  refine (e1_ (l := (((([] ++ beBytes (u64 c.client) 1) ++ beBytes (u64 c.stamp) 8) ++ beBytes (u64 c.op) 1) ++ beBytes c.letter.data.toList.length 4 ++ c.letter.data.toList)) (x := u64 c.a) (n := 8) hw (by repeat (first | assumption | exact List.mem_cons_self | exact hmem _ | apply List.mem_cons_of_mem)) (by simp only [List.length_append, v_, List.length_nil]; unfold lots; omega) rfl).mono ?_; rintro _ _ ⟨r, rfl, hm⟩; refine ⟨_, _, rfl, hm, _, fun _ h => h.less (fun _ hx => List.mem_cons_of_mem _ hx), fun _ h => h, ?_⟩; clear hm hw w
  refine I_ rfl (by kernel_rfl) rfl rfl rfl ?_
  intro w hw
  refine (e1_ (l := ((((([] ++ beBytes (u64 c.client) 1) ++ beBytes (u64 c.stamp) 8) ++ beBytes (u64 c.op) 1) ++ beBytes c.letter.data.toList.length 4 ++ c.letter.data.toList) ++ beBytes (u64 c.a) 8)) (x := u64 c.b) (n := 8) hw (by repeat (first | assumption | exact List.mem_cons_self | exact hmem _ | apply List.mem_cons_of_mem)) (by simp only [List.length_append, v_, List.length_nil]; unfold lots; omega) rfl).mono ?_; rintro _ _ ⟨r, rfl, hm⟩; refine ⟨_, _, rfl, hm, _, fun _ h => h.less (fun _ hx => List.mem_cons_of_mem _ hx), fun _ h => h, ?_⟩; clear hm hw w
  refine l_ rfl (j_ rfl) rfl rfl ?_
  refine N_ (c_ ?_)
  refine d_ (a_ ?_)
  refine b_ (k_ rfl) rfl rfl ?_
  refine b_ (y_ tabOk rfl rfl rfl rfl rfl) rfl rfl ?_
  refine b_ (h_ tabOk rfl rfl (by repeat (first | assumption | exact List.mem_cons_self | exact hmem _ | apply List.mem_cons_of_mem)) (by rfl)) rfl rfl ?_
  refine az_ (bC_ rfl Tryz.underlying9 Tryz.underlying27 (by assumption)) rfl rfl ?_
  rintro sb33 _ rfl
  refine u_ (by kernel_rfl) rfl rfl rfl ?_
  intro w hw
  refine (eA_ (l := (((((([] ++ beBytes (u64 c.client) 1) ++ beBytes (u64 c.stamp) 8) ++ beBytes (u64 c.op) 1) ++ beBytes c.letter.data.toList.length 4 ++ c.letter.data.toList) ++ beBytes (u64 c.a) 8) ++ beBytes (u64 c.b) 8)) (m := c.text.data.toList) hw (by repeat (first | assumption | exact List.mem_cons_self | exact hmem _ | apply List.mem_cons_of_mem)) (by repeat (first | assumption | exact List.mem_cons_self | exact hmem _ | apply List.mem_cons_of_mem)) (by simp only [List.length_append, v_, List.length_nil]; unfold lots; omega) (by omega)).mono ?_; rintro _ _ ⟨r, rfl, hm⟩; refine ⟨_, _, rfl, hm, ?_⟩; clear hm hw w
  refine b_ (j_ rfl) rfl rfl ?_
  refine g_ (c_ ?_)
  refine n_ ?_
  refine M_ rfl rfl ?_
  intro w' hw'
  refine ⟨_, rfl, (hw'.sub (fun _ h => h) (List.sublist_cons_self _ _)).less (fun x hx => ?_)⟩
  rcases List.mem_cons.1 hx with rfl | hx
  · have e3 : c.bytes = (((((([] ++ beBytes (u64 c.client) 1) ++ beBytes (u64 c.stamp) 8) ++ beBytes (u64 c.op) 1) ++ beBytes c.letter.data.toList.length 4 ++ c.letter.data.toList) ++ beBytes (u64 c.a) 8) ++ beBytes (u64 c.b) 8) ++ beBytes c.text.data.toList.length 4 ++ c.text.data.toList := by simp [Core.bytes, rowB]
    rw [e3]; simp
  · simp [*]
end
structure Ent where
  core : Core
  mask : Nat
def Ent.cells (e : Ent) : List Value := [.int .i64 e.core.client, .int .i64 e.core.stamp, .int .i64 e.core.op, .string e.core.letter, .int .i64 e.core.a, .int .i64 e.core.b, .string e.core.text, .int .u32 e.mask]
theorem Ent.one (e : Ent) : ∀ u ∈ e.cells, u.oneCell' = true := by
  intro u hu
  simp only [Ent.cells, List.mem_cons, List.not_mem_nil, or_false] at hu
  rcases hu with rfl | rfl | rfl | rfl | rfl | rfl | rfl | rfl <;> rfl
end Go.Proofs.YtggajaigfkekhaaGreat
