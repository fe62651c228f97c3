/-
  Packed out of the texts: A2, A3, A4, A5.
-/
import Derived.Test.YtjclgkddfjbdiaaGreatDoorR02
set_option maxRecDepth 100000
set_option linter.unusedSimpArgs false
set_option linter.unusedVariables false
namespace Go.Proofs.YtjclgkddfjbdiaaGreatDoor.A
open Go.RowKit
abbrev Slots := List (Nat × Abs)
def slot : Slots → Nat → Option Abs
  | [], _ => none
  | (i, v) :: l, t => bif Nat.beq i t then some v else slot l t
def look (l : Slots) : Operand → Option Abs
  | .tmp t => slot l t
  | .const v => some (.v v)
  | .global g => some (.v (.pointer (some ⟨g, 0, none⟩)))
  | .func f => some (.fn (.func f) [] [])
def looks (l : Slots) : List Operand → Option (List Abs)
  | [] => some []
  | x :: xs => match look l x, looks l xs with
    | some v, some vs => some (v :: vs)
    | _, _ => none
def put? (l : Slots) (d : Option Nat) (v : Abs) : Slots := match d with
  | some d => (d, v) :: l
  | none => l
def Subs (l : Slots) : Slots → Prop
  | [] => True
  | (t, v) :: r => slot l t = some v ∧ Subs l r
theorem Subs.slot {l : Slots} : ∀ {r : Slots}, Subs l r → ∀ t v, slot r t = some v → A.slot l t = some v
  | [], _, t, v, h => by simp [A.slot] at h
  | (i, u) :: r, hs, t, v, h => by
    unfold A.slot at h
    by_cases hit : i = t
    · subst hit
      simp at h
      subst h
      exact hs.1
    · have : Nat.beq i t = false := cy_ hit
      rw [this] at h
      exact hs.2.slot t v h
structure Wd where
  w0 : World
  F : List Nat
  G : List Nat
structure St (n : Nat) (W : Wd) (σ : Blks) (l : Slots) (a : Act) (w : World) : Prop where
  defers : a.defers = []
  size : a.tmps.size = n
  slots : ∀ t x, slot l t = some x → ∃ u, a.tmps[t]? = some u ∧ rep (mids σ ++ W.G) w x u
  mem : Mem W.w0 W.F W.G σ w
section
variable {n : Nat} {W : Wd} {σ τ : Blks} {l l' : Slots} {a : Act} {w w' : World} {x : Operand} {y : Abs} {v u : Value}
theorem rep_fn0 {K : List Nat} {f : Fn} {x : Value} : rep K w (.fn f [] []) x ↔ x = .func f #[] #[] := by
  simp only [rep, reps]
  constructor
  · rintro ⟨us, vs, h, h1, h2⟩; subst h1 h2; exact h
  · rintro rfl; exact ⟨[], [], rfl, rfl, rfl⟩
theorem St.eval (h : St n W σ l a w) (hx : look l x = some y) : rep (mids σ ++ W.G) w y (a.eval x) := by
  cases x with
  | tmp t =>
    obtain ⟨u, h1, h2⟩ := h.slots t y hx
    have : a.eval (.tmp t) = u := by simp [Act.eval, h1]
    rw [this]; exact h2
  | const c => simp only [look, Option.some.injEq] at hx; subst hx; exact rfl
  | global g => simp only [look, Option.some.injEq] at hx; subst hx; exact rfl
  | func f => simp only [look, Option.some.injEq] at hx; subst hx; exact rep_fn0.2 rfl
theorem St.plain (h : St n W σ l a w) (hx : look l x = some (.v u)) : a.eval x = u := h.eval hx
theorem St.evals (h : St n W σ l a w) : ∀ {xs : List Operand} {ys : List Abs}, looks l xs = some ys → reps (mids σ ++ W.G) w ys (xs.map a.eval)
  | [], ys, hx => by simp [looks] at hx; subst hx; rfl
  | x :: xs, ys, hx => by
    unfold looks at hx
    cases h1 : look l x with
    | none => simp [h1] at hx
    | some v =>
      cases h2 : looks l xs with
      | none => simp [h1, h2] at hx
      | some us =>
        simp [h1, h2] at hx
        subst hx
        exact ⟨_, _, rfl, h.eval h1, h.evals h2⟩
theorem St.to (h : St n W σ l a w) (hm : Mem W.w0 W.F W.G τ w') (hc : Carry (mids σ ++ W.G) w (mids τ ++ W.G) w') : St n W τ l a w' :=
  ⟨h.defers, h.size, fun t x hx => by obtain ⟨u, h1, h2⟩ := h.slots t x hx; exact ⟨u, h1, a7_ hc _ _ h2⟩, hm⟩
theorem St.put (h : St n W σ l a w) {d : Option Nat} (hd : lt? d n = true) (hr : rep (mids σ ++ W.G) w y v) : St n W σ (put? l d y) (a.put d v) w := by
  cases d with
  | none => exact h
  | some d =>
    have hd : d < n := by simpa [lt?, Nat.blt_eq] using hd
    refine ⟨h.defers, by simp [Act.put, h.size], fun t x hx => ?_, h.mem⟩
    simp only [A.put?] at hx
    unfold slot at hx
    by_cases hdt : d = t
    · subst hdt
      simp at hx
      subst hx
      exact ⟨v, by simp [Act.put, h.size, hd], hr⟩
    · rw [cy_ hdt] at hx
      obtain ⟨u, h1, h2⟩ := h.slots t x hx
      refine ⟨u, ?_, h2⟩
      simp only [Act.put]
      rw [Array.getElem?_setIfInBounds_ne hdt]; exact h1
theorem St.sub (h : St n W σ l a w) {r : Slots} (hs : Subs l r) : St n W σ r a w := ⟨h.defers, h.size, fun t v hv => h.slots t v (hs.slot t v hv), h.mem⟩
theorem St.less (h : St n W σ l a w) (hs : τ.Sublist σ) : St n W τ l a w := let ⟨h1, h2⟩ := h.mem.sub hs; h.to h1 h2
theorem St.perm (h : St n W σ l a w) (hs : τ.Perm σ) : St n W τ l a w := let ⟨h1, h2⟩ := h.mem.perm hs; h.to h1 h2
theorem St.drew (h : St n W σ l a w) : St n W σ l a w.drew := let ⟨h1, h2⟩ := h.mem.same (Still.ext (Still.drewN w 1)); h.to h1 h2
theorem St.cast (h : St n W σ l a w) {t : Nat} {z : Abs} (hs : slot l t = some y) (hz : ∀ u, rep (mids σ ++ W.G) w y u → rep (mids σ ++ W.G) w z u) : St n W σ ((t, z) :: l) a w := by
  refine ⟨h.defers, h.size, fun i x hx => ?_, h.mem⟩
  unfold slot at hx
  by_cases hti : t = i
  · subst hti
    simp at hx
    subst hx
    obtain ⟨u, h1, h2⟩ := h.slots _ _ hs
    exact ⟨u, h1, hz u h2⟩
  · rw [cy_ hti] at hx
    exact h.slots i x hx
def gd (ops : Array Oper) (l : Slots) (o : Oper) : Option Bool := match o.guard with
  | none => some true
  | some (j, want) => match (ops[j]?).bind (·.dst) with
    | some d => match slot l d with
      | some (.v (.bool b)) => some (b == want)
      | some (.v (.tuple _)) => some false
      | _ => none
    | none => none
theorem St.wanted (h : St n W σ l a w) {ops : Array Oper} {o : Oper} {r : Bool} (hg : gd ops l o = some r) : Region.wanted o (yielded ops a.tmps) = r := by
  unfold gd at hg
  unfold Region.wanted
  cases hgd : o.guard with
  | none => simp [hgd] at hg; show true = r; exact hg.symm
  | some p =>
    obtain ⟨j, want⟩ := p
    simp only [hgd] at hg
    dsimp only
    unfold yielded
    cases hd : (ops[j]?).bind (·.dst) with
    | none => simp [hd] at hg
    | some d =>
      simp only [hd] at hg
      cases hs : slot l d with
      | none => simp [hs] at hg
      | some y =>
        simp only [hs] at hg
        obtain ⟨u, h1, h2⟩ := h.slots d y hs
        simp only [Option.bind_some, h1]
        cases y with
        | v c =>
          have : u = c := h2
          subst this
          cases u <;> simp at hg
          · rename_i b
            rw [← hg]
            cases b <;> cases want <;> rfl
          · rw [hg]
            cases want <;> rfl
        | _ => simp at hg
end
/-! ### Judgements -/
section
variable {P : Program} {n : Nat} {W : Wd} {ops : Array Oper} {l : Slots} {σ τ : Blks} {X : List Nat} {Q : Exit → Act → World → Prop} {o : Oper} {rest : List Oper} {ix : Plan} {T : Act → World → Prop}
def SL (P : Program) (ops : Array Oper) (rest : List Oper) (T : Act → World → Prop) (Q : Exit → Act → World → Prop) : Prop := ∀ a w, T a w → wpList P ops Q rest a w
def SC (P : Program) (c : Code) (T : Act → World → Prop) (Q : Exit → Act → World → Prop) : Prop := ∀ a w, T a w → c.wp P Q a w
def SE (e : Exit) (T : Act → World → Prop) (Q : Exit → Act → World → Prop) : Prop := ∀ a w, T a w → Q e a w
def SX (P : Program) (ops : Array Oper) (ix : Plan) (X : List Nat) (T : Act → World → Prop) (Q : Exit → Act → World → Prop) : Prop := ∀ a w, T a w → planW P ops (Q .normal) ix (fun w' => Ext X w w') a w
def Val (P : Program) (n : Nat) (W : Wd) (σ : Blks) (l : Slots) (X : List Nat) (o : Oper) (y : Abs) : Prop := ∀ a w, St n W σ l a w → (∀ k ∈ X, k ∈ mids σ) →
  ∃ v, rep (mids σ ++ W.G) w y v ∧ ∀ w', Ext X w w' → (execOp a.eval o).run P w' = .ok (.value v) w'
def Eff (P : Program) (n : Nat) (W : Wd) (σ : Blks) (l : Slots) (Y : List Nat) (o : Oper) (R : Abs → Blks → Prop) : Prop := ∀ a w, St n W σ l a w →
  ∃ v w' y τ, R y τ ∧ Ext Y w w' ∧ rep (mids τ ++ W.G) w' y v ∧ Mem W.w0 W.F W.G τ w' ∧ Carry (mids σ ++ W.G) w (mids τ ++ W.G) w' ∧
  ((execOp a.eval o).run P w = .ok (.value v) w' ∨ (v = undef ∧ (execOp a.eval o).run P w = .ok .skip w'))
theorem d_ (h : SE .normal T Q) : SL P ops [] T Q := h
theorem SL.to {T' : Act → World → Prop} (h : ∀ a w, T a w → T' a w) (k : SL P ops rest T' Q) : SL P ops rest T Q := fun a w ha => k a w (h a w ha)
theorem SX.to {T' : Act → World → Prop} (h : ∀ a w, T a w → T' a w) (k : SX P ops ix X T' Q) : SX P ops ix X T Q := fun a w ha => k a w (h a w ha)
theorem SC.to {c : Code} {T' : Act → World → Prop} (h : ∀ a w, T a w → T' a w) (k : SC P c T' Q) : SC P c T Q := fun a w ha => k a w (h a w ha)
theorem i_ {y : Abs} (hv : Val P n W σ l [] o y) (hg : gd ops l o = some true) (hd : lt? o.dst n = true) (k : SL P ops rest (St n W σ (put? l o.dst y)) Q) : SL P ops (o :: rest) (St n W σ l) Q := fun a w hs =>
  wpList_step fun K hK => by
    rw [if_pos (hs.wanted hg)]
    obtain ⟨v, hr, hrun⟩ := hv a w hs (by simp)
    unfold Oper.wp
    rw [hrun w (Ext.refl w)]
    exact hK _ _ (k _ _ (hs.put hd hr))
theorem by_ {Y : List Nat} {R : Abs → Blks → Prop} (hv : Eff P n W σ l Y o R) (hg : gd ops l o = some true) (hd : lt? o.dst n = true) (k : ∀ y τ, R y τ → SL P ops rest (St n W τ (put? l o.dst y)) Q) : SL P ops (o :: rest) (St n W σ l) Q := fun a w hs =>
  wpList_step fun K hK => by
    rw [if_pos (hs.wanted hg)]
    unfold Oper.wp
    obtain ⟨v, w', y, τ, hR, _, hr, hm, hc, hrun | ⟨rfl, hrun⟩⟩ := hv a w hs
    · rw [hrun]; exact hK _ _ (k _ _ hR _ _ ((hs.to hm hc).put hd hr))
    · rw [hrun]; exact hK _ _ (k _ _ hR _ _ ((hs.to hm hc).put hd hr))
theorem aH_ (hg : gd ops l o = some false) (hd : lt? o.dst n = true) (k : SL P ops rest (St n W σ (put? l o.dst (.v undef))) Q) : SL P ops (o :: rest) (St n W σ l) Q := fun a w hs =>
  wpList_step fun K hK => by
    rw [if_neg (by rw [hs.wanted hg]; simp)]
    exact hK _ _ (k _ _ (hs.put hd (show rep _ _ (.v undef) undef from rfl)))
theorem b5_ {t : Nat} {b : Bool} (hs : slot l t = some (.v (.bool b))) (ht : b = true → SL P ops rest (St n W σ ((t, .v (.bool true)) :: l)) Q) (hf : b = false → SL P ops rest (St n W σ ((t, .v (.bool false)) :: l)) Q) : SL P ops rest (St n W σ l) Q := fun a w h => by
  cases b with
  | true => exact ht rfl a w (h.cast hs fun _ h => h)
  | false => exact hf rfl a w (h.cast hs fun _ h => h)
theorem A_ {t : Nat} {p : Prop} [hp : Decidable p] (hs : slot l t = some (.v (.bool (decide p)))) (ht : p → SL P ops rest (St n W σ ((t, .v (.bool true)) :: l)) Q) (hf : ¬p → SL P ops rest (St n W σ ((t, .v (.bool false)) :: l)) Q) : SL P ops rest (St n W σ l) Q :=
  b5_ hs (fun h => ht (of_decide_eq_true h)) (fun h => hf (of_decide_eq_false h))
theorem F_ (h : SE .normal T Q) : SX P ops .nil X T Q := fun a w hs => h a w hs
theorem bo_ {i : Nat} {y : Abs} (hi : ops[i]? = some o) (hv : Val P n W σ l X o y) (hX : ∀ k ∈ X, k ∈ mids σ) (hg : gd ops l o = some true) (hd : lt? o.dst n = true) (k : SX P ops ix X (St n W σ (put? l o.dst y)) Q) : SX P ops (.q i ix) X (St n W σ l) Q := fun a w hs => by
  obtain ⟨v, hr, hrun⟩ := hv a w hs hX
  exact ⟨o, v, hi, .inl ⟨hs.wanted hg, fun w' hw' => hrun w' hw'⟩, k _ _ (hs.put hd hr)⟩
theorem cr_ (h : ∀ k ∈ X, k ∈ mids σ) (k : (∀ k ∈ X, k ∈ mids σ) → SX P ops ix X (St n W σ l) Q) : SX P ops ix X (St n W σ l) Q := k h
theorem d3_ {i : Nat} (hi : ops[i]? = some o) (hg : gd ops l o = some false) (hd : lt? o.dst n = true) (k : SX P ops ix X (St n W σ (put? l o.dst (.v undef))) Q) : SX P ops (.q i ix) X (St n W σ l) Q := fun _ _ hs =>
  ⟨o, undef, hi, .inr ⟨hs.wanted hg, rfl⟩, k _ _ (hs.put hd (show rep _ _ (.v undef) undef from rfl))⟩
theorem bi_ {i : Nat} (hi : ops[i]? = some o) (hg : gd ops l o = some false) (hd : lt? o.dst n = true) (k : SX P ops ix X (St n W σ (put? l o.dst (.v undef))) Q) : SX P ops (.e i ix) X (St n W σ l) Q := fun a w hs => by
  unfold planW wpOp
  simp only [hi, hs.wanted hg]
  exact ⟨_, fun _ h => h, Ext.refl w, k _ _ (hs.put hd (show rep _ _ (.v undef) undef from rfl))⟩
theorem ha_ {i : Nat} {Y : List Nat} {R : Abs → Blks → Prop} (hi : ops[i]? = some o) (hv : Eff P n W σ l Y o R) (hY : ∀ k ∈ Y, k ∈ X) (hg : gd ops l o = some true) (hd : lt? o.dst n = true)
    (k : ∀ y τ, R y τ → SX P ops ix X (St n W τ (put? l o.dst y)) Q) : SX P ops (.e i ix) X (St n W σ l) Q := fun a w hs => by
  unfold planW wpOp
  simp only [hi, hs.wanted hg, if_true]
  refine .inl ?_
  unfold Oper.wp
  obtain ⟨v, w', y, τ, hR, hx, hr, hm, hc, hrun | ⟨rfl, hrun⟩⟩ := hv a w hs
  · rw [hrun]; exact ⟨fun w2 => Ext X w' w2, fun w2 h2 => (hx.mono (fun k hk => .inl (hY k hk))).trans h2 fun k hk => .inl hk, Ext.refl w', k _ _ hR _ _ ((hs.to hm hc).put hd hr)⟩
  · rw [hrun]; exact ⟨fun w2 => Ext X w' w2, fun w2 h2 => (hx.mono (fun k hk => .inl (hY k hk))).trans h2 fun k hk => .inl hk, Ext.refl w', k _ _ hR _ _ ((hs.to hm hc).put hd hr)⟩
theorem bn_ {i : Nat} {y : Abs} (hi : ops[i]? = some o) (hv : Val P n W σ l [] o y) (hg : gd ops l o = some true) (hd : lt? o.dst n = true) (k : SX P ops ix X (St n W σ (put? l o.dst y)) Q) : SX P ops (.e i ix) X (St n W σ l) Q := fun a w hs => by
  unfold planW wpOp
  simp only [hi, hs.wanted hg, if_true]
  refine .inl ?_
  unfold Oper.wp
  obtain ⟨v, hr, hrun⟩ := hv a w hs (by simp)
  rw [hrun w (Ext.refl w)]
  exact ⟨fun w2 => Ext X w w2, fun w2 h2 => h2, Ext.refl w, k _ _ (hs.put hd hr)⟩
theorem d4_ (X' : List Nat) {i : Nat} {Y : List Nat} {R : Abs → Blks → Prop} (hi : ops[i]? = some o) (hv : Eff P n W σ l Y o R) (hY : ∀ k ∈ Y, k ∈ X) (hX' : ∀ k ∈ X', k ∈ X) (hg : gd ops l o = some true) (hd : lt? o.dst n = true)
    (k : ∀ y τ, R y τ → SX P ops ix X' (St n W τ (put? l o.dst y)) Q) : SX P ops (.e i ix) X (St n W σ l) Q := fun a w hs => by
  unfold planW wpOp
  simp only [hi, hs.wanted hg, if_true]
  refine .inl ?_
  unfold Oper.wp
  obtain ⟨v, w', y, τ, hR, hx, hr, hm, hc, hrun | ⟨rfl, hrun⟩⟩ := hv a w hs
  · rw [hrun]; exact ⟨fun w2 => Ext X' w' w2, fun w2 h2 => (hx.mono (fun k hk => .inl (hY k hk))).trans h2 fun k hk => .inl (hX' k hk), Ext.refl w', k _ _ hR _ _ ((hs.to hm hc).put hd hr)⟩
  · rw [hrun]; exact ⟨fun w2 => Ext X' w' w2, fun w2 h2 => (hx.mono (fun k hk => .inl (hY k hk))).trans h2 fun k hk => .inl (hX' k hk), Ext.refl w', k _ _ hR _ _ ((hs.to hm hc).put hd hr)⟩
theorem aV_ {i j : Nat} {k h : Plan} (h1 : SX P ops (.e i k) X T Q) (h2 : SX P ops (.e j h) X T Q) : SX P ops (.two i j k h) X T Q := fun a w hs => ⟨h1 a w hs, h2 a w hs⟩
theorem SX.three {i j r : Nat} {k h m : Plan} (h1 : SX P ops (.e i k) X T Q) (h2 : SX P ops (.e j h) X T Q) (h3 : SX P ops (.e r m) X T Q) : SX P ops (.three i j r k h m) X T Q := fun a w hs => ⟨h1 a w hs, h2 a w hs, h3 a w hs⟩
theorem SX.four {i j r q : Nat} {k h m s : Plan} (h1 : SX P ops (.e i k) X T Q) (h2 : SX P ops (.e j h) X T Q) (h3 : SX P ops (.e r m) X T Q) (h4 : SX P ops (.e q s) X T Q) : SX P ops (.four i j r q k h m s) X T Q := fun a w hs => ⟨h1 a w hs, h2 a w hs, h3 a w hs, h4 a w hs⟩
theorem gd_ {t : Nat} {b : Bool} (hs : slot l t = some (.v (.bool b))) (ht : b = true → SX P ops ix X (St n W σ ((t, .v (.bool true)) :: l)) Q) (hf : b = false → SX P ops ix X (St n W σ ((t, .v (.bool false)) :: l)) Q) : SX P ops ix X (St n W σ l) Q := fun a w h => by
  cases b with
  | true => exact ht rfl a w (h.cast hs fun _ h => h)
  | false => exact hf rfl a w (h.cast hs fun _ h => h)
theorem aK_ {t : Nat} {p : Prop} [hp : Decidable p] (hs : slot l t = some (.v (.bool (decide p)))) (ht : p → SX P ops ix X (St n W σ ((t, .v (.bool true)) :: l)) Q) (hf : ¬p → SX P ops ix X (St n W σ ((t, .v (.bool false)) :: l)) Q) : SX P ops ix X (St n W σ l) Q :=
  gd_ hs (fun h => ht (of_decide_eq_true h)) (fun h => hf (of_decide_eq_false h))
theorem Q_ {id : Nat} (X : List Nat) (ix : Plan) (hm : P.follows .mixedOrders = true)
    (hok : (Region.noSelect ops && planOk ops ops.size (Array.replicate ops.size false) ix) = true) (h : SX P ops ix X (St n W σ l) Q) : SC P (.region id ops true) (St n W σ l) Q := fun a w hs =>
  b0_ (fun w' => Ext X w.drew w') ix hm hok (Ext.refl _) (h a _ hs.drew)
/-! ### Codes -/
section
variable {x y : Code} {id : Nat} {F : Exit → Act → World → Prop}
theorem c_ (h : SC P x T (Exit.then (y.wp P Q) Q)) : SC P (.seq x y) T Q := fun a w hs => wp_seq (h a w hs)
theorem a_ {os : List Oper} (h : SL P os.toArray os T Q) : SC P (.region id os.toArray false) T Q := fun a w hs => wp_region_lit (h a w hs)
theorem o_ (h : SE .normal T Q) : SC P .skip T Q := fun a w hs => wp_skip (h a w hs)
theorem N_ (h : SE (.exit id) T Q) : SC P (.exit id) T Q := fun a w hs => wp_exit (h a w hs)
theorem k_ (h : SE .ret T Q) : SC P .ret T Q := fun a w hs => wp_ret (h a w hs)
theorem u_ (h : SC P x T (Exit.inBlock id Q)) : SC P (.block id x) T Q := fun a w hs => wp_block (h a w hs)
theorem ar_ {c : Operand} {b : Bool} (hc : look l c = some (.v (.bool b))) (ht : b = true → SC P x (St n W σ l) Q) (hf : b = false → SC P y (St n W σ l) Q) : SC P (.cond c x y) (St n W σ l) Q := fun a w hs =>
  wp_cond_split (hs.plain hc) (fun h => ht h a w hs) (fun h => hf h a w hs)
theorem l_ {c : Operand} {p : Prop} [Decidable p] (hc : look l c = some (.v (.bool (decide p)))) (ht : p → SC P x (St n W σ l) Q) (hf : ¬p → SC P y (St n W σ l) Q) : SC P (.cond c x y) (St n W σ l) Q :=
  ar_ hc (fun h => ht (of_decide_eq_true h)) (fun h => hf (of_decide_eq_false h))
theorem U_ {c : Operand} (hc : look l c = some (.v (.bool true))) (ht : SC P x (St n W σ l) Q) : SC P (.cond c x y) (St n W σ l) Q := ar_ hc (fun _ => ht) (fun h => by cases h)
theorem O_ {c : Operand} (hc : look l c = some (.v (.bool false))) (hf : SC P y (St n W σ l) Q) : SC P (.cond c x y) (St n W σ l) Q := ar_ hc (fun h => by cases h) (fun _ => hf)
theorem b_ (h : SC P y T Q) : SE .normal T (Exit.then (y.wp P Q) Q) := h
theorem j_ {e : Exit} {G : Act → World → Prop} (he : e ≠ .normal) (h : SE e T Q) : SE e T (Exit.then G Q) := fun a w hs => by
  cases e <;> first | exact h a w hs | exact absurd rfl he
theorem w_ (h : SE .normal T Q) : SE .normal T (Exit.inBlock id Q) := h
theorem M_ (h : SE .normal T Q) : SE (.exit id) T (Exit.inBlock id Q) := fun a w hs => by
  show if id = id then _ else _
  rw [if_pos rfl]; exact h a w hs
theorem S_ (h : SE .ret T Q) : SE .ret T (Exit.inBlock id Q) := h
theorem SC.loop0 {ι : Type} (K : ι → Act → World → Prop) (m : ι → Nat) (x₀ : ι) (hs : ∀ a w, T a w → K x₀ a w)
    (round : ∀ z, SC P x (K z) (Exit.then (fun a w => ∃ u, m u < m z ∧ K u a w) Q)) : SC P (.loop x) T Q := by
  intro a0 w0 hf0 b kk cs
  have key : ∀ k z, m z = k → ∀ a w, K z a w →
      ∃ e a' w', Q e a' w' ∧ Arrives P (lone (b.at a (.code x :: .inLoop x :: kk)) cs w) b kk cs e a' w' := by
    intro k
    induction k using Nat.strongRecOn with
    | _ k ih =>
      intro z hz a w hw
      obtain ⟨e, a₁, w₁, hq, harr⟩ := round z a w hw b (.inLoop x :: kk) cs
      cases e with
      | normal =>
        obtain ⟨u, hu, hw₁⟩ := hq
        obtain ⟨e₂, a₂, w₂, hq₂, harr₂⟩ := ih (m u) (hz ▸ hu) u rfl a₁ w₁ hw₁
        exact ⟨e₂, a₂, w₂, hq₂, .of_steps (Steps.trans harr (.one step_inLoop)) harr₂⟩
      | exit id => exact ⟨_, a₁, w₁, hq, .pass (x := .inLoop x) rfl (fun _ _ => .inl (by simp)) harr⟩
      | goto l => exact ⟨_, a₁, w₁, hq, .pass (x := .inLoop x) rfl (fun _ _ => .inl (by simp)) harr⟩
      | ret => exact ⟨_, a₁, w₁, hq, .pass (x := .inLoop x) rfl (fun _ _ => .inl (by simp)) harr⟩
      | panic ch => exact ⟨_, a₁, w₁, hq, .pass (x := .inLoop x) rfl (fun _ _ => .inl (by simp)) harr⟩
      | outgrown => exact ⟨_, a₁, w₁, hq, .pass (x := .inLoop x) rfl (fun _ _ => .inl (by simp)) harr⟩
  obtain ⟨e, a', w', hq, harr⟩ := key _ x₀ rfl a0 w0 (hs a0 w0 hf0)
  exact ⟨e, a', w', hq, .of_steps (.one step_loop) harr⟩
def Head {ι : Type} (n : Nat) (W : Wd) (H : ι → Blks) (L : ι → Slots) (Φ : ι → Prop) (z : ι) (a : Act) (w : World) : Prop := Φ z ∧ St n W (H z) (L z) a w
theorem P_ {ι : Type} (H : ι → Blks) (L : ι → Slots) (Φ : ι → Prop) (m : ι → Nat) (x₀ : ι) (hΦ : Φ x₀) (hs : Subs l (L x₀)) (hH : (H x₀).Sublist σ)
    (round : ∀ z, Φ z → SC P x (St n W (H z) (L z)) (Exit.then (fun a w => ∃ u, m u < m z ∧ Head n W H L Φ u a w) Q)) : SC P (.loop x) (St n W σ l) Q :=
  SC.loop0 (Head n W H L Φ) m x₀ (fun _ _ h => ⟨hΦ, (h.less hH).sub hs⟩) fun z a w h => round z h.1 a w h.2
theorem I_ {ι : Type} {H : ι → Blks} {L : ι → Slots} {Φ : ι → Prop} {m : ι → Nat} {z : ι} (u : ι) (hm : m u < m z) (hΦ : Φ u) (hs : Subs l (L u)) (hH : (H u).Sublist σ) :
    SE .normal (St n W σ l) (Exit.then (fun a w => ∃ u, m u < m z ∧ Head n W H L Φ u a w) Q) := fun _ _ h => ⟨u, hm, hΦ, (h.less hH).sub hs⟩
theorem lv_ {ι : Type} (H : ι → Blks) (L : ι → Slots) (Φ : ι → Prop) (h : SC P x T (Exit.then (fun a w => ∃ z, Head n W H L Φ z a w) Q)) (k : ∀ z, Φ z → SC P y (St n W (H z) (L z)) Q) : SC P (.seq x y) T Q := fun a w hs =>
  wp_seq (wp_mono (h a w hs) fun e a' w' he => by
    cases e with
    | normal => obtain ⟨z, h1, h2⟩ := he; exact k z h1 a' w' h2
    | _ => exact he)
theorem aw_ {ι : Type} {H : ι → Blks} {L : ι → Slots} {Φ : ι → Prop} (z : ι) (hΦ : Φ z) (hs : Subs l (L z)) (hH : (H z).Sublist σ) : SE .normal (St n W σ l) (Exit.then (fun a w => ∃ z, Head n W H L Φ z a w) Q) := fun _ _ h => ⟨z, hΦ, (h.less hH).sub hs⟩
end
/-! ### Calls -/
def Spec (P : Program) (f : FuncId) (args : List Abs) (σ : Blks) {ι : Type} (τ : ι → Blks) (res : ι → Abs) : Prop :=
  ∀ (G : List Nat) (w : World) (vals : List Value), Mem w (mids σ) G σ w → reps (mids σ ++ G) w args vals →
    Calls P f vals.toArray w fun e w' => ∃ z r, e = .returned r ∧ (∀ x ∈ τ z, x.rids = []) ∧ Mem w (mids σ) G (τ z) w' ∧ rep (mids (τ z) ++ G) w' (res z) r
abbrev Pure (P : Program) (f : FuncId) (args : List Abs) (res : Abs) : Prop := Spec P f args [] (fun _ : Unit => []) (fun _ => res)
structure Split (σ σ1 φ : Blks) : Prop where
  perm : (mids σ1 ++ mids φ).Perm (mids σ)
  sub : ∀ x ∈ σ1, (x ∈ σ ∧ x.rids = []) ∨ ∃ y ∈ φ, x = y.toRd
  rest : ∀ x ∈ φ, x ∈ σ
theorem fj_ {K : List Nat} {w : World} {y : It} (h : y.holds K w) : y.toRd.holds K w := by cases y <;> exact h
theorem gj_ (y : It) : ∀ k ∈ y.toRd.rids, k ∈ y.mids ++ y.rids := by cases y <;> simp [It.toRd, It.rids, It.mids]
theorem dl_ (y : It) : y.toRd.mids = [] := by cases y <;> rfl
theorem Spec.run {f : FuncId} {args : List Abs} {σ1 φ : Blks} {ι : Type} {τ : ι → Blks} {res : ι → Abs} (hs : Spec P f args σ1 τ res) {w0 w : World} {F G : List Nat} (hm : Mem w0 F G σ w) (hp : Split σ σ1 φ)
    {vals : List Value} (hv : reps (mids σ ++ G) w args vals) :
    Calls P f vals.toArray w fun e w' => ∃ z r, e = .returned r ∧ Ext (mids σ1) w w' ∧ (∀ k ∈ mids (τ z), k ∈ mids σ1 ∨ w.heap.size ≤ k) ∧ Mem w0 F G (τ z ++ φ) w' ∧ Carry (mids σ ++ G) w (mids (τ z ++ φ) ++ G) w' ∧ rep (mids (τ z ++ φ) ++ G) w' (res z) r := by
  have hmem : ∀ k, k ∈ mids σ ↔ k ∈ mids σ1 ∨ k ∈ mids φ := fun k => by rw [← hp.perm.mem_iff, List.mem_append]
  have hnd : (mids σ1 ++ mids φ).Nodup := hp.perm.nodup_iff.2 hm.nodup
  obtain ⟨n1, n2, n3⟩ := List.nodup_append.1 hnd
  have hc1 : Carry (mids σ ++ G) w (mids σ1 ++ (mids φ ++ G)) w := Carry.less fun k hk => by
    simp only [List.mem_append] at hk ⊢
    rw [hmem]
    rcases hk with h | h | h
    · exact .inl (.inl h)
    · exact .inl (.inr h)
    · exact .inr h
  have hm1 : Mem w (mids σ1) (mids φ ++ G) σ1 w := by
    refine ⟨Ext.refl w, fun k hk => .inl hk, fun k hk hg => ?_, fun k hk => ?_, fun x hx k hk => ?_, n1, fun x hx => ?_⟩
    · rcases List.mem_append.1 hg with h | h
      · exact n3 k hk k h rfl
      · exact hm.sep k ((hmem k).2 (.inl hk)) h
    · rcases List.mem_append.1 hk with h | h
      · exact hm.lt k (List.mem_append_left _ ((hmem k).2 (.inr h)))
      · exact hm.old k h
    · rcases hp.sub x hx with ⟨_, h⟩ | ⟨y, hy, rfl⟩
      · rw [h] at hk; cases hk
      · rcases List.mem_append.1 (gj_ y k hk) with h | h
        · exact List.mem_append_left _ (bP_.2 ⟨y, hy, h⟩)
        · exact List.mem_append_right _ (hm.ro y (hp.rest y hy) k h)
    · rcases hp.sub x hx with ⟨h, _⟩ | ⟨y, hy, rfl⟩
      · exact It.carry (hm.hold x h) hc1 fun _ _ => rfl
      · exact fj_ (It.carry (hm.hold y (hp.rest y hy)) hc1 fun _ _ => rfl)
  refine (hs _ w vals hm1 (aj_ hc1 _ _ hv)).mono fun e w' ⟨z, r, he, h0, h1, h2⟩ => ⟨z, r, he, h1.ext, h1.out, ?_⟩
  have hK : Carry (mids (τ z) ++ (mids φ ++ G)) w' (mids (τ z ++ φ) ++ G) w' := Carry.less fun k hk => by
    rw [T_] at hk
    simpa [List.append_assoc] using hk
  have hst := hm.step (τ := τ z ++ φ) h1.ext (fun k hk => (hmem k).2 (.inl hk)) (fun k hk => ?_) (fun x hx k hk => ?_) ?_ (fun hc x hx => ?_)
  · exact ⟨hst.1, hst.2, a7_ hK _ _ h2⟩
  · rw [T_] at hk
    rcases List.mem_append.1 hk with h | h
    · rcases h1.out k h with h | h
      · exact .inl ((hmem k).2 (.inl h))
      · exact .inr h
    · exact .inl ((hmem k).2 (.inr h))
  · rcases List.mem_append.1 hx with h | h
    · rw [h0 x h] at hk; cases hk
    · exact hm.ro x (hp.rest x h) k hk
  · rw [T_, List.nodup_append]
    refine ⟨h1.nodup, n2, fun a ha b hb he => ?_⟩
    subst he
    exact h1.sep a ha (List.mem_append_left _ hb)
  · rcases List.mem_append.1 hx with h | h
    · exact It.carry (h1.hold x h) hK fun _ _ => rfl
    · exact hm.keep h1.ext hc (hp.rest x h) (fun k hk hk1 => n3 k hk1 k (bP_.2 ⟨x, h, hk⟩) rfl) fun k hk => (hmem k).2 (.inl hk)
theorem Split.none : Split σ [] σ := ⟨by simp [mids], by simp, fun _ h => h⟩
theorem Split.rds {ys : Blks} (h : ∀ y ∈ ys, y ∈ σ) : Split σ (ys.map It.toRd) σ := by
  refine ⟨?_, fun x hx => ?_, fun _ h => h⟩
  · have : mids (ys.map It.toRd) = [] := by
      unfold mids
      simp [List.flatMap_map, dl_]
    rw [this]; exact List.Perm.refl _
  · obtain ⟨y, hy, rfl⟩ := List.mem_map.1 hx; exact .inr ⟨y, h y hy, rfl⟩
theorem Split.one {x : It} {α β : Blks} (hx : x.rids = []) {ys : Blks} (h : ∀ y ∈ ys, y ∈ α ++ β) : Split (α ++ x :: β) (x :: ys.map It.toRd) (α ++ β) := by
  refine ⟨?_, fun z hz => ?_, fun z hz => ?_⟩
  · have : mids (ys.map It.toRd) = [] := by
      unfold mids
      simp [List.flatMap_map, dl_]
    rw [af_, this, List.append_nil, T_, T_, af_]
    exact List.perm_append_comm_assoc _ _ _
  · rcases List.mem_cons.1 hz with rfl | hz
    · exact .inl ⟨by simp, hx⟩
    · obtain ⟨y, hy, rfl⟩ := List.mem_map.1 hz; exact .inr ⟨y, h y hy, rfl⟩
  · rcases List.mem_append.1 hz with h | h <;> simp [h]
def Casts (xs ys : List Abs) : Prop := ∀ K w us, reps K w xs us → reps K w ys us
theorem Casts.refl {xs : List Abs} : Casts xs xs := fun _ _ _ h => h
theorem Casts.cons {x y : Abs} {xs ys : List Abs} (h : ∀ K w u, rep K w x u → rep K w y u) (k : Casts xs ys) : Casts (x :: xs) (y :: ys) := fun K w _ ⟨u, us', h1, h2, h3⟩ => ⟨u, us', h1, h K w u h2, k K w us' h3⟩
theorem Casts.keep {x : Abs} {xs ys : List Abs} (k : Casts xs ys) : Casts (x :: xs) (x :: ys) := k.cons fun _ _ _ h => h
section
variable {f : FuncId} {args args' : List Abs} {σ1 φ : Blks} {ι : Type} {τ' : ι → Blks} {res : ι → Abs} {xs : List Operand} {ats : Array TypeId} {d : Option Nat} {ty : TypeId} {pos : String} {aft : Array Edge} {g : Option (Nat × Bool)} {i : Nat} {x : Operand} {m : String} {t : TypeId} {y : Abs} {bs cs : List Abs}
inductive Reads (σ : Blks) : Blks → Prop
  | nil : Reads σ []
  | blk {b : Nat} {t : TypeId} {cs : List Abs} {τ : Blks} (h : It.blk b t cs ∈ σ) (k : Reads σ τ) : Reads σ (.rd b t cs :: τ)
  | rd {b : Nat} {t : TypeId} {cs : List Abs} {τ : Blks} (h : It.rd b t cs ∈ σ) (k : Reads σ τ) : Reads σ (.rd b t cs :: τ)
  | pc {c : Pc} {τ : Blks} (h : It.pc c ∈ σ) (k : Reads σ τ) : Reads σ (.rdpc c :: τ)
  | rdpc {c : Pc} {τ : Blks} (h : It.rdpc c ∈ σ) (k : Reads σ τ) : Reads σ (.rdpc c :: τ)
theorem Reads.ys (h : Reads σ τ) : ∃ ys : Blks, (∀ y ∈ ys, y ∈ σ) ∧ τ = ys.map It.toRd := by
  induction h with
  | nil => exact ⟨[], by simp, rfl⟩
  | blk h _ ih => obtain ⟨ys, h1, rfl⟩ := ih; exact ⟨_ :: ys, List.forall_mem_cons.2 ⟨h, h1⟩, rfl⟩
  | rd h _ ih => obtain ⟨ys, h1, rfl⟩ := ih; exact ⟨_ :: ys, List.forall_mem_cons.2 ⟨h, h1⟩, rfl⟩
  | pc h _ ih => obtain ⟨ys, h1, rfl⟩ := ih; exact ⟨_ :: ys, List.forall_mem_cons.2 ⟨h, h1⟩, rfl⟩
  | rdpc h _ ih => obtain ⟨ys, h1, rfl⟩ := ih; exact ⟨_ :: ys, List.forall_mem_cons.2 ⟨h, h1⟩, rfl⟩
theorem Reads.split (h : Reads σ τ) : Split σ τ σ := by obtain ⟨ys, h1, rfl⟩ := h.ys; exact Split.rds h1
def After (σ σ1 : Blks) (τ' : ι → Blks) (K : Blks → ι → Prop) : Prop := ∃ φ, Split σ σ1 φ ∧ ∀ z, ∃ ν : Blks, ν.Perm (τ' z ++ φ) ∧ K ν z
section
variable {K : Blks → ι → Prop} {u : It} {uy : ι → It}
theorem c1_ (h : Reads σ σ1) (hτ : ∀ z, τ' z = []) (k : ∀ z, K σ z) : After σ σ1 τ' K := ⟨σ, h.split, fun z => ⟨σ, by rw [hτ z]; exact List.Perm.refl _, k z⟩⟩
theorem jJ_ (h : Reads σ σ1) (hτ : ∀ z, τ' z = [uy z]) (k : ∀ z, K (uy z :: σ) z) : After σ σ1 τ' K := ⟨σ, h.split, fun z => ⟨_, by rw [hτ z]; exact List.Perm.refl _, k z⟩⟩
theorem h6_ {x y : It} {α β ν : Blks} (h : Upd x y (α ++ x :: β) ν) : ν.Perm (y :: (α ++ β)) := by
  obtain ⟨α', β', h1, rfl⟩ := h.split
  have h2 : (x :: (α ++ β)).Perm (x :: (α' ++ β')) := (List.perm_middle (a := x) (l₁ := α) (l₂ := β)).symm.trans ((h1 ▸ List.Perm.refl _ : (α ++ x :: β).Perm (α' ++ x :: β')).trans List.perm_middle)
  exact List.perm_middle.trans (List.Perm.cons y h2.cons_inv.symm)
theorem x_ (hx : u.rids = []) (hm : u ∈ σ) (hτ : ∀ z, τ' z = [uy z]) (k : ∀ z, ∃ ν, Upd u (uy z) σ ν ∧ K ν z) : After σ [u] τ' K := by
  obtain ⟨α, β, rfl⟩ := List.append_of_mem hm
  refine ⟨α ++ β, Split.one hx (ys := []) (by simp), fun z => ?_⟩
  obtain ⟨ν, h1, h2⟩ := k z
  exact ⟨ν, by rw [hτ z]; exact h6_ (α := α) (β := β) (x := u) h1, h2⟩
theorem aG_ {ys : Blks} (hx : u.rids = []) (hm : u ∈ σ) (hr : ∀ y ∈ ys, y ∈ σ ∧ y ≠ u) (h1 : σ1 = u :: ys.map It.toRd) (hτ : ∀ z, τ' z = [uy z]) (k : ∀ z, ∃ ν, Upd u (uy z) σ ν ∧ K ν z) : After σ σ1 τ' K := by
  subst h1
  obtain ⟨α, β, rfl⟩ := List.append_of_mem hm
  refine ⟨α ++ β, Split.one hx fun y hy => ?_, fun z => ?_⟩
  · obtain ⟨h2, h3⟩ := hr y hy
    simp only [List.mem_append, List.mem_cons] at h2 ⊢
    rcases h2 with h2 | h2 | h2
    · exact .inl h2
    · exact absurd h2 h3
    · exact .inr h2
  · obtain ⟨ν, h1, h2⟩ := k z
    exact ⟨ν, by rw [hτ z]; exact h6_ (α := α) (β := β) (x := u) h1, h2⟩
end
theorem Spec.after {w0 w : World} {F G : List Nat} {K : Blks → ι → Prop} (hs : Spec P f args' σ1 τ' res) (hm : Mem w0 F G σ w) {vals : List Value} (hv : reps (mids σ ++ G) w args' vals) (k : After σ σ1 τ' K) :
    Calls P f vals.toArray w fun e w' => ∃ z r ν, e = .returned r ∧ Ext (mids σ1) w w' ∧ (∀ k ∈ mids (τ' z), k ∈ mids σ1 ∨ w.heap.size ≤ k) ∧ Mem w0 F G ν w' ∧ Carry (mids σ ++ G) w (mids ν ++ G) w' ∧ rep (mids ν ++ G) w' (res z) r ∧ K ν z := by
  obtain ⟨φ, hp, hk⟩ := k
  refine (hs.run hm hp hv).mono fun e w' ⟨z, r, he, hx, ho, hm', hc, hr⟩ => ?_
  obtain ⟨ν, h1, h2⟩ := hk z
  obtain ⟨h3, h4⟩ := hm'.perm h1
  exact ⟨z, r, ν, he, hx, ho, h3, hc.trans h4, a7_ h4 _ _ hr, h2⟩
theorem Y_ (hs : Spec P f args' σ1 τ' res) (hca : Casts args args') (hb : goesIn P f = true) (hv : looks l xs = some args)
    (hg : gd ops l ⟨d, .call { callee := .value (.func f), args := xs.toArray, argTypes := ats }, ty, pos, aft, g⟩ = some true) (hd : lt? d n = true)
    (k : After σ σ1 τ' fun ν z => SL P ops rest (St n W ν (put? l d (res z))) Q) :
    SL P ops (⟨d, .call { callee := .value (.func f), args := xs.toArray, argTypes := ats }, ty, pos, aft, g⟩ :: rest) (St n W σ l) Q := fun a w h =>
  wpList_step fun K hK => by
    rw [if_pos (h.wanted hg)]
    unfold Oper.wp
    rw [ci_ hb rfl, Oper.upon_enter]
    refine (hs.after h.mem (hca _ _ _ (h.evals hv)) k).mono fun e w' ⟨z, r, ν, he, _, _, hm, hc, hr, hk⟩ => ?_
    subst he
    exact hK _ _ (hk _ _ ((h.to hm hc).put hd hr))
theorem D_ (hi : ops[i]? = some ⟨d, .call { callee := .value (.func f), args := xs.toArray, argTypes := ats }, ty, pos, aft, g⟩) (hs : Spec P f args' σ1 τ' res) (hX : ∀ k ∈ mids σ1, k ∈ X) (hca : Casts args args') (hb : goesIn P f = true) (hv : looks l xs = some args)
    (hg : gd ops l ⟨d, .call { callee := .value (.func f), args := xs.toArray, argTypes := ats }, ty, pos, aft, g⟩ = some true) (hd : lt? d n = true)
    (k : After σ σ1 τ' fun ν z => SX P ops ix X (St n W ν (put? l d (res z))) Q) : SX P ops (.e i ix) X (St n W σ l) Q := fun a w h => by
  unfold planW wpOp
  simp only [hi, h.wanted hg, if_true]
  refine .inl ?_
  unfold Oper.wp
  rw [ci_ hb rfl, Oper.upon_enter]
  refine (hs.after h.mem (hca _ _ _ (h.evals hv)) k).mono fun e w' ⟨z, r, ν, he, hx, _, hm, hc, hr, hk⟩ => ?_
  subst he
  exact ⟨fun w2 => Ext X w' w2, fun w2 h2 => (hx.mono (fun k hk => .inl (hX k hk))).trans h2 fun k hk => .inl hk, Ext.refl w', hk _ _ ((h.to hm hc).put hd hr)⟩
theorem bd_ (hi : ops[i]? = some ⟨d, .call { callee := .value (.func f), args := xs.toArray, argTypes := ats }, ty, pos, aft, g⟩) (hs : Spec P f args' σ1 τ' res) (hX : ∀ k ∈ mids σ1, k ∈ X) (hca : Casts args args') (hb : goesIn P f = true) (hv : looks l xs = some args)
    (hg : gd ops l ⟨d, .call { callee := .value (.func f), args := xs.toArray, argTypes := ats }, ty, pos, aft, g⟩ = some true) (hd : lt? d n = true)
    (k : After σ σ1 τ' fun ν z => SX P ops ix (mids (τ' z) ++ X) (St n W ν (put? l d (res z))) Q) : SX P ops (.e i ix) X (St n W σ l) Q := fun a w h => by
  unfold planW wpOp
  simp only [hi, h.wanted hg, if_true]
  refine .inl ?_
  unfold Oper.wp
  rw [ci_ hb rfl, Oper.upon_enter]
  refine (hs.after h.mem (hca _ _ _ (h.evals hv)) k).mono fun e w' ⟨z, r, ν, he, hx, ho, hm, hc, hr, hk⟩ => ?_
  subst he
  refine ⟨fun w2 => Ext (mids (τ' z) ++ X) w' w2, fun w2 h2 => (hx.mono (fun k hk => .inl (hX k hk))).trans h2 fun k hk => ?_, Ext.refl w', hk _ _ ((h.to hm hc).put hd hr)⟩
  rcases List.mem_append.1 hk with hk | hk
  · rcases ho k hk with h1 | h1
    · exact .inl (hX k h1)
    · exact .inr h1
  · exact .inl hk
theorem bX_ (hs : Spec P f args' σ1 τ' res) (hx : look l x = some (.fn (.func f) bs cs)) (hca : Casts (bs ++ args ++ cs) args') (hb : goesIn P f = true) (hv : looks l xs = some args)
    (hg : gd ops l ⟨d, .call { callee := .value x, args := xs.toArray, argTypes := ats }, ty, pos, aft, g⟩ = some true) (hd : lt? d n = true)
    (k : After σ σ1 τ' fun ν z => SL P ops rest (St n W ν (put? l d (res z))) Q) :
    SL P ops (⟨d, .call { callee := .value x, args := xs.toArray, argTypes := ats }, ty, pos, aft, g⟩ :: rest) (St n W σ l) Q := fun a w h =>
  wpList_step fun K hK => by
    rw [if_pos (h.wanted hg)]
    unfold Oper.wp
    obtain ⟨us, vs, h1, h2, h3⟩ := h.eval hx
    rw [dr_ hb rfl h1, Oper.upon_enter]
    have := hca _ _ _ (aW_ (aW_ h2 (h.evals hv)) h3)
    rw [show us.toArray ++ (xs.map a.eval).toArray ++ vs.toArray = (us ++ xs.map a.eval ++ vs).toArray by simp]
    refine (hs.after h.mem this k).mono fun e w' ⟨z, r, ν, he, _, _, hm, hc, hr, hk⟩ => ?_
    subst he
    exact hK _ _ (hk _ _ ((h.to hm hc).put hd hr))
theorem gc_ (hi : ops[i]? = some ⟨d, .call { callee := .value x, args := xs.toArray, argTypes := ats }, ty, pos, aft, g⟩) (hs : Spec P f args' σ1 τ' res) (hX : ∀ k ∈ mids σ1, k ∈ X) (hx : look l x = some (.fn (.func f) bs cs)) (hca : Casts (bs ++ args ++ cs) args') (hb : goesIn P f = true) (hv : looks l xs = some args)
    (hg : gd ops l ⟨d, .call { callee := .value x, args := xs.toArray, argTypes := ats }, ty, pos, aft, g⟩ = some true) (hd : lt? d n = true)
    (k : After σ σ1 τ' fun ν z => SX P ops ix X (St n W ν (put? l d (res z))) Q) : SX P ops (.e i ix) X (St n W σ l) Q := fun a w h => by
  unfold planW wpOp
  simp only [hi, h.wanted hg, if_true]
  refine .inl ?_
  unfold Oper.wp
  obtain ⟨us, vs, h1, h2, h3⟩ := h.eval hx
  rw [dr_ hb rfl h1, Oper.upon_enter]
  have := hca _ _ _ (aW_ (aW_ h2 (h.evals hv)) h3)
  rw [show us.toArray ++ (xs.map a.eval).toArray ++ vs.toArray = (us ++ xs.map a.eval ++ vs).toArray by simp]
  refine (hs.after h.mem this k).mono fun e w' ⟨z, r, ν, he, hx, _, hm, hc, hr, hk⟩ => ?_
  subst he
  exact ⟨fun w2 => Ext X w' w2, fun w2 h2 => (hx.mono (fun k hk => .inl (hX k hk))).trans h2 fun k hk => .inl hk, Ext.refl w', hk _ _ ((h.to hm hc).put hd hr)⟩
end
end
theorem ey_ : ∀ (vs : List Value) (i j : Nat) (v : Value), vs[j]? = some v → Proofs.YtjclgkddfjbdiaaGreatDoor.slot (argSlots vs i) (i + j) = some v
  | [], _, _, _, h => by simp at h
  | u :: vs, i, 0, v, h => by simp at h; subst h; simp [argSlots, Proofs.YtjclgkddfjbdiaaGreatDoor.slot]
  | u :: vs, i, j + 1, v, h => by
    unfold argSlots Proofs.YtjclgkddfjbdiaaGreatDoor.slot
    rw [cy_ (by omega : ¬ i = i + (j + 1))]
    have := ey_ vs (i + 1) j v (by simpa using h)
    rw [show i + 1 + j = i + (j + 1) by omega] at this
    exact this
abbrev fullS (a : Act) : Proofs.YtjclgkddfjbdiaaGreatDoor.Slots := argSlots a.tmps.toList 0
section
variable {P : Program} {n : Nat} {W : Wd} {σ τ : Blks} {l : Slots} {X : List Nat} {x y z : Operand} {d : Option Nat} {ty t t' e : TypeId} {pos : String} {aft : Array Edge} {g : Option (Nat × Bool)} {v u : Value} {k k' : IntKind} {a b : Int} {o : Oper} {A B : Abs} {tab : List (Nat × TI)}
theorem St.fr {a : Act} {w : World} (h : St n W σ l a w) : Fr n a (fullS a) := ⟨h.defers, h.size, fun t v hv => by
  have h1 := (ez_ _ 0 t v hv).2
  rw [Nat.sub_zero] at h1
  simpa using h1⟩
theorem St.at2 {a : Act} {w : World} (h : St n W σ l a w) (hx : look l x = some A) : Proofs.YtjclgkddfjbdiaaGreatDoor.look (fullS a) x = some (a.eval x) := by
  cases x with
  | tmp t =>
    obtain ⟨u, h1, _⟩ := h.slots t A hx
    have h2 := ey_ a.tmps.toList 0 t u (by simpa using h1)
    rw [Nat.zero_add] at h2
    simp [Proofs.YtjclgkddfjbdiaaGreatDoor.look, h2, Act.eval, h1]
  | const c => rfl
  | global g => rfl
  | func f => rfl
theorem bJ_ (hx : look l x = some (.v u)) (h : ∀ l2 : Proofs.YtjclgkddfjbdiaaGreatDoor.Slots, Proofs.YtjclgkddfjbdiaaGreatDoor.look l2 x = some u → Proofs.YtjclgkddfjbdiaaGreatDoor.Val P n l2 (fun _ => True) o v) : Val P n W σ l X o (.v v) := fun _ _ hs _ =>
  ⟨v, rfl, fun w' _ => h _ (by rw [hs.at2 hx, hs.plain hx]) _ w' hs.fr trivial⟩
theorem aM_ {u2 : Value} (hx : look l x = some (.v u)) (hy : look l y = some (.v u2)) (h : ∀ l2 : Proofs.YtjclgkddfjbdiaaGreatDoor.Slots, Proofs.YtjclgkddfjbdiaaGreatDoor.look l2 x = some u → Proofs.YtjclgkddfjbdiaaGreatDoor.look l2 y = some u2 → Proofs.YtjclgkddfjbdiaaGreatDoor.Val P n l2 (fun _ => True) o v) : Val P n W σ l X o (.v v) := fun _ _ hs _ =>
  ⟨v, rfl, fun w' _ => h _ (by rw [hs.at2 hx, hs.plain hx]) (by rw [hs.at2 hy, hs.plain hy]) _ w' hs.fr trivial⟩
theorem aB_ (h : ∀ a w, St n W σ l a w → (∀ k ∈ X, k ∈ mids σ ++ W.G) → ∃ v, rep (mids σ ++ W.G) w A v ∧ ∀ w', Ext X w w' → Proofs.YtjclgkddfjbdiaaGreatDoor.Val P n (fullS a) (fun w1 => w1 = w') o v) : Val P n W σ l X o A := fun a w hs hX => by
  obtain ⟨v, h1, h2⟩ := h a w hs fun k hk => List.mem_append_left _ (hX k hk)
  exact ⟨v, h1, fun w' hw' => h2 w' hw' a w' hs.fr rfl⟩
theorem h_ {C : Abs} (h : Val P n W σ l X o A) (e : A = C) : Val P n W σ l X o C := e ▸ h
theorem s_ (hx : look l x = some A) : Val P n W σ l X ⟨d, .move x, ty, pos, aft, g⟩ A := aB_ fun a w hs _ => ⟨_, hs.eval hx, fun w' _ => Proofs.YtjclgkddfjbdiaaGreatDoor.s_ (hs.at2 hx)⟩
theorem n_ (hx : look l x = some A) : Val P n W σ l X ⟨d, .assign x, ty, pos, aft, g⟩ A := aB_ fun a w hs _ => ⟨_, hs.eval hx, fun w' _ => Proofs.YtjclgkddfjbdiaaGreatDoor.n_ (hs.at2 hx)⟩
theorem ab_ (hc : look l x = some (.v (.bool true))) (hy : look l y = some A) : Val P n W σ l X ⟨d, .pick x y z, ty, pos, aft, g⟩ A := aB_ fun a w hs _ => ⟨_, hs.eval hy, fun w' _ => Proofs.YtjclgkddfjbdiaaGreatDoor.ab_ (by rw [hs.at2 hc, hs.plain hc]) (hs.at2 hy)⟩
theorem an_ (hc : look l x = some (.v (.bool false))) (hz : look l z = some A) : Val P n W σ l X ⟨d, .pick x y z, ty, pos, aft, g⟩ A := aB_ fun a w hs _ => ⟨_, hs.eval hz, fun w' _ => Proofs.YtjclgkddfjbdiaaGreatDoor.an_ (by rw [hs.at2 hc, hs.plain hc]) (hs.at2 hz)⟩
theorem y_ (hx : look l x = some (.v (.int k a))) (hy : look l y = some (.v (.int k b))) (h : InR k (a + b)) : Val P n W σ l X ⟨d, .binOp .add t x y t', ty, pos, aft, g⟩ (.v (.int k (a + b))) :=
  aM_ hx hy fun _ ehx ehy => Proofs.YtjclgkddfjbdiaaGreatDoor.y_ ehx ehy h
theorem cp_ (hx : look l x = some (.v (.int k a))) (hy : look l y = some (.v (.int k b))) (h : InR k (a - b)) : Val P n W σ l X ⟨d, .binOp .sub t x y t', ty, pos, aft, g⟩ (.v (.int k (a - b))) :=
  aM_ hx hy fun _ ehx ehy => Proofs.YtjclgkddfjbdiaaGreatDoor.cp_ ehx ehy h
theorem bm_ (hx : look l x = some (.v (.int k a))) (hy : look l y = some (.v (.int k b))) (h : InR k (a * b)) : Val P n W σ l X ⟨d, .binOp .mul t x y t', ty, pos, aft, g⟩ (.v (.int k (a * b))) :=
  aM_ hx hy fun _ ehx ehy => Proofs.YtjclgkddfjbdiaaGreatDoor.bm_ ehx ehy h
theorem c0_ (hx : look l x = some (.v (.int k a))) (hy : look l y = some (.v (.int k b))) (h : 0 ≤ a ∧ 0 < b) : Val P n W σ l X ⟨d, .binOp .rem t x y t', ty, pos, aft, g⟩ (.v (.int k (a % b))) :=
  aM_ hx hy fun _ ehx ehy => Proofs.YtjclgkddfjbdiaaGreatDoor.c0_ ehx ehy h
theorem en_ (hx : look l x = some (.v (.int k a))) (hy : look l y = some (.v (.int k b))) (h : 0 ≤ a ∧ 0 < b) (hr : InR k (a / b)) : Val P n W σ l X ⟨d, .binOp .quo t x y t', ty, pos, aft, g⟩ (.v (.int k (a / b))) :=
  aM_ hx hy fun _ ehx ehy => Proofs.YtjclgkddfjbdiaaGreatDoor.en_ ehx ehy h hr
theorem bU_ {op : BinOp} {r : Int} (hx : look l x = some (.v (.int k a))) (hy : look l y = some (.v (.int k b))) (h : ∀ w, (Op.intBits op k a b).run P w = .ok (.int k r) w) (ho : (op matches .and | .or | .xor | .andNot) = true) : Val P n W σ l X ⟨d, .binOp op t x y t', ty, pos, aft, g⟩ (.v (.int k r)) :=
  aM_ hx hy fun _ ehx ehy => Proofs.YtjclgkddfjbdiaaGreatDoor.bU_ ehx ehy h ho
theorem dE_ (hx : look l x = some (.v (.int k a))) (hy : look l y = some (.v (.int k' b))) (h : 0 ≤ b) : Val P n W σ l X ⟨d, .binOp .shl t x y t', ty, pos, aft, g⟩ (.v (.int k (k.wrap (a * 2 ^ (min b.toNat k.bits))))) :=
  aM_ hx hy fun _ ehx ehy => Proofs.YtjclgkddfjbdiaaGreatDoor.dE_ ehx ehy h
theorem f7_ (hx : look l x = some (.v (.int k a))) (hy : look l y = some (.v (.int k' b))) (h : 0 ≤ b) : Val P n W σ l X ⟨d, .binOp .shr t x y t', ty, pos, aft, g⟩ (.v (.int k (a.fdiv (2 ^ (min b.toNat k.bits))))) :=
  aM_ hx hy fun _ ehx ehy => Proofs.YtjclgkddfjbdiaaGreatDoor.f7_ ehx ehy h
theorem d2_ (hx : look l x = some (.v (.int k a))) (hy : look l y = some (.v (.int k b))) : Val P n W σ l X ⟨d, .binOp .eql t x y t', ty, pos, aft, g⟩ (.v (.bool (decide (a = b)))) :=
  aM_ hx hy fun _ ehx ehy => Proofs.YtjclgkddfjbdiaaGreatDoor.d2_ ehx ehy
theorem dY_ (hx : look l x = some (.v (.int k a))) (hy : look l y = some (.v (.int k b))) : Val P n W σ l X ⟨d, .binOp .neq t x y t', ty, pos, aft, g⟩ (.v (.bool (decide (a ≠ b)))) :=
  aM_ hx hy fun _ ehx ehy => Proofs.YtjclgkddfjbdiaaGreatDoor.dY_ ehx ehy
theorem a9_ (hx : look l x = some (.v (.int k a))) (hy : look l y = some (.v (.int k b))) : Val P n W σ l X ⟨d, .binOp .lss t x y t', ty, pos, aft, g⟩ (.v (.bool (decide (a < b)))) :=
  aM_ hx hy fun _ ehx ehy => Proofs.YtjclgkddfjbdiaaGreatDoor.a9_ ehx ehy
theorem hU_ (hx : look l x = some (.v (.int k a))) (hy : look l y = some (.v (.int k b))) : Val P n W σ l X ⟨d, .binOp .leq t x y t', ty, pos, aft, g⟩ (.v (.bool (decide (a ≤ b)))) :=
  aM_ hx hy fun _ ehx ehy => Proofs.YtjclgkddfjbdiaaGreatDoor.hU_ ehx ehy
theorem ba_ (hx : look l x = some (.v (.int k a))) (hy : look l y = some (.v (.int k b))) : Val P n W σ l X ⟨d, .binOp .gtr t x y t', ty, pos, aft, g⟩ (.v (.bool (decide (b < a)))) :=
  aM_ hx hy fun _ ehx ehy => Proofs.YtjclgkddfjbdiaaGreatDoor.ba_ ehx ehy
theorem d1_ (hx : look l x = some (.v (.int k a))) (hy : look l y = some (.v (.int k b))) : Val P n W σ l X ⟨d, .binOp .geq t x y t', ty, pos, aft, g⟩ (.v (.bool (decide (b ≤ a)))) :=
  aM_ hx hy fun _ ehx ehy => Proofs.YtjclgkddfjbdiaaGreatDoor.d1_ ehx ehy
theorem lp_ {s r : ByteArray} (hx : look l x = some (.v (.string s))) (hy : look l y = some (.v (.string r))) : Val P n W σ l X ⟨d, .binOp .eql t x y t', ty, pos, aft, g⟩ (.v (.bool (decide (s = r)))) :=
  aM_ hx hy fun _ ehx ehy => Proofs.YtjclgkddfjbdiaaGreatDoor.lp_ ehx ehy
theorem f9_ {s r : ByteArray} (hx : look l x = some (.v (.string s))) (hy : look l y = some (.v (.string r))) : Val P n W σ l X ⟨d, .binOp .neq t x y t', ty, pos, aft, g⟩ (.v (.bool (decide (s ≠ r)))) :=
  aM_ hx hy fun _ ehx ehy => Proofs.YtjclgkddfjbdiaaGreatDoor.f9_ ehx ehy
theorem dF_ {s r : ByteArray} (hx : look l x = some (.v (.string s))) (hy : look l y = some (.v (.string r))) (h : (s.size : Int) + r.size ≤ 9223372036854775807) : Val P n W σ l X ⟨d, .binOp .add t x y t', ty, pos, aft, g⟩ (.v (.string (s ++ r))) :=
  aM_ hx hy fun _ ehx ehy => Proofs.YtjclgkddfjbdiaaGreatDoor.dF_ ehx ehy h
theorem aD_ {p : Option Addr} (hx : look l x = some (.v (.pointer p))) (hy : look l y = some (.v (.pointer none))) (ht : P.underlying t = some (.pointer (P.pointee t))) : Val P n W σ l X ⟨d, .binOp .eql t x y t', ty, pos, aft, g⟩ (.v (.bool p.isNone)) :=
  aM_ hx hy fun _ ehx ehy => Proofs.YtjclgkddfjbdiaaGreatDoor.aD_ ehx ehy ht
theorem bK_ {p : Option Addr} (hx : look l x = some (.v (.pointer p))) (hy : look l y = some (.v (.pointer none))) (ht : P.underlying t = some (.pointer (P.pointee t))) : Val P n W σ l X ⟨d, .binOp .neq t x y t', ty, pos, aft, g⟩ (.v (.bool (!p.isNone))) :=
  aM_ hx hy fun _ ehx ehy => Proofs.YtjclgkddfjbdiaaGreatDoor.bK_ ehx ehy ht
theorem lq_ {p q : Bool} (hx : look l x = some (.v (.bool p))) (hy : look l y = some (.v (.bool q))) (ht : P.underlying t = some .bool) : Val P n W σ l X ⟨d, .binOp .eql t x y t', ty, pos, aft, g⟩ (.v (.bool (p == q))) :=
  aM_ hx hy fun _ ehx ehy => Proofs.YtjclgkddfjbdiaaGreatDoor.lq_ ehx ehy ht
theorem bz_ {p : Prop} [Decidable p] (hx : look l x = some (.v (.bool (decide p)))) : Val P n W σ l X ⟨d, .unOp .not t x, ty, pos, aft, g⟩ (.v (.bool (decide ¬p))) :=
  bJ_ hx fun _ ehx => Proofs.YtjclgkddfjbdiaaGreatDoor.bz_ ehx
theorem aL_ {p : Bool} (hx : look l x = some (.v (.bool p))) : Val P n W σ l X ⟨d, .unOp .not t x, ty, pos, aft, g⟩ (.v (.bool !p)) :=
  bJ_ hx fun _ ehx => Proofs.YtjclgkddfjbdiaaGreatDoor.aL_ ehx
theorem a4_ (hx : look l x = some (.v (.bool true))) : Val P n W σ l X ⟨d, .unOp .not t x, ty, pos, aft, g⟩ (.v (.bool false)) :=
  bJ_ hx fun _ ehx => Proofs.YtjclgkddfjbdiaaGreatDoor.a4_ ehx
theorem eo_ (hx : look l x = some (.v (.bool false))) : Val P n W σ l X ⟨d, .unOp .not t x, ty, pos, aft, g⟩ (.v (.bool true)) :=
  bJ_ hx fun _ ehx => Proofs.YtjclgkddfjbdiaaGreatDoor.eo_ ehx
theorem R_ {k2 : IntKind} (hx : look l x = some (.v (.int k a))) (ht : P.underlying t' = some (.int k2)) (hs : (P.underlying t).isSome = true) (h : InR k2 a) : Val P n W σ l X ⟨d, .convert t t' x, ty, pos, aft, g⟩ (.v (.int k2 a)) :=
  bJ_ hx fun _ ehx => Proofs.YtjclgkddfjbdiaaGreatDoor.R_ ehx ht hs h
theorem cc_ {k2 : IntKind} (hx : look l x = some (.v (.int k a))) (ht : P.underlying t' = some (.int k2)) (hs : (P.underlying t).isSome = true) : Val P n W σ l X ⟨d, .convert t t' x, ty, pos, aft, g⟩ (.v (.int k2 (k2.wrap a))) :=
  bJ_ hx fun _ ehx => Proofs.YtjclgkddfjbdiaaGreatDoor.cc_ ehx ht hs
theorem ag_ {p : Addr} (hx : look l x = some (.v (.pointer (some p)))) : Val P n W σ l X ⟨d, .nilCheck x, ty, pos, aft, g⟩ (.v (.pointer (some p))) :=
  bJ_ hx fun _ ehx => Proofs.YtjclgkddfjbdiaaGreatDoor.ag_ ehx
theorem cJ_ {s : ByteArray} (hx : look l x = some (.v (.string s))) (ht : P.underlying t = some .string) : Val P n W σ l X ⟨d, .call { callee := .builtin .len, args := #[x], argTypes := #[t] }, ty, pos, aft, g⟩ (.v (.int .i64 s.size)) :=
  bJ_ hx fun _ ehx => Proofs.YtjclgkddfjbdiaaGreatDoor.cJ_ ehx ht
theorem ep_ (hx : look l x = some (.v (.int k a))) (hy : look l y = some (.v (.int k b))) : Val P n W σ l X ⟨d, .call { callee := .builtin .min, args := #[x, y], argTypes := #[t, t'] }, ty, pos, aft, g⟩ (.v (.int k (min a b))) :=
  aM_ hx hy fun _ ehx ehy => Proofs.YtjclgkddfjbdiaaGreatDoor.ep_ ehx ehy
theorem aY_ {k : IntKind} {a : Int} (hx : look l x = some (.v (.int k a))) (ht : P.underlying e = some (.int .u64)) (hs : (P.underlying t).isSome = true) : Val P n W σ l X ⟨d, .convert t e x, ty, pos, aft, g⟩ (.v (.int .u64 (u64 a : Nat))) :=
  bJ_ hx fun _ ehx => Proofs.YtjclgkddfjbdiaaGreatDoor.aY_ ehx ht hs
def plains : List Abs → Option (List Value)
  | [] => some []
  | .v u :: l => match plains l with
    | some us => some (u :: us)
    | none => none
  | _ :: _ => none
theorem bH_ {K : List Nat} {w : World} : ∀ {ys : List Abs} {us vs : List Value}, plains ys = some us → reps K w ys vs → vs = us
  | [], us, vs, h, hr => by simp [plains] at h; subst h; exact hr
  | .v u :: l, us, vs, h, ⟨u', vs', h1, h2, h3⟩ => by
    unfold plains at h
    cases h4 : plains l with
    | none => simp [h4] at h
    | some us' =>
      simp [h4] at h
      have h5 : u' = u := h2
      rw [h1, h5, bH_ h4 h3, h]
  | .sl _ _ :: _, _, _, h, _ => by simp [plains] at h
  | .agg _ :: _, _, _, h, _ => by simp [plains] at h
  | .rp _ :: _, _, _, h, _ => by simp [plains] at h
  | .tup _ :: _, _, _, h, _ => by simp [plains] at h
  | .fn _ _ _ :: _, _, _, h, _ => by simp [plains] at h
  | .ifc _ _ :: _, _, _, h, _ => by simp [plains] at h
theorem fp_ {α : Type} (f : α → Value) : ∀ l : List α, plains (l.map fun x => .v (f x)) = some (l.map f)
  | [] => rfl
  | x :: l => by simp [plains, fp_ f l]
theorem a8_ {α : Type} {f : α → List Abs} {xs : List α} {q : Nat} (h : q < xs.length) : (xs.map f)[q]? = some (f xs[q]) := by simp [h]
theorem e7_ {cx cy : List Abs} {X' Y' : List Value} (hx : look l x = some (.agg cx)) (hy : look l y = some (.agg cy)) (px : plains cx = some X') (py : plains cy = some Y') (hg : P.eqGuardType P.depth t = false) (h : ∀ w, (binOp .eql t (.agg X'.toArray) (.agg Y'.toArray)).run P w = .ok v w) : Val P n W σ l X ⟨d, .binOp .eql t x y t', ty, pos, aft, g⟩ (.v v) := aB_ fun a w hs _ => by
  obtain ⟨ux, h1, h2⟩ := hs.eval hx
  obtain ⟨uy, h3, h4⟩ := hs.eval hy
  rw [bH_ px h2] at h1
  rw [bH_ py h4] at h3
  exact ⟨v, rfl, fun w' _ => Proofs.YtjclgkddfjbdiaaGreatDoor.e7_ (by rw [hs.at2 hx, h1]) (by rw [hs.at2 hy, h3]) hg h⟩
theorem hT_ {cx cy : List Abs} {X' Y' : List Value} (hx : look l x = some (.agg cx)) (hy : look l y = some (.agg cy)) (px : plains cx = some X') (py : plains cy = some Y') (hg : P.eqGuardType P.depth t = false) (h : ∀ w, (binOp .neq t (.agg X'.toArray) (.agg Y'.toArray)).run P w = .ok v w) : Val P n W σ l X ⟨d, .binOp .neq t x y t', ty, pos, aft, g⟩ (.v v) := aB_ fun a w hs _ => by
  obtain ⟨ux, h1, h2⟩ := hs.eval hx
  obtain ⟨uy, h3, h4⟩ := hs.eval hy
  rw [bH_ px h2] at h1
  rw [bH_ py h4] at h3
  exact ⟨v, rfl, fun w' _ => Proofs.YtjclgkddfjbdiaaGreatDoor.hT_ (by rw [hs.at2 hx, h1]) (by rw [hs.at2 hy, h3]) hg h⟩
theorem br_ {vs : List Abs} {i : Nat} (hx : look l x = some (.tup vs)) (hi : vs[i]? = some A) : Val P n W σ l X ⟨d, .extract x i, ty, pos, aft, g⟩ A := aB_ fun a w hs _ => by
  obtain ⟨us, h1, h2⟩ := hs.eval hx
  obtain ⟨u, h3, h4⟩ := a2_ h2 hi
  exact ⟨u, h4, fun w' _ => Proofs.YtjclgkddfjbdiaaGreatDoor.br_ (by rw [hs.at2 hx, h1]) (by simpa using h3)⟩
theorem H_ {s m : Nat} {xs : List (List Abs)} (hx : look l x = some (.sl s xs)) (ht : P.underlying t = some (.slice e)) (hm : xs.length = m) : Val P n W σ l X ⟨d, .call { callee := .builtin .len, args := #[x], argTypes := #[t] }, ty, pos, aft, g⟩ (.v (.int .i64 m)) := aB_ fun a w hs _ => by
  subst hm
  obtain ⟨us, hr, _⟩ := hs.eval hx
  obtain ⟨A', c, h1, _⟩ := hr.shape
  exact ⟨_, rfl, fun w' _ => Proofs.YtjclgkddfjbdiaaGreatDoor.H_ (by rw [hs.at2 hx, h1]) ht⟩
theorem ae_ {c : Nat} {A' : Option Addr} {m : Nat} (hx : look l x = some (.v (.slice A' m c))) (ht : P.underlying t = some (.slice e)) : Val P n W σ l X ⟨d, .call { callee := .builtin .len, args := #[x], argTypes := #[t] }, ty, pos, aft, g⟩ (.v (.int .i64 m)) := bJ_ hx fun _ h => Proofs.YtjclgkddfjbdiaaGreatDoor.H_ h ht
theorem looks2 {a : Act} {w : World} (hs : St n W σ l a w) : ∀ {xs : List Operand} {ys : List Abs}, looks l xs = some ys → Proofs.YtjclgkddfjbdiaaGreatDoor.looks (fullS a) xs = some (xs.map a.eval)
  | [], _, _ => rfl
  | x :: xs, ys, h => by
    unfold looks at h
    cases h1 : look l x with
    | none => simp [h1] at h
    | some v =>
      cases h2 : looks l xs with
      | none => simp [h1, h2] at h
      | some us => simp [Proofs.YtjclgkddfjbdiaaGreatDoor.looks, hs.at2 h1, looks2 hs h2]
theorem V_ {fn : Fn} {fs cs : List Operand} {us vs : List Abs} (hf' : looks l fs = some us) (hc : looks l cs = some vs) : Val P n W σ l X ⟨d, .makeFunc fn fs.toArray cs.toArray, ty, pos, aft, g⟩ (.fn fn us vs) := aB_ fun a w hs _ =>
  ⟨_, ⟨_, _, rfl, hs.evals hf', hs.evals hc⟩, fun w' _ => Proofs.YtjclgkddfjbdiaaGreatDoor.V_ (looks2 hs hf') (looks2 hs hc)⟩
theorem bA_ (hx : look l x = some A) (h : ∀ u w, (Instr.makeInterface t u).run P w = .ok (.iface t u) w) : Val P n W σ l X ⟨d, .makeInterface t x, ty, pos, aft, g⟩ (.ifc t A) := aB_ fun a w hs _ =>
  ⟨_, ⟨_, rfl, hs.eval hx⟩, fun w' _ => Proofs.YtjclgkddfjbdiaaGreatDoor.bA_ (hs.at2 hx) (h _)⟩
theorem ca_ {w w' : World} {b j : Nat} {u : Value} (hx : Ext X w w') (hb : b ∉ X) (h : w.cell? ⟨b, j, none⟩ = some u) : w'.cell? ⟨b, j, none⟩ = some u := hx.cell h hb
theorem gv_ {w w' : World} {b : Nat} {us : List Value} (hx : Ext X w w') (hb : b ∉ X) (h : w.heap[b]? = some (row t us)) : w'.heap[b]? = some (row t us) := (hx.block b (aR_ h) hb).trans h
def isBlk (σ : Blks) (b : Nat) (t : TypeId) (cs : List Abs) : Prop := It.blk b t cs ∈ σ ∨ It.rd b t cs ∈ σ
theorem Mem.blk {w0 w : World} {F G : List Nat} {b : Nat} {cs : List Abs} (h : Mem w0 F G σ w) (hb : isBlk σ b t cs) : ∃ us, w.heap[b]? = some (row t us) ∧ reps (mids σ ++ G) w cs us := by
  rcases hb with hb | hb
  · exact h.hold _ hb
  · exact h.hold _ hb
theorem g_ (hT : TabOk P tab) {sz b o : Nat} {zs : List Value} {cs : List Abs} (ht : ti tab t = some ⟨sz, .one, zs⟩) (hx : look l x = some (.v (.pointer (some ⟨b, o, none⟩)))) (hb : isBlk σ b t' cs) (hbX : b ∉ X) (hv : cs[o]? = some A) : Val P n W σ l X ⟨d, .load t x, ty, pos, aft, g⟩ A := aB_ fun a w hs _ => by
  obtain ⟨us, h1, h2⟩ := hs.mem.blk hb
  obtain ⟨u, h3, h4⟩ := a2_ h2 hv
  exact ⟨u, h4, fun w' hw' => Proofs.YtjclgkddfjbdiaaGreatDoor.fA_ hT ht (by rw [hs.at2 hx, hs.plain hx]) fun w1 e => by subst e; rw [a3_ (gv_ hw' hbX h1)]; exact h3⟩
theorem aa_ (hT : TabOk P tab) {sz : Nat} {zs : List Value} {cs : List Abs} (ht : ti tab t = some ⟨sz, .one, zs⟩) (hx : look l x = some (.rp cs)) (hv : cs[0]? = some A) : Val P n W σ l X ⟨d, .load t x, ty, pos, aft, g⟩ A := aB_ fun a w hs hX => by
  obtain ⟨b, off, us, h1, h2, h3, h4, h5⟩ := hs.eval hx
  obtain ⟨u, h6, h7⟩ := a2_ h5 hv
  exact ⟨u, h7, fun w' hw' => Proofs.YtjclgkddfjbdiaaGreatDoor.fA_ hT ht (by rw [hs.at2 hx, h1]) fun w1 e => by subst e; exact ca_ hw' (fun hm => h2 (hX b hm)) (h4 0 u h6)⟩
def part (cs : List Abs) (o s : Nat) : List Abs := (cs.drop o).take s
theorem ad_ (hT : TabOk P tab) {i : TI} {b o : Nat} {cs : List Abs} (ht : ti tab t = some i) (hk : (match i.k with | .one => false | _ => true) = true) (hx : look l x = some (.v (.pointer (some ⟨b, o, none⟩)))) (hb : isBlk σ b t' cs) (hbX : b ∉ X) (hl : o + i.size ≤ cs.length) : Val P n W σ l X ⟨d, .load t x, ty, pos, aft, g⟩ (.agg (part cs o i.size)) := aB_ fun a w hs _ => by
  obtain ⟨us, h1, h2⟩ := hs.mem.blk hb
  have hlen := ac_ h2
  refine ⟨_, ⟨_, rfl, cF_ (du_ h2 o) i.size⟩, fun w' hw' => Proofs.YtjclgkddfjbdiaaGreatDoor.dZ_ hT ht hk (by rw [hs.at2 hx, hs.plain hx]) (by simp; omega) fun w1 e j u hu => ?_⟩
  subst e
  rw [a3_ (gv_ hw' hbX h1)]
  rw [List.getElem?_take, List.getElem?_drop] at hu
  split at hu
  · exact hu
  · cases hu
theorem r_ (hT : TabOk P tab) {i : TI} {b : Nat} {cs : List Abs} (ht : ti tab t = some i) (hk : (match i.k with | .one => false | _ => true) = true) (hx : look l x = some (.v (.pointer (some ⟨b, 0, none⟩)))) (hb : isBlk σ b t' cs) (hbX : b ∉ X) (hl : cs.length = i.size) : Val P n W σ l X ⟨d, .load t x, ty, pos, aft, g⟩ (.agg cs) :=
  h_ (ad_ hT ht hk hx hb hbX (by omega)) (by simp [part, ← hl])
theorem jA_ (hT : TabOk P tab) {i : TI} {cs : List Abs} (ht : ti tab t = some i) (hk : (match i.k with | .one => false | _ => true) = true) (hx : look l x = some (.rp cs)) (hl : i.size ≤ cs.length) : Val P n W σ l X ⟨d, .load t x, ty, pos, aft, g⟩ (.agg (cs.take i.size)) := aB_ fun a w hs hX => by
  obtain ⟨b, off, us, h1, h2, h3, h4, h5⟩ := hs.eval hx
  have hlen := ac_ h5
  refine ⟨_, ⟨_, rfl, cF_ h5 i.size⟩, fun w' hw' => Proofs.YtjclgkddfjbdiaaGreatDoor.dZ_ hT ht hk (by rw [hs.at2 hx, h1]) (by simp; omega) fun w1 e j u hu => ?_⟩
  subst e
  rw [List.getElem?_take] at hu
  split at hu
  · exact ca_ hw' (fun hm => h2 (hX b hm)) (h4 j u hu)
  · cases hu
theorem av_ (hT : TabOk P tab) {i : TI} {cs : List Abs} (ht : ti tab t = some i) (hk : (match i.k with | .one => false | _ => true) = true) (hx : look l x = some (.rp cs)) (hl : cs.length = i.size) : Val P n W σ l X ⟨d, .load t x, ty, pos, aft, g⟩ (.agg cs) :=
  h_ (jA_ hT ht hk hx (by omega)) (by simp [← hl])
theorem E_ (hT : TabOk P tab) {sz fo ft f b o : Nat} {gs : List (Nat × Nat)} {zs : List Value} {j : TI} (ht : ti tab t = some ⟨sz, .struct gs, zs⟩) (hx : look l x = some (.v (.pointer (some ⟨b, o, none⟩)))) (hfo : gs[f]? = some (fo, ft)) (hj : ti tab ft = some j) (hs : Nat.beq j.size 0 = false) :
    Val P n W σ l X ⟨d, .fieldAddr t x f, ty, pos, aft, g⟩ (.v (.pointer (some ⟨b, o + fo, none⟩))) := bJ_ hx fun _ h => Proofs.YtjclgkddfjbdiaaGreatDoor.E_ hT ht h hfo hj hs
theorem X_ (hT : TabOk P tab) {sz fo ft f : Nat} {gs : List (Nat × Nat)} {zs : List Value} {j : TI} {cs : List Abs} (ht : ti tab t = some ⟨sz, .struct gs, zs⟩) (hx : look l x = some (.rp cs)) (hfo : gs[f]? = some (fo, ft)) (hj : ti tab ft = some j) (hs0 : Nat.beq j.size 0 = false) :
    Val P n W σ l X ⟨d, .fieldAddr t x f, ty, pos, aft, g⟩ (.rp (cs.drop fo)) := aB_ fun a w hs hX => by
  obtain ⟨b, off, us, h1, h2, h3, h4, h5⟩ := hs.eval hx
  refine ⟨_, ⟨b, off + fo, us.drop fo, rfl, h2, h3, fun j u hu => ?_, du_ h5 fo⟩, fun w' _ => Proofs.YtjclgkddfjbdiaaGreatDoor.E_ hT ht (by rw [hs.at2 hx, h1]) hfo hj hs0⟩
  rw [List.getElem?_drop] at hu
  rw [Nat.add_assoc]; exact h4 _ u hu
theorem fB_ (hT : TabOk P tab) {sz fo ft f sz' : Nat} {gs : List (Nat × Nat)} {zs zs' : List Value} {cs : List Abs} (ht : ti tab t = some ⟨sz, .struct gs, zs⟩) (hx : look l x = some (.agg cs)) (hfo : gs[f]? = some (fo, ft)) (hj : ti tab ft = some ⟨sz', .one, zs'⟩) (hv : cs[fo]? = some A) :
    Val P n W σ l X ⟨d, .field t x f, ty, pos, aft, g⟩ A := aB_ fun a w hs hX => by
  obtain ⟨us, h1, h2⟩ := hs.eval hx
  obtain ⟨u, h3, h4⟩ := a2_ h2 hv
  exact ⟨u, h4, fun w' _ => Proofs.YtjclgkddfjbdiaaGreatDoor.fB_ hT ht (by rw [hs.at2 hx, h1]) hfo hj h3⟩
theorem L_ (hT : TabOk P tab) {s q : Nat} {k : IntKind} {j : TI} {xs : List (List Abs)} {cs : List Abs} (hu : P.underlying t = some (.slice e)) (hj : ti tab e = some j) (hx : look l x = some (.sl s xs)) {r : Int} (hy : look l y = some (.v (.int k r))) (hr : r = (q : Nat)) (hq : xs[q]? = some cs) (hsz : Nat.beq s j.size = true) (hpos : Nat.blt 0 s = true) :
    Val P n W σ l X ⟨d, .indexAddr t x y, ty, pos, aft, g⟩ (.rp cs) := aB_ fun a w hs hX => by
  subst hr
  obtain ⟨us, hr, h2⟩ := hs.eval hx
  have hsz := Nat.eq_of_beq_eq_true hsz
  have hpos : 0 < s := by simpa [Nat.blt_eq] using hpos
  obtain ⟨vs, h3, h4, h5⟩ := eD_ h2 hq
  have hlt : q < xs.length := (List.getElem?_eq_some_iff.1 hq).1
  have hlen := aI_ h2
  have hne : us ≠ [] := by
    rintro rfl
    have : xs.length * s = 0 := by simpa using hlen.symm
    rcases Nat.mul_eq_zero.1 this with h | h <;> omega
  obtain ⟨A', c, hsh, h6, h7, h8⟩ := hr.shape
  obtain ⟨b, off, n', c', hv, hb, hc⟩ := hr.cells hne
  rw [hsh] at hv
  simp at hv
  obtain ⟨rfl, rfl, rfl⟩ := hv
  have hcell : ∀ j u, vs[j]? = some u → w.cell? ⟨b, off + q * s + j, none⟩ = some u := fun j u hu => by rw [Nat.add_assoc]; exact hc _ u (h5 j u hu)
  have hbl : b < w.heap.size := by
    cases vs with
    | nil => simp at h3; omega
    | cons u vs => exact block_lt_of_cell (hcell 0 u rfl)
  refine ⟨_, ⟨b, off + q * s, vs, rfl, hb, hbl, hcell, h4⟩, fun w' _ => ?_⟩
  rw [hsz]
  exact Proofs.YtjclgkddfjbdiaaGreatDoor.bT_ hT hu hj (by rw [hs.at2 hx, hsh]) (by rw [hs.at2 hy, hs.plain hy]) hlt
/-! ### Operations that change memory -/
theorem lift_eff {a : Act} {w : World} (hs : St n W σ l a w) {R : Value → (World → Prop) → Prop} {C : World → Prop} (h : Proofs.YtjclgkddfjbdiaaGreatDoor.Eff P n (fullS a) C o R) (hC : C w) : ∃ v w' C', R v C' ∧ C' w' ∧ ((execOp a.eval o).run P w = .ok (.value v) w' ∨ (v = undef ∧ (execOp a.eval o).run P w = .ok .skip w')) := h a w hs.fr hC
def zabs (zs : List Value) : List Abs := zs.map .v
theorem b8_ {K : List Nat} {w : World} : ∀ zs : List Value, reps K w (zabs zs) zs
  | [] => rfl
  | z :: zs => ⟨z, zs, rfl, rfl, b8_ zs⟩
theorem C_ (hT : TabOk P tab) {i : TI} (ht : ti tab t = some i) : Eff P n W σ l [] ⟨d, .alloc t, ty, pos, aft, g⟩ fun v τ => ∃ b, v = .v (.pointer (some ⟨b, 0, none⟩)) ∧ τ = .blk b t (zabs i.zero) :: σ := fun a w hs => by
  obtain ⟨zv, hz, hc⟩ := (hT t _ ht).zeroValue (w := w)
  obtain ⟨h1, h2⟩ := hs.mem.alloc t (b8_ i.zero)
  refine ⟨_, _, _, _, ⟨w.heap.size, rfl, rfl⟩, (Ext.refl w).alloc _, rfl, h1, h2, .inl ?_⟩
  simp [execOp, Instr.alloc, Sem.run_bind, hz, Result.andThen, newVar, newRow, newObj, Sem.run, hc, row]
theorem B_ {cs : List Abs} (hx : look l x = some (.agg cs)) : Eff P n W σ l [] ⟨d, .box t x, ty, pos, aft, g⟩ fun v τ => ∃ b, v = .v (.pointer (some ⟨b, 0, none⟩)) ∧ τ = .blk b t cs :: σ := fun a w hs => by
  obtain ⟨us, hv, hr⟩ := hs.eval hx
  obtain ⟨h1, h2⟩ := hs.mem.alloc t hr
  refine ⟨_, _, _, _, ⟨w.heap.size, rfl, rfl⟩, (Ext.refl w).alloc _, rfl, h1, h2, .inl ?_⟩
  simp [execOp, hv, Instr.box, Result.andThen, newVar, newRow, newObj, Sem.run, Value.cells, row]
theorem k4_ (h1 : v.oneCell' = true) : v.cells = #[v] := by cases v <;> simp [Value.oneCell'] at h1 <;> rfl
theorem be_ (hx : look l x = some A) (h1 : A.one = true) : Eff P n W σ l [] ⟨d, .box t x, ty, pos, aft, g⟩ fun v τ => ∃ b, v = .v (.pointer (some ⟨b, 0, none⟩)) ∧ τ = .blk b t [A] :: σ := fun a w hs => by
  have hr := hs.eval hx
  have hc := k4_ (Abs.one_rep hr h1)
  obtain ⟨h3, h4⟩ := hs.mem.alloc t (cs := [A]) (us := [a.eval x]) ⟨_, _, rfl, hr, rfl⟩
  refine ⟨_, _, _, _, ⟨w.heap.size, rfl, rfl⟩, (Ext.refl w).alloc _, rfl, h3, h4, .inl ?_⟩
  simp [execOp, Instr.box, Result.andThen, newVar, newRow, newObj, Sem.run, hc, row]
def putL : List Abs → Nat → List Abs → List Abs
  | L, 0, vs => vs ++ L.drop vs.length
  | x :: L, n + 1, vs => x :: putL L n vs
  | [], _ + 1, _ => []
theorem ck_ : ∀ (L : List Abs) (n : Nat) (vs : List Abs), n ≤ L.length → putL L n vs = L.take n ++ vs ++ L.drop (n + vs.length)
  | L, 0, vs, _ => by simp [putL]
  | x :: L, n + 1, vs, h => by
    have := ck_ L n vs (by simpa using h)
    simp [putL, this, Nat.add_right_comm n 1 vs.length]
  | [], n + 1, vs, h => by simp at h
theorem fL_ {K : List Nat} {w : World} {cs ys : List Abs} {us vs : List Value} {o : Nat} (h : reps K w cs us) (k : reps K w ys vs) (ho : o ≤ cs.length) : reps K w (putL cs o ys) (putAt us o vs) := by
  have h1 := ac_ h
  have h2 := ac_ k
  rw [ck_ _ _ _ ho, bt_ _ _ _ (by omega), h2]
  exact aW_ (aW_ (cF_ h o) k) (du_ h _)
def cellsA : Abs → List Abs
  | .v (.agg us) => us.toList.map .v
  | .agg cs => cs
  | y => [y]
theorem cX_ {K : List Nat} {w : World} (hr : rep K w A v) : reps K w (cellsA A) (cellsL v) := by
  cases A with
  | v u =>
    have : v = u := hr
    subst this
    cases v <;> first | exact ⟨_, _, rfl, rfl, rfl⟩ | skip
    rename_i us
    exact b8_ us.toList
  | agg cs => obtain ⟨us, rfl, h⟩ := hr; simpa [cellsL, cellsA] using h
  | sl s xs => have h0 := hr; obtain ⟨us, h1, h2⟩ := hr; obtain ⟨A', c, rfl, _⟩ := h1.shape; exact ⟨_, _, rfl, h0, rfl⟩
  | rp cs => have h0 := hr; obtain ⟨b, o, us, rfl, _⟩ := hr; exact ⟨_, _, rfl, h0, rfl⟩
  | tup cs => have h0 := hr; obtain ⟨us, rfl, _⟩ := hr; exact ⟨_, _, rfl, h0, rfl⟩
  | fn f bs cs => have h0 := hr; obtain ⟨us, vs, rfl, _⟩ := hr; exact ⟨_, _, rfl, h0, rfl⟩
  | ifc t a => have h0 := hr; obtain ⟨u, rfl, _⟩ := hr; exact ⟨_, _, rfl, h0, rfl⟩
theorem m_ (hT : TabOk P tab) {i : TI} {b o : Nat} {cs L' : List Abs} (ht : ti tab t = some i) (hx : look l x = some (.v (.pointer (some ⟨b, o, none⟩)))) (hy : look l y = some A) (hu : Upd (.blk b t' cs) (.blk b t' L') σ τ) (hl : (cellsA A).length = i.size) (hn : o + i.size ≤ cs.length) (h1 : ones (cellsA A) = true) (hL : putL cs o (cellsA A) = L') :
    Eff P n W σ l [b] ⟨d, .store t x y, ty, pos, aft, g⟩ fun u τ' => u = .v undef ∧ τ' = τ := fun a w hs => by
  obtain ⟨us, hb, hr⟩ := hs.mem.hold _ hu.mem
  have hry := cX_ (hs.eval hy)
  have hlen := ac_ hr
  have hlen2 := ac_ hry
  have h2 := (hT t _ ht).sizeOf (w := w)
  have hone := b9_ hry h1
  have hst := run_storeCells_at (P := P) b o t' (cellsL (a.eval y)) 0 us.toArray w hb (by simp; omega) hone
  have hE : (us.toArray.toList.take (o + 0) ++ cellsL (a.eval y) ++ us.toArray.toList.drop (o + 0 + (cellsL (a.eval y)).length)).toArray = (putAt us o (cellsL (a.eval y))).toArray := by
    rw [bt_ us o _ (by omega)]; simp
  rw [hE] at hst
  have hxx : Ext [b] w (w.setRow b (putAt us o (cellsL (a.eval y))).toArray) := (Ext.refl w).setRow (.inl (by simp)) _
  have hm := hs.mem.upd hu hxx (by simp [It.mids]) (by simp [It.mids]) rfl fun hc => ⟨_, dc_ hb, aj_ hc _ _ (hL ▸ fL_ hr hry (by omega))⟩
  refine ⟨undef, _, _, _, ⟨rfl, rfl⟩, hxx, rfl, hm.1, hm.2, .inr ⟨rfl, ?_⟩⟩
  have hcs := dA_ (a.eval y)
  have hle : (cellsL (a.eval y)).length = i.size := by omega
  simp [execOp, hs.plain hx, Instr.storeAt, Instr.sureAddr, storeVar, Sem.run_bind, hcs, h2, hle, hst, Result.andThen]
/-! ### Composite values -/
def fillA (place : Nat → Option (Nat × Nat)) (cells : List Abs) : List (Nat × Abs) → Option (List Abs)
  | [] => some cells
  | (i, v) :: rest => match place i with
    | none => none
    | some (off, size) => bif Nat.beq (cellsA v).length size && Nat.ble (off + size) cells.length then fillA place (putL cells off (cellsA v)) rest else none
def evalParts (l : Slots) : List (Nat × Operand) → Option (List (Nat × Abs))
  | [] => some []
  | (i, x) :: ps => match look l x, evalParts l ps with
    | some v, some vs => some ((i, v) :: vs)
    | _, _ => none
theorem evalParts2 {a : Act} {w : World} (hs : St n W σ l a w) : ∀ {ps : List (Nat × Operand)} {vs : List (Nat × Abs)}, evalParts l ps = some vs →
    Proofs.YtjclgkddfjbdiaaGreatDoor.evalParts (fullS a) ps = some (ps.map fun p => (p.1, a.eval p.2)) ∧ vs.map (·.1) = ps.map (·.1) ∧ reps (mids σ ++ W.G) w (vs.map (·.2)) (ps.map fun p => a.eval p.2)
  | [], vs, h => by simp [evalParts] at h; subst h; exact ⟨rfl, rfl, rfl⟩
  | (i, x) :: ps, vs, h => by
    unfold evalParts at h
    cases h1 : look l x with
    | none => simp [h1] at h
    | some v =>
      cases h2 : evalParts l ps with
      | none => simp [h1, h2] at h
      | some us =>
        simp [h1, h2] at h
        subst h
        obtain ⟨h3, h4, h5⟩ := evalParts2 hs h2
        refine ⟨by simp [Proofs.YtjclgkddfjbdiaaGreatDoor.evalParts, hs.at2 h1, h3], by simpa using h4, ⟨_, _, rfl, hs.eval h1, h5⟩⟩
theorem eU_ {K : List Nat} {w : World} (place : Nat → Option (Nat × Nat)) : ∀ (vs : List (Nat × Abs)) (us : List (Nat × Value)) (cells L : List Abs) (cv : List Value), vs.map (·.1) = us.map (·.1) → reps K w (vs.map (·.2)) (us.map (·.2)) → reps K w cells cv → fillA place cells vs = some L → ∃ L', fillL place cv us = some L' ∧ reps K w L L'
  | [], us, cells, L, cv, h1, h2, h3, h4 => by
    simp [fillA] at h4
    subst h4
    cases us with
    | nil => exact ⟨cv, rfl, h3⟩
    | cons _ _ => simp at h1
  | (i, v) :: rest, us, cells, L, cv, h1, h2, h3, h4 => by
    cases us with
    | nil => simp at h1
    | cons p us =>
      obtain ⟨i', u⟩ := p
      simp only [List.map_cons, List.cons.injEq] at h1
      obtain ⟨rfl, h1⟩ := h1
      obtain ⟨u', us', h5, h6, h7⟩ := h2
      simp only [List.map_cons, List.cons.injEq] at h5
      obtain ⟨rfl, rfl⟩ := h5
      unfold fillA at h4
      unfold fillL
      cases hp : place i with
      | none => simp [hp] at h4
      | some os =>
        obtain ⟨off, size⟩ := os
        simp only [hp] at h4 ⊢
        have hc := cX_ h6
        have l1 := ac_ hc
        have l2 := ac_ h3
        cases hb : (Nat.beq (cellsA v).length size && Nat.ble (off + size) cells.length) with
        | false => rw [hb] at h4; simp at h4
        | true =>
          rw [hb] at h4
          rw [l1, l2, hb]
          simp only [Bool.and_eq_true] at hb
          have e1 := Nat.eq_of_beq_eq_true hb.1
          have e2 := Nat.le_of_ble_eq_true hb.2
          exact eU_ place rest us _ L _ h1 h7 (fL_ h3 hc (by omega)) h4
theorem z_ (hT : TabOk P tab) {sz : Nat} {gs : List (Nat × Nat)} {zs : List Value} {L : List Abs} {ps : List (Nat × Operand)} {vs : List (Nat × Abs)} (ht : ti tab t = some ⟨sz, .struct gs, zs⟩) (hin : allIn tab gs = true) (hps : evalParts l ps = some vs) (hL : fillA ((places tab gs)[·]?) (zabs zs) vs = some L) :
    Val P n W σ l X ⟨d, .build t ps.toArray, ty, pos, aft, g⟩ (.agg L) := aB_ fun a w hs hX => by
  obtain ⟨h1, h2, h3⟩ := evalParts2 hs hps
  obtain ⟨L', h4, h5⟩ := eU_ _ vs (ps.map fun p => (p.1, a.eval p.2)) _ L zs (by rw [List.map_map]; exact h2) (by rw [List.map_map]; exact h3) (b8_ zs) hL
  exact ⟨_, ⟨L', rfl, h5⟩, fun w' _ => Proofs.YtjclgkddfjbdiaaGreatDoor.z_ hT ht hin h1 h4⟩
theorem bC_ (hT : TabOk P tab) {sz m e : Nat} {j : TI} {zs : List Value} {L : List Abs} {ps : List (Nat × Operand)} {vs : List (Nat × Abs)} (ht : ti tab t = some ⟨sz, .array m e, zs⟩) (hj : ti tab e = some j) (hps : evalParts l ps = some vs) (hL : fillA (fun i => some (i * j.size, j.size)) (zabs zs) vs = some L) :
    Val P n W σ l X ⟨d, .build t ps.toArray, ty, pos, aft, g⟩ (.agg L) := aB_ fun a w hs hX => by
  obtain ⟨h1, h2, h3⟩ := evalParts2 hs hps
  obtain ⟨L', h4, h5⟩ := eU_ _ vs (ps.map fun p => (p.1, a.eval p.2)) _ L zs (by rw [List.map_map]; exact h2) (by rw [List.map_map]; exact h3) (b8_ zs) hL
  exact ⟨_, ⟨L', rfl, h5⟩, fun w' _ => Proofs.YtjclgkddfjbdiaaGreatDoor.bC_ hT ht hj h1 h4⟩
end
abbrev byt (l : List UInt8) : Abs := .sl 1 (l.map fun b => [.v (bc b)])
section
variable {K : List Nat} {w : World} {x : Value}
theorem hN_ (l : List UInt8) : (l.map fun b => [Abs.v (bc b)]) = (l.map bc).map fun u => [.v u] := by rw [List.map_map]; rfl
theorem aP_ {l : List UInt8} : rep K w (byt l) x ↔ IsRow K w x l.length (l.map bc) := by
  constructor
  · rintro ⟨us, h1, h2⟩
    rw [hN_] at h2
    have := cj_ h2
    subst this
    simpa using h1
  · intro h
    refine ⟨l.map bc, by simpa using h, ?_⟩
    rw [hN_]; exact cO_
theorem b3_ {s : Nat} {x : Value} (h : rep K w (.v (.slice none 0 0)) x) : rep K w (.sl s []) x := ⟨[], IsRow.nil h, rfl⟩
end
def ownPc (e : TypeId) (s : Nat) (v : Value) (xs : List (List Abs)) : Pc where
  ids := v.ownBlock.toList
  p := fun K w => ∃ us, w.ownsRow 0 e s v xs.length us ∧ repss K w s xs us
  carry := fun K w K' w' hc hs ⟨us, h, hr⟩ => by
    refine ⟨us, ⟨h.1, ?_⟩, am_ hc s xs us hr⟩
    rcases h.2 with h2 | ⟨g, cap, cur, rfl, hg, hh, hrest⟩
    · exact .inl h2
    · exact .inr ⟨g, cap, cur, rfl, hg, (hs g (by simp [Value.ownBlock])).trans hh, hrest⟩
  lt := fun K w ⟨us, h, _⟩ k hk => by
    have := World.ownsRow.lt h k (by simpa using hk)
    omega
abbrev own (e : TypeId) (s : Nat) (v : Value) (xs : List (List Abs)) : It := .pc (ownPc e s v xs)
theorem aQ_ {e : TypeId} {s : Nat} {v : Value} {xs : List (List Abs)} : (own e s v xs).mids.Nodup := by
  simp only [It.mids, ownPc]
  cases v.ownBlock <;> simp
section
variable {P : Program} {n : Nat} {W : Wd} {σ τ : Blks} {l : Slots} {X : List Nat} {x y z : Operand} {d : Option Nat} {ty t t' e : TypeId} {pos : String} {aft : Array Edge} {g : Option (Nat × Bool)} {v u : Value} {k k' : IntKind} {a b : Int} {o : Oper} {A B : Abs} {tab : List (Nat × TI)} {ops : Array Oper} {rest : List Oper} {Q : Exit → Act → World → Prop} {ix : Plan} {xs ys : List (List Abs)} {s : Nat}
theorem Mem.own0 {w0 w : World} {F G : List Nat} (h : Mem w0 F G σ w) (e : TypeId) (s : Nat) : Mem w0 F G (own e s (.slice none 0 0) [] :: σ) w ∧ Carry (mids σ ++ G) w (mids (own e s (.slice none 0 0) [] :: σ) ++ G) w :=
  h.new (Ext.refl w) aQ_ (by simp [It.mids, ownPc, Value.ownBlock]) rfl fun _ => ⟨[], ⟨by simp, .inl ⟨rfl, rfl⟩⟩, rfl⟩
theorem St.own0 {a : Act} {w : World} (h : St n W σ l a w) (e : TypeId) (s : Nat) : St n W (own e s (.slice none 0 0) [] :: σ) l a w := let ⟨h1, h2⟩ := h.mem.own0 e s; h.to h1 h2
theorem own_sl {w0 w : World} {F G : List Nat} {pre post : Blks} (h : Mem w0 F G (pre ++ own e s v xs :: post) w) : rep (mids (pre ++ post) ++ G) w (.sl s xs) v := by
  obtain ⟨us, h1, h2⟩ : (ownPc e s v xs).p _ w := h.hold (own e s v xs) (by simp)
  have hc := (h.sub (τ := pre ++ post) (List.Sublist.append (List.Sublist.refl _) (List.sublist_cons_self _ _))).2
  refine ⟨us, ownsRow.isRow h1 fun k hk hm => ?_, am_ hc s xs us h2⟩
  have hk' : k ∈ (own e s v xs).mids := by simp [It.mids, ownPc, hk]
  have hnd := h.nodup
  simp only [T_, af_, List.nodup_append] at hnd hm
  obtain ⟨n1, ⟨n2, n3, n4⟩, n5⟩ := hnd
  rcases List.mem_append.1 hm with hm | hm
  · rcases List.mem_append.1 hm with hm | hm
    · exact n5 k hm k (List.mem_append_left _ hk') rfl
    · exact n4 k hk' k hm rfl
  · exact h.sep k (by simp [T_, af_, hk']) hm
theorem St.freeze {a : Act} {w : World} {pre post : Blks} {t : Nat} (h : St n W (pre ++ own e s v xs :: post) l a w) (hs : slot l t = some (.v v)) : St n W (pre ++ post) ((t, .sl s xs) :: l) a w := by
  have hsub : (pre ++ post).Sublist (pre ++ own e s v xs :: post) := List.Sublist.append (List.Sublist.refl _) (List.sublist_cons_self _ _)
  refine (h.less hsub).cast hs fun u hu => ?_
  have : u = v := hu
  subst this
  exact own_sl h.mem
theorem hb_ (pre : Blks) {post : Blks} {t : Nat} (hσ : σ = pre ++ own e s v xs :: post) (hs : slot l t = some (.v v)) (k : SL P ops rest (St n W (pre ++ post) ((t, .sl s xs) :: l)) Q) : SL P ops rest (St n W σ l) Q := by
  subst hσ; exact fun a w h => k a w (h.freeze hs)
theorem g9_ (pre : Blks) {post : Blks} {t : Nat} (hσ : σ = pre ++ own e s v xs :: post) (hs : slot l t = some (.v v)) (k : SX P ops ix X (St n W (pre ++ post) ((t, .sl s xs) :: l)) Q) : SX P ops ix X (St n W σ l) Q := by
  subst hσ; exact fun a w h => k a w (h.freeze hs)
theorem aT_ {ex : Exit} (pre : Blks) {post : Blks} {t : Nat} (hσ : σ = pre ++ own e s v xs :: post) (hs : slot l t = some (.v v)) (k : SE ex (St n W (pre ++ post) ((t, .sl s xs) :: l)) Q) : SE ex (St n W σ l) Q := by
  subst hσ; exact fun a w h => k a w (h.freeze hs)
theorem aC_ {c : Code} (pre : Blks) {post : Blks} {t : Nat} (hσ : σ = pre ++ own e s v xs :: post) (hs : slot l t = some (.v v)) (k : SC P c (St n W (pre ++ post) ((t, .sl s xs) :: l)) Q) : SC P c (St n W σ l) Q := by
  subst hσ; exact fun a w h => k a w (h.freeze hs)
theorem aF_ {c : Code} (e : TypeId) (s : Nat) (k : SC P c (St n W (own e s (.slice none 0 0) [] :: σ) l) Q) : SC P c (St n W σ l) Q := fun a w h => k a w (h.own0 e s)
theorem SL.own0 (e : TypeId) (s : Nat) (k : SL P ops rest (St n W (own e s (.slice none 0 0) [] :: σ) l) Q) : SL P ops rest (St n W σ l) Q := fun a w h => k a w (h.own0 e s)
theorem aJ_ {m : Nat} (hx : look l x = some (.v v)) (hb : own e s v xs ∈ σ) (ht : P.underlying t = some (.slice e)) (hm : xs.length = m) : Val P n W σ l X ⟨d, .call { callee := .builtin .len, args := #[x], argTypes := #[t] }, ty, pos, aft, g⟩ (.v (.int .i64 m)) := aB_ fun a w hs _ => by
  subst hm
  obtain ⟨us, h1, _⟩ : (ownPc e s v xs).p _ w := hs.mem.hold _ hb
  refine ⟨_, rfl, fun w' _ => ?_⟩
  rcases h1.2 with ⟨rfl, h0⟩ | ⟨g, cap, cur, rfl, _⟩
  · rw [h0]; exact Proofs.YtjclgkddfjbdiaaGreatDoor.H_ (by rw [hs.at2 hx, hs.plain hx]) ht
  · exact Proofs.YtjclgkddfjbdiaaGreatDoor.H_ (by rw [hs.at2 hx, hs.plain hx]) ht
theorem az_ (hT : TabOk P tab) {sz b o : Nat} {zs : List Value} {cs L' : List Abs} (ht : ti tab t = some ⟨sz, .one, zs⟩) (h1 : Nat.beq sz 1 = true) (hx : look l x = some (.v (.pointer (some ⟨b, o, none⟩)))) (hy : look l y = some (.v v)) (hb : own e s v xs ∈ σ) (hu : Upd (.blk b t' cs) (.blk b t' L') σ τ) (hn : Nat.blt o cs.length = true) (hL : putL cs o [.v v] = L') :
    Eff P n W σ l [b] ⟨d, .store t x y, ty, pos, aft, g⟩ fun u τ' => u = .v undef ∧ τ' = τ := fun a w hs => by
  obtain ⟨us, h2, _⟩ : (ownPc e s v xs).p _ w := hs.mem.hold _ hb
  have h1 := Nat.eq_of_beq_eq_true h1
  subst h1
  have hn : o < cs.length := by simpa [Nat.blt_eq] using hn
  have hsl : ∃ A n c, v = .slice A n c := by
    rcases h2.2 with ⟨h, _⟩ | ⟨g, cap, cur, h, _⟩
    · exact ⟨_, _, _, h⟩
    · exact ⟨_, _, _, h⟩
  obtain ⟨A', n', c', rfl⟩ := hsl
  exact m_ hT ht hx hy hu rfl (by show o + 1 ≤ _; omega) rfl hL a w hs
theorem bD_ (hT : TabOk P tab) {i : TI} (pre : Blks) {post : Blks} (hu : P.underlying t = some (.slice e)) (hi : ti tab e = some i) (hpos : Nat.blt 0 i.size = true) (hsz : Nat.beq s i.size = true)
    (hx : look l x = some (.v v)) (hy : look l y = some (.sl s ys)) (hσ : σ = pre ++ own e s v xs :: post) (h1 : ∀ c ∈ ys, ones c = true) (hm : xs.length + ys.length ≤ maxLen) (hby : (xs.length + ys.length) * P.bytesOf e ≤ 140737488355328) :
    Eff P n W σ l v.ownBlock.toList ⟨d, .call { callee := .builtin .append, args := #[x, y], argTypes := #[t, t] }, ty, pos, aft, g⟩ fun r τ => ∃ u, r = .v u ∧ τ = pre ++ own e s u (xs ++ ys) :: post := fun a w hs => by
  subst hσ
  have hsz := Nat.eq_of_beq_eq_true hsz
  subst hsz
  obtain ⟨us, own1, hr1⟩ : (ownPc e i.size v xs).p _ w := hs.mem.hold (own e i.size v xs) (by simp)
  obtain ⟨news, hrow, hr2⟩ := hs.eval hy
  obtain ⟨A', c', hsh, _⟩ := hrow.shape
  have hone : ∀ u ∈ news, u.oneCell' = true := by
    have aux : ∀ (ys : List (List Abs)) (news : List Value), (∀ c ∈ ys, ones c = true) → repss (mids (pre ++ own e i.size v xs :: post) ++ W.G) w i.size ys news → ∀ u ∈ news, u.oneCell' = true := by
      intro ys
      induction ys with
      | nil => intro news _ h u hu; have : news = [] := h; subst this; cases hu
      | cons c ys ih =>
        rintro news ho ⟨u1, u2, rfl, _, h3, h4⟩ u hu
        rcases List.mem_append.1 hu with hu | hu
        · exact b9_ h3 (ho c (by simp)) u hu
        · exact ih u2 (fun c hc => ho c (by simp [hc])) h4 u hu
    exact aux ys news h1 hr2
  have hrow' := hrow
  rw [hsh] at hrow'
  obtain ⟨v', w', hrun, h2, h3, h4⟩ := ds_ (ty := ty) hT hu hi hby hpos own1 hrow' (aI_ hr2) hone hm
  have hlt := World.ownsRow.lt own1
  have hxx : Ext v.ownBlock.toList w w' := cT_ h3 fun k hk => .inl (by simpa using hk)
  have hup : Upd (own e i.size v xs) (own e i.size v' (xs ++ ys)) (pre ++ own e i.size v xs :: post) (pre ++ own e i.size v' (xs ++ ys) :: post) := by
    clear hs own1 hr1 hrow hr2 hrow'
    induction pre with
    | nil => exact .here
    | cons p pre ih => exact .there ih
  have hm2 := hs.mem.upd hup hxx aQ_ (fun k hk => ?_) rfl fun hc => ⟨_, by rw [List.length_append]; exact h2, a6_ (am_ hc _ _ _ hr1) (am_ hc _ _ _ hr2)⟩
  · refine ⟨v', w', _, _, ⟨v', rfl, rfl⟩, hxx, rfl, hm2.1, hm2.2, .inl ?_⟩
    simp [execOp, resolve, invoke, builtin, hs.plain hx, hsh, hrun, Result.andThen]
  · have hk' : v'.ownBlock = some k := by simpa [It.mids, ownPc] using hk
    rcases h4 with h4 | h4
    · exact .inl (by simp [It.mids, ownPc, ← h4, hk'])
    · rw [h4] at hk'; simp at hk'; exact .inr (by omega)
theorem K_ (hT : TabOk P tab) {i : TI} (pre : Blks) {post : Blks} {zs : List (List Abs)} (hz : xs ++ ys = zs) (hu : P.underlying t = some (.slice e)) (hi : ti tab e = some i) (hpos : Nat.blt 0 i.size = true) (hsz : Nat.beq s i.size = true)
    (hx : look l x = some (.v v)) (hy : look l y = some (.sl s ys)) (hσ : σ = pre ++ own e s v xs :: post) (h1 : ∀ c ∈ ys, ones c = true) (hm : xs.length + ys.length ≤ maxLen) (hby : (xs.length + ys.length) * P.bytesOf e ≤ 140737488355328) :
    Eff P n W σ l v.ownBlock.toList ⟨d, .call { callee := .builtin .append, args := #[x, y], argTypes := #[t, t] }, ty, pos, aft, g⟩ fun r τ => ∃ u, r = .v u ∧ τ = pre ++ own e s u zs :: post := hz ▸ bD_ hT pre hu hi hpos hsz hx hy hσ h1 hm hby
def inOrder : Nat → List (Nat × Abs) → Bool
  | _, [] => true
  | i, (j, _) :: l => Nat.beq i j && inOrder (i + 1) l
def elems (s : Nat) : List (Nat × Abs) → Option (List (List Abs))
  | [] => some []
  | (_, y) :: l => match elems s l with
    | some xs => bif Nat.beq (cellsA y).length s then some (cellsA y :: xs) else none
    | none => none
theorem dU_ {K : List Nat} {w : World} (s : Nat) : ∀ (vs : List (Nat × Abs)) (us : List (Nat × Value)) (i : Nat) (xs : List (List Abs)) (cv : List Value), vs.map (·.1) = us.map (·.1) → inOrder i vs = true → elems s vs = some xs → reps K w (vs.map (·.2)) (us.map (·.2)) → cv.length = (i + vs.length) * s →
    fillL (fun j => some (j * s, s)) cv us = some (cv.take (i * s) ++ us.flatMap fun p => cellsL p.2) ∧ repss K w s xs (us.flatMap fun p => cellsL p.2)
  | [], us, i, xs, cv, h1, _, h2, _, h4 => by
    simp [elems] at h2
    subst h2
    cases us with
    | nil => exact ⟨by rw [List.take_of_length_le (by simp at h4; omega)]; simp [fillL], rfl⟩
    | cons _ _ => simp at h1
  | (j, y) :: vs, us, i, xs, cv, h1, h0, h2, h3, h4 => by
    cases us with
    | nil => simp at h1
    | cons p us =>
      obtain ⟨i', u⟩ := p
      simp only [List.map_cons, List.cons.injEq] at h1
      obtain ⟨rfl, h1⟩ := h1
      obtain ⟨u', us', h5, h6, h7⟩ := h3
      simp only [List.map_cons, List.cons.injEq] at h5
      obtain ⟨rfl, rfl⟩ := h5
      simp only [inOrder, Bool.and_eq_true] at h0
      have hj := Nat.eq_of_beq_eq_true h0.1
      subst hj
      unfold elems at h2
      cases he : elems s vs with
      | none => simp [he] at h2
      | some xs' =>
        simp only [he] at h2
        cases hb : Nat.beq (cellsA y).length s with
        | false => rw [hb] at h2; simp at h2
        | true =>
          rw [hb] at h2
          simp only [cond_true, Option.some.injEq] at h2
          subst h2
          have hb := Nat.eq_of_beq_eq_true hb
          have hc := cX_ h6
          have l1 : (cellsL u).length = (cellsA y).length := ac_ hc
          simp only [List.length_cons] at h4
          have e0 : (i + (vs.length + 1)) * s = i * s + s + vs.length * s := by rw [← Nat.add_assoc, Nat.succ_mul, Nat.add_mul]; omega
          have e1 : (i + 1) * s = i * s + s := Nat.succ_mul i s
          have e2 : (i + 1 + vs.length) * s = i * s + s + vs.length * s := by rw [Nat.add_mul, e1]
          have hle : i * s + s ≤ cv.length := by omega
          have hmin : min (i * s) cv.length = i * s := by omega
          have hmin2 : (List.take (i * s) cv).length = i * s := by rw [List.length_take]; exact hmin
          unfold fillL
          dsimp only
          have hbb : (Nat.beq (cellsL u).length s && Nat.ble (i * s + s) cv.length) = true := by
            rw [Bool.and_eq_true]
            exact ⟨by rw [l1, hb]; simp, Nat.ble_eq.symm ▸ hle⟩
          rw [hbb]
          simp only [cond_true]
          obtain ⟨h8, h9⟩ := dU_ s vs us (i + 1) xs' (putAt cv (i * s) (cellsL u)) h1 h0.2 he h7 (by
            rw [bt_ _ _ _ (by omega), List.length_append, List.length_append, hmin2, List.length_drop]; omega)
          refine ⟨?_, _, _, rfl, l1.trans hb, hc, h9⟩
          have h10 : List.take ((i + 1) * s) (List.take (i * s) cv ++ cellsL u ++ List.drop (i * s + (cellsL u).length) cv) = List.take (i * s) cv ++ cellsL u := by
            rw [List.take_append_of_le_length (by rw [List.length_append, hmin2]; omega), List.take_of_length_le (by rw [List.length_append, hmin2]; omega)]
          rw [h8, bt_ _ _ _ (by omega), h10, List.flatMap_cons, ← List.append_assoc]
theorem fv_ (hT : TabOk P tab) {i : TI} {len : Nat} {ps : List (Nat × Operand)} {vs : List (Nat × Abs)} (hu : P.underlying t = some (.slice e)) (hi : ti tab e = some i) (hps : evalParts l ps = some vs) (hin : inOrder 0 vs = true) (he : elems i.size vs = some xs) (hlen : Nat.beq vs.length len = true) (hsz : Nat.ble (len * i.size) 16777216 = true) (hpos : Nat.blt 0 i.size = true) {a : Act} {w : World} (hs : St n W σ l a w) :
    ∃ b w' L', Ext [] w w' ∧ w'.heap[b]? = some (row e L') ∧ w.heap.size ≤ b ∧ repss (mids σ ++ W.G) w i.size xs L' ∧ xs.length = len ∧ len ≤ maxLen ∧ (execOp a.eval ⟨d, .buildSlice t len ps.toArray, ty, pos, aft, g⟩).run P w = .ok (.value (.slice (some ⟨b, 0, none⟩) len len)) w' := by
  obtain ⟨h1, h2, h3⟩ := evalParts2 hs hps
  have hlen := Nat.eq_of_beq_eq_true hlen
  subst hlen
  have hsz' := Nat.le_of_ble_eq_true hsz
  have hpos : 0 < i.size := by simpa [Nat.blt_eq] using hpos
  have hxl : ∀ (vs : List (Nat × Abs)) (xs : List (List Abs)), elems i.size vs = some xs → xs.length = vs.length := by
    intro vs
    induction vs with
    | nil => intro xs h; simp [elems] at h; subst h; rfl
    | cons p vs ih =>
      obtain ⟨j, y⟩ := p
      intro xs h
      unfold elems at h
      cases he : elems i.size vs with
      | none => simp [he] at h
      | some xs' =>
        simp only [he] at h
        cases hb : Nat.beq (cellsA y).length i.size <;> rw [hb] at h <;> simp at h
        subst h
        simp [ih xs' he]
  generalize hLd : ((ps.map fun p => (p.1, a.eval p.2)).flatMap fun p => cellsL p.2) = L'
  have key : ∀ L0 : List Value, L0.length = vs.length * i.size → fillL (fun j => some (j * i.size, i.size)) L0 (ps.map fun p => (p.1, a.eval p.2)) = some L' := fun L0 hL0 => by
    have h8 := (dU_ (K := mids σ ++ W.G) (w := w) i.size vs (ps.map fun p => (p.1, a.eval p.2)) 0 xs L0 (by rw [List.map_map]; exact h2) hin he (by rw [List.map_map]; exact h3) (by rw [Nat.zero_add]; exact hL0)).1
    rw [Nat.zero_mul, List.take_zero, List.nil_append, hLd] at h8
    exact h8
  have hr : repss (mids σ ++ W.G) w i.size xs L' := by
    have h8 := (dU_ (K := mids σ ++ W.G) (w := w) i.size vs (ps.map fun p => (p.1, a.eval p.2)) 0 xs (List.replicate (vs.length * i.size) undef) (by rw [List.map_map]; exact h2) hin he (by rw [List.map_map]; exact h3) (by simp)).2
    rw [hLd] at h8
    exact h8
  obtain ⟨v', w', C', ⟨b, rfl, rfl⟩, hC', hrun⟩ := lift_eff (C := Proofs.YtjclgkddfjbdiaaGreatDoor.Mem [(w, [])] [] []) hs (Proofs.YtjclgkddfjbdiaaGreatDoor.Eff.buildSlice (P := P) (n := n) (S := [(w, [])]) (σ := []) (ρ := []) (d := d) (ty := ty) (pos := pos) (aft := aft) (g := g) hT hu hi h1 key hsz) (Proofs.YtjclgkddfjbdiaaGreatDoor.Mem.start w)
  have hx0 : Ext [] w w' := hC'.ext (w, []) (by simp)
  have hb : w'.heap[b]? = some (row e L') := hC'.holds (by simp)
  have hbn : w.heap.size ≤ b := by
    have := hC'.out _ (List.mem_cons_self) b (by simp [Proofs.YtjclgkddfjbdiaaGreatDoor.It.ids]) (w, []) (by simp)
    simpa using this
  have hml : vs.length ≤ maxLen := by unfold maxLen; have : vs.length ≤ vs.length * i.size := Nat.le_mul_of_pos_right _ hpos; omega
  rcases hrun with hrun | ⟨h0, _⟩
  · exact ⟨b, w', L', hx0, hb, hbn, hr, hxl vs xs he, hml, hrun⟩
  · cases h0
theorem G_ (hT : TabOk P tab) {i : TI} {len : Nat} {ps : List (Nat × Operand)} {vs : List (Nat × Abs)} (hu : P.underlying t = some (.slice e)) (hi : ti tab e = some i) (hps : evalParts l ps = some vs) (hin : inOrder 0 vs = true) (he : elems i.size vs = some xs) (hlen : Nat.beq vs.length len = true) (hsz : Nat.ble (len * i.size) 16777216 = true) (hpos : Nat.blt 0 i.size = true) :
    Eff P n W σ l [] ⟨d, .buildSlice t len ps.toArray, ty, pos, aft, g⟩ fun r τ => r = .sl i.size xs ∧ τ = σ := fun a w hs => by
  obtain ⟨b, w', L', hx0, hb, hbn, hr, hxl, hml, hrun⟩ := fv_ (d := d) (ty := ty) (pos := pos) (aft := aft) (g := g) hT hu hi hps hin he hlen hsz hpos hs
  obtain ⟨hm, hc⟩ := hs.mem.same hx0
  refine ⟨_, w', _, _, ⟨rfl, rfl⟩, hx0, ⟨L', ⟨⟨_, len, by rw [hxl], by omega, hml, by simp⟩, fun hn => ⟨b, 0, len, len, rfl, fun hk => ?_, fun j u hj => by rw [Nat.zero_add, a3_ hb]; exact hj⟩⟩, am_ hc _ _ _ hr⟩, hm, hc, .inl hrun⟩
  have := hs.mem.lt b hk
  omega
theorem aA_ (hT : TabOk P tab) {i : TI} {len : Nat} {ps : List (Nat × Operand)} {vs : List (Nat × Abs)} (hu : P.underlying t = some (.slice e)) (hi : ti tab e = some i) (hps : evalParts l ps = some vs) (hin : inOrder 0 vs = true) (he : elems i.size vs = some xs) (hlen : Nat.beq vs.length len = true) (hsz : Nat.ble (len * i.size) 16777216 = true) (hpos : Nat.blt 0 i.size = true) :
    Eff P n W σ l [] ⟨d, .buildSlice t len ps.toArray, ty, pos, aft, g⟩ fun r τ => ∃ u, r = .v u ∧ τ = own e i.size u xs :: σ := fun a w hs => by
  obtain ⟨b, w', L', hx0, hb, hbn, hr, hxl, hml, hrun⟩ := fv_ (d := d) (ty := ty) (pos := pos) (aft := aft) (g := g) hT hu hi hps hin he hlen hsz hpos hs
  have hll := aI_ hr
  obtain ⟨hm, hc⟩ := hs.mem.new (y := own e i.size (.slice (some ⟨b, 0, none⟩) len len) xs) hx0 aQ_ (by simpa [It.mids, ownPc, Value.ownBlock] using hbn) rfl fun hc => ⟨L', ⟨by rw [hll], .inr ⟨b, len, L'.toArray, by rw [hxl], Nat.zero_le _, hb, by omega, hml, by simp [hll, hxl], by rw [List.take_of_length_le (by simp [hll])]⟩⟩, am_ hc _ _ _ hr⟩
  exact ⟨_, w', _, _, ⟨_, rfl, rfl⟩, hx0, rfl, hm, hc, .inl hrun⟩
end
section
variable {K : List Nat} {w : World} {s : Nat}
theorem dN_ {xs : List (List Abs)} {us : List Value} (h : repss K w s xs us) (q : Nat) (hq : q ≤ xs.length) : repss K w s (xs.drop q) (us.drop (q * s)) ∧ repss K w s (xs.take q) (us.take (q * s)) := by
  have h1 := h
  rw [← List.take_append_drop q xs] at h1
  obtain ⟨u1, u2, rfl, h2, h3⟩ := c8_ h1
  have hl : u1.length = q * s := by rw [aI_ h2, List.length_take, Nat.min_eq_left hq]
  rw [← hl]
  simp [h2, h3]
theorem IsRow.tailN {A : Option Addr} {m c q : Nat} {us : List Value} (h : IsRow K w (.slice A m c) m us) (hq : q ≤ m) (hl : us.length = m * s) : IsRow K w (.slice (if c = q then A else A.map (·.add (q * s))) (m - q) (c - q)) (m - q) (us.drop (q * s)) := by
  obtain ⟨A', c', hv, h1, h2, h3⟩ := h.shape
  simp at hv
  obtain ⟨rfl, rfl⟩ := hv
  refine ⟨⟨_, c - q, rfl, by omega, by omega, fun hA => ?_⟩, fun hn => ?_⟩
  · split at hA
    · have := h3 hA; omega
    · cases A with
      | none => have := h3 rfl; omega
      | some a => simp at hA
  · have hlt : q < m := by
      rcases Nat.lt_or_ge q m with h4 | h4
      · exact h4
      · have : q = m := by omega
        subst this
        exact absurd (List.drop_eq_nil_of_le (by omega)) hn
    obtain ⟨b, off, n', c2, hv, hb, hc⟩ := h.cells (by rintro rfl; simp at hn)
    simp at hv
    obtain ⟨rfl, rfl, rfl⟩ := hv
    refine ⟨b, off + q * s, m - q, c - q, by rw [if_neg (by omega)]; simp [Addr.add_none], hb, fun j u hu => ?_⟩
    rw [List.getElem?_drop] at hu
    rw [Nat.add_assoc]; exact hc _ u hu
theorem IsRow.headN {A : Option Addr} {m c q : Nat} {us : List Value} (h : IsRow K w (.slice A m c) m us) (hq : q ≤ m) (k : Nat) (hk : q ≤ k) (hkc : k ≤ c) (hkA : A = none → k = 0) : IsRow K w (.slice A q k) q (us.take (q * s)) := by
  obtain ⟨A', c', hv, h1, h2, h3⟩ := h.shape
  simp at hv
  obtain ⟨rfl, rfl⟩ := hv
  refine ⟨⟨_, k, rfl, hk, by omega, hkA⟩, fun hn => ?_⟩
  obtain ⟨b, off, n', c2, hv, hb, hc⟩ := h.cells (by rintro rfl; simp at hn)
  simp at hv
  obtain ⟨rfl, rfl, rfl⟩ := hv
  refine ⟨b, off, q, k, rfl, hb, fun j u hu => ?_⟩
  rw [List.getElem?_take] at hu
  split at hu
  · exact hc j u hu
  · cases hu
end
section
variable {P : Program} {n : Nat} {W : Wd} {σ τ : Blks} {l : Slots} {X : List Nat} {x y z : Operand} {d : Option Nat} {ty t t' e : TypeId} {pos : String} {aft : Array Edge} {g : Option (Nat × Bool)} {v u : Value} {k k' : IntKind} {a b r : Int} {o : Oper} {A B : Abs} {tab : List (Nat × TI)} {xs ys : List (List Abs)} {s q : Nat} {fn : Func}
theorem e5_ (hT : TabOk P tab) {i : TI} (hu : P.underlying t = some (.slice e)) (hi : ti tab e = some i) (hsz : Nat.beq s i.size = true) (hx : look l x = some (.sl s xs)) (hy : look l y = some (.v (.int k r))) (hr : r = (q : Nat)) (hq : q ≤ xs.length) :
    Val P n W σ l X ⟨d, .slice t x (some y) none none, ty, pos, aft, g⟩ (.sl s (xs.drop q)) := fun a w hs _ => by
  subst hr
  have hsz := Nat.eq_of_beq_eq_true hsz
  subst hsz
  obtain ⟨us, h1, h2⟩ := hs.eval hx
  obtain ⟨A', c, hsh, h3, h4, h5⟩ := h1.shape
  rw [hsh] at h1
  have h6 := IsRow.tailN h1 hq (aI_ h2)
  refine ⟨_, ⟨_, by rw [List.length_drop]; exact h6, (dN_ h2 q hq).1⟩, fun w' _ => ?_⟩
  have h7 := (hT _ _ hi).sizeOf (w := w')
  simp [execOp, Instr.sliceAt, Instr.slice, Instr.sliceBounds, Instr.sliceBound, asIntOf, hsh, hs.plain hy, run_underlying hu, Sem.run_bind, Result.andThen, h7, hq]
theorem de_ (hT : TabOk P tab) {i : TI} (hu : P.underlying t = some (.slice e)) (hi : ti tab e = some i) (hsz : Nat.beq s i.size = true) (hx : look l x = some (.sl s xs)) (hy : look l y = some (.v (.int k r))) (hr : r = (q : Nat)) (hq : q ≤ xs.length) :
    Val P n W σ l X ⟨d, .slice t x none (some y) none, ty, pos, aft, g⟩ (.sl s (xs.take q)) := fun a w hs _ => by
  subst hr
  have hsz := Nat.eq_of_beq_eq_true hsz
  subst hsz
  obtain ⟨us, h1, h2⟩ := hs.eval hx
  obtain ⟨A', c, hsh, h3, h4, h5⟩ := h1.shape
  rw [hsh] at h1
  have h6 := IsRow.headN (s := i.size) h1 hq c (by omega) (Nat.le_refl _) h5
  refine ⟨.slice A' q c, ⟨_, by rw [List.length_take, Nat.min_eq_left hq]; exact h6, (dN_ h2 q hq).2⟩, fun w' _ => ?_⟩
  have h7 := (hT _ _ hi).sizeOf (w := w')
  have hA : (if (c : Int) = 0 then A' else A'.map (·.add (0 * i.size))) = A' := by
    cases A' <;> simp [Addr.add]
  have hqc : q ≤ c := by omega
  have hA2 : (if c = 0 then A' else A'.map fun x => x.add 0) = A' := by cases A' <;> simp [Addr.add]
  simp [execOp, Instr.sliceAt, Instr.slice, Instr.sliceBounds, Instr.sliceBound, asIntOf, hsh, hs.plain hy, run_underlying hu, Sem.run_bind, Result.andThen, h7, hqc, Addr.add]
  try (cases A' <;> simp)
/-! ### A call's begin and end -/
def args0 : List Abs → Nat → Slots
  | [], _ => []
  | v :: vs, i => (i, v) :: args0 vs (i + 1)
theorem cN_ : ∀ (vs : List Abs) (i t : Nat) (v : Abs), slot (args0 vs i) t = some v → i ≤ t ∧ vs[t - i]? = some v
  | [], i, t, v, h => by simp [args0, slot] at h
  | u :: vs, i, t, v, h => by
    unfold args0 slot at h
    by_cases hit : i = t
    · subst hit
      simp at h
      subst h
      simp
    · rw [cy_ hit] at h
      obtain ⟨h1, h2⟩ := cN_ vs (i + 1) t v h
      refine ⟨by omega, ?_⟩
      rw [show t - i = (t - (i + 1)) + 1 by omega]
      simpa using h2
section
variable {ι : Type} {τ' : ι → Blks} {res : ι → Abs} {args : List Abs}
def Post (G : List Nat) (σ : Blks) (τ' : ι → Blks) (res : ι → Abs) (w : World) (e : Ending) (w' : World) : Prop :=
  ∃ z r, e = .returned r ∧ (∀ x ∈ τ' z, x.rids = []) ∧ Mem w (mids σ) G (τ' z) w' ∧ rep (mids (τ' z) ++ G) w' (res z) r
theorem t_ {f : FuncId} {c : Code} (hf : P.funcs[f]? = some fn) (hb : fn.body = some c) (hn : fn.ntmps = n) (hle : Nat.ble args.length n = true)
    (h : ∀ G w, SC P c (St n ⟨w, mids σ, G⟩ σ (args0 args 0)) (bodyPost P fn (Post G σ τ' res w))) : Spec P f args σ τ' res := fun G w vals hm hv => by
  have hlen := ac_ hv
  refine au_ vals hf hb hn (by rw [hlen]; exact hle) (fun w1 => w1 = w) rfl fun a w1 hfr hw => ?_
  subst hw
  refine h G w1 a w1 ⟨hfr.defers, hfr.size, fun t x hx => ?_, hm⟩
  have h1 := (cN_ args 0 t x hx).2
  rw [Nat.sub_zero] at h1
  obtain ⟨u, h2, h3⟩ := a2_ hv h1
  refine ⟨u, hfr.at_ t u ?_, h3⟩
  have h4 := ey_ vals 0 t u h2
  rw [Nat.zero_add] at h4
  exact h4
inductive RV (P : Program) (n : Nat) (W : Wd) (σ : Blks) (l : Slots) : List ResultVar → List Abs → Prop
  | nil : RV P n W σ l [] []
  | tmp {t : Nat} {v : Abs} {rs : List ResultVar} {vs : List Abs} (h : slot l t = some v) (k : RV P n W σ l rs vs) : RV P n W σ l (.tmp t :: rs) (v :: vs)
  | cell {p ty b : Nat} {v : Abs} {rs : List ResultVar} {vs : List Abs} (h : slot l p = some (.v (.pointer (some ⟨b, 0, none⟩)))) (hv : ∀ a w, St n W σ l a w → ∃ u, rep (mids σ ++ W.G) w v u ∧ (loadVar ty ⟨b, 0, none⟩).run P w = .ok u w) (k : RV P n W σ l rs vs) : RV P n W σ l (.cell p ty :: rs) (v :: vs)
theorem RV.run {rs : List ResultVar} {vs : List Abs} (h : RV P n W σ l rs vs) {a : Act} {w : World} (hs : St n W σ l a w) : ∃ us, reps (mids σ ++ W.G) w vs us ∧ (rs.mapM (resV a.tmps)).run P w = .ok us w := by
  induction h with
  | nil => exact ⟨[], rfl, rfl⟩
  | @tmp t v rs vs h _ ih =>
    obtain ⟨us, h3, h4⟩ := ih
    obtain ⟨u, h1, h2⟩ := hs.slots t v h
    have h5 : (resV a.tmps (.tmp t)).run P w = .ok u w := by simp [resV, h1]
    exact ⟨u :: us, ⟨u, us, rfl, h2, h3⟩, by simp only [List.mapM_cons, Sem.run_bind, h5, Result.andThen_ok, h4, Sem.run_pure]⟩
  | @cell q ty b v rs vs h hv _ ih =>
    obtain ⟨us, h3, h4⟩ := ih
    obtain ⟨u, h1, h2⟩ := hv a w hs
    obtain ⟨p, h6, h7⟩ := hs.slots q _ h
    have h8 : p = .pointer (some ⟨b, 0, none⟩) := h7
    subst h8
    have h5 : (resV a.tmps (.cell q ty)).run P w = .ok u w := by simp [resV, h6, asAddr]; exact h2
    exact ⟨u :: us, ⟨u, us, rfl, h1, h3⟩, by simp only [List.mapM_cons, Sem.run_bind, h5, Result.andThen_ok, h4, Sem.run_pure]⟩
theorem RV.cell1 (hT : TabOk P tab) {sz b : Nat} {zs : List Value} {cs : List Abs} (ht : ti tab t = some ⟨sz, .one, zs⟩) (hb : isBlk σ b t' cs) (hv : cs[0]? = some A) : ∀ a w, St n W σ l a w → ∃ u, rep (mids σ ++ W.G) w A u ∧ (loadVar t ⟨b, 0, none⟩).run P w = .ok u w := fun a w hs => by
  obtain ⟨us, h1, h2⟩ := hs.mem.blk hb
  obtain ⟨u, h3, h4⟩ := a2_ h2 hv
  have h5 := (hT t _ ht).isAgg (w := w)
  exact ⟨u, h4, by simp [loadVar, Sem.run_bind, h5, Result.andThen, load, Sem.run, a3_ h1 0, h3]⟩
theorem RV.cellA (hT : TabOk P tab) {i : TI} {b : Nat} {cs : List Abs} (ht : ti tab t = some i) (hk : (match i.k with | .one => false | _ => true) = true) (hb : isBlk σ b t' cs) (hl : cs.length = i.size) : ∀ a w, St n W σ l a w → ∃ u, rep (mids σ ++ W.G) w (.agg cs) u ∧ (loadVar t ⟨b, 0, none⟩).run P w = .ok u w := fun a w hs => by
  obtain ⟨us, h1, h2⟩ := hs.mem.blk hb
  exact ⟨_, ⟨us, rfl, h2⟩, c7_ hT ht hk (by rw [ac_ h2]; exact hl) fun j u hu => by rw [Nat.zero_add, a3_ h1]; exact hu⟩
def retA : List Abs → Abs
  | [v] => v
  | vs => .tup vs
theorem kp_ {K : List Nat} {w : World} : ∀ {vs : List Abs} {us : List Value}, reps K w vs us → rep K w (retA vs) (retOf us)
  | [], us, h => by have : us = [] := h; subst this; exact ⟨[], rfl, rfl⟩
  | [v], us, ⟨u, us', h1, h2, h3⟩ => by have : us' = [] := h3; subst this h1; exact h2
  | v :: v2 :: vs, us, h => by
    obtain ⟨u, us', h1, h2, u2, us2, h3, h4, h5⟩ := id h
    subst h1 h3
    exact ⟨_, rfl, h⟩
theorem RV.results {rs : List ResultVar} {vs : List Abs} (hr : fn.results = rs.toArray) (h : RV P n W σ l rs vs) {a : Act} {w : World} (hs : St n W σ l a w) : ∃ us, reps (mids σ ++ W.G) w vs us ∧ (results fn a.tmps).run P w = .ok (retOf us) w := by
  obtain ⟨us, h1, h2⟩ := h.run hs
  refine ⟨us, h1, ?_⟩
  rw [fm_, hr, Array.mapM_eq_mapM_toList, Sem.run_bind, Sem.run_map]
  dsimp only
  rw [h2]
  match us with
  | [] => rfl
  | [v] => rfl
  | v :: u :: vs => simp [retOf, Result.andThen]
theorem lt_ {R : Ending → World → Prop} {rs : List ResultVar} {vs : List Abs} (hr : fn.results = rs.toArray) (h : RV P n W σ l rs vs) (k : ∀ a w us, St n W σ l a w → reps (mids σ ++ W.G) w vs us → R (.returned (retOf us)) w) : SE .ret (St n W σ l) (bodyPost P fn R) := fun a w hs => by
  obtain ⟨us, h1, h2⟩ := h.results hr hs
  exact ⟨hs.defers, _, h2, k a w us hs h1⟩
theorem SE.doneG {R : Ending → World → Prop} {rs : List ResultVar} {vs : List Abs} (hr : fn.results = rs.toArray) (h : RV P n W σ l rs vs) (k : ∀ a w us, St n W σ l a w → reps (mids σ ++ W.G) w vs us → R (.returned (retOf us)) w) : SE .normal (St n W σ l) (bodyPost P fn R) := fun a w hs => by
  obtain ⟨us, h1, h2⟩ := h.results hr hs
  exact ⟨hs.defers, _, h2, k a w us hs h1⟩
theorem hz_ {G : List Nat} {w0 : World} {σ0 : Blks} {vs : List Abs} (z : ι) (hsub : (τ' z).Sublist σ) (hro : ∀ x ∈ τ' z, x.rids = []) (hres : retA vs = res z) {a : Act} {w : World} {us : List Value} (hs : St n ⟨w0, mids σ0, G⟩ σ l a w) (hv : reps (mids σ ++ G) w vs us) : Post G σ0 τ' res w0 (.returned (retOf us)) w := by
  obtain ⟨h1, h2⟩ := hs.mem.sub hsub
  exact ⟨z, _, rfl, hro, h1, hres ▸ kp_ (aj_ h2 _ _ hv)⟩
theorem fD_ {G : List Nat} {w0 : World} {σ0 : Blks} {rs : List ResultVar} {vs : List Abs} (hr : fn.results = rs.toArray) (h : RV P n ⟨w0, mids σ0, G⟩ σ l rs vs) (z : ι) (hsub : (τ' z).Sublist σ) (hro : ∀ x ∈ τ' z, x.rids = []) (hres : retA vs = res z) : SE .ret (St n ⟨w0, mids σ0, G⟩ σ l) (bodyPost P fn (Post G σ0 τ' res w0)) :=
  lt_ hr h fun _ _ _ hs hv => hz_ z hsub hro hres hs hv
theorem cL_ {G : List Nat} {w0 : World} {σ0 : Blks} {rs : List ResultVar} {vs vs2 : List Abs} (hr : fn.results = rs.toArray) (h : RV P n ⟨w0, mids σ0, G⟩ σ l rs vs) (hca : Casts vs vs2) (z : ι) (hsub : (τ' z).Sublist σ) (hro : ∀ x ∈ τ' z, x.rids = []) (hres : retA vs2 = res z) : SE .ret (St n ⟨w0, mids σ0, G⟩ σ l) (bodyPost P fn (Post G σ0 τ' res w0)) :=
  lt_ hr h fun _ _ _ hs hv => hz_ z hsub hro hres hs (hca _ _ _ hv)
theorem cn_ {cs ds : List Abs} (h : Casts cs ds) : ∀ K w u, rep K w (.agg cs) u → rep K w (.agg ds) u := fun K w _ ⟨us, h1, h2⟩ => ⟨us, h1, h K w us h2⟩
theorem Casts.nils {s : Nat} {xs ys : List Abs} (k : Casts xs ys) : Casts (.v (.slice none 0 0) :: xs) (.sl s [] :: ys) := k.cons fun _ _ _ h => b3_ h
theorem b6_ {G : List Nat} {w0 : World} {σ0 : Blks} {rs : List ResultVar} {vs : List Abs} (hr : fn.results = rs.toArray) (h : RV P n ⟨w0, mids σ0, G⟩ σ l rs vs) (z : ι) (hsub : (τ' z).Sublist σ) (hro : ∀ x ∈ τ' z, x.rids = []) (hres : retA vs = res z) : SE .normal (St n ⟨w0, mids σ0, G⟩ σ l) (bodyPost P fn (Post G σ0 τ' res w0)) :=
  SE.doneG hr h fun _ _ _ hs hv => hz_ z hsub hro hres hs hv
end
/-! ### Contracts of the first engine -/
def old2 (w : World) (K : List Nat) : Proofs.YtjclgkddfjbdiaaGreatDoor.It := .pc
  { ids := (List.range w.heap.size).filter fun k => decide (k ∈ K)
    p := fun w' => w.heap.size ≤ w'.heap.size ∧ ∀ k, k < w.heap.size → k ∈ K → w'.heap[k]? = w.heap[k]?
    st := fun F w1 w2 hx hF h => ⟨Nat.le_trans h.1 hx.size, fun k hk hm => (hx.block k (Nat.lt_of_lt_of_le hk h.1) (hF k (by simp [hk, hm]))).trans (h.2 k hk hm)⟩
    lt := fun w' h k hk => by
      have : k < w.heap.size := by have := (List.mem_filter.1 hk).1; simpa using this
      exact Nat.lt_of_lt_of_le this h.1 }
theorem bc_ {w : World} {K : List Nat} {k : Nat} : k ∈ (old2 w K).ids ↔ k < w.heap.size ∧ k ∈ K := by simp [old2, Proofs.YtjclgkddfjbdiaaGreatDoor.It.ids]
theorem enter2 (w : World) (K : List Nat) : Proofs.YtjclgkddfjbdiaaGreatDoor.Mem [(w, K)] [old2 w K] [] w := by
  refine ⟨fun s hs => ?_, fun x hx k hk s hs => ?_, ?_, fun x hx => ?_, by simp⟩
  · rw [List.mem_singleton] at hs; subst hs; exact Ext.refl w
  · rw [List.mem_singleton] at hs hx; subst hs hx; exact .inl (bc_.1 hk).2
  · simp only [List.flatMap_cons, List.flatMap_nil, List.append_nil]
    exact List.Nodup.sublist List.filter_sublist List.nodup_range
  · rw [List.mem_singleton] at hx; subst hx; exact ⟨Nat.le_refl _, fun _ _ _ => rfl⟩
theorem leave2 {w w' : World} {K : List Nat} {ρ : List Dt} {σ2 : Proofs.YtjclgkddfjbdiaaGreatDoor.Blks} (h : Proofs.YtjclgkddfjbdiaaGreatDoor.Mem [(w, K)] σ2 ρ w') (hm : old2 w K ∈ σ2) : Ext [] w w' := by
  have h1 := h.ext (w, K) (by simp)
  have h2 : _ ∧ _ := h.hold _ hm
  exact ⟨h1.os, h1.tape, h1.output, h1.size, fun k hk _ => by
    by_cases hK : k ∈ K
    · exact h2.2 k hk hK
    · exact h1.block k hk hK⟩
theorem row2 {w : World} {K : List Nat} {v : Value} {n : Nat} {cs : List Value} (h : IsRow K w v n cs) : IsRow ([old2 w K].flatMap Proofs.YtjclgkddfjbdiaaGreatDoor.It.ids) w v n cs :=
  h.grow fun k hk => .inl (by
    simp only [List.flatMap_cons, List.flatMap_nil, List.append_nil] at hk
    exact (bc_.1 hk).2)
theorem row3 {w w' : World} {K L : List Nat} {v : Value} {n : Nat} {cs : List Value} (hK : ∀ k ∈ K, k < w.heap.size) (hL : ∀ k, k < w.heap.size → k ∈ K → k ∈ L) (h : IsRow L w' v n cs) : IsRow K w' v n cs :=
  h.grow fun k hk => .inl (hL k (hK k hk) hk)
theorem Pure.of2 {f : FuncId} {args : List Abs} {res : Abs} (h : ∀ (K : List Nat) (w : World) (vals : List Value), (∀ k ∈ K, k < w.heap.size) → reps K w args vals → Calls P f vals.toArray w fun e w' => ∃ r, e = .returned r ∧ Ext [] w w' ∧ rep K w' res r) : Pure P f args res := fun G w vals hm hv =>
  (h G w vals hm.old hv).mono fun e w' ⟨r, he, hx, hr⟩ => ⟨(), r, he, by simp, ⟨hx, by simp [mids], by simp [mids], fun k hk => Nat.lt_of_lt_of_le (hm.old k hk) hx.size, by simp, by simp [mids], by simp⟩, hr⟩
end
end Go.Proofs.YtjclgkddfjbdiaaGreatDoor.A
