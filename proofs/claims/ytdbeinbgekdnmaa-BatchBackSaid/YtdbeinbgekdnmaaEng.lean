/-
  An engine for walks, over any program: slots by a list, memory by a list of blocks, one law for each operation.
-/
import Derived.Test.YtdbeinbgekdnmaaEngDraw
set_option maxRecDepth 100000
namespace Go.Proofs.Ytdbeinbgekdnmaa
open Go.RowKit

/-! ### Slots -/
abbrev Slots := List (Nat × Value)
def slot : Slots → Nat → Option Value
  | [], _ => none
  | (i, v) :: l, t => bif Nat.beq i t then some v else slot l t
def look (l : Slots) : Operand → Option Value
  | .tmp t => slot l t
  | .const v => some v
  | .global g => some (.pointer (some ⟨g, 0, none⟩))
  | .func f => some (.func (.func f) #[] #[])
def looks (l : Slots) : List Operand → Option (List Value)
  | [] => some []
  | x :: xs => match look l x, looks l xs with
    | some v, some vs => some (v :: vs)
    | _, _ => none
/-- The frame has n slots, and these are known. -/
structure Fr (n : Nat) (a : Act) (l : Slots) : Prop where
  defers : a.defers = []
  size : a.tmps.size = n
  at_ : ∀ t v, slot l t = some v → a.tmps[t]? = some v
section
variable {n : Nat} {a : Act} {l : Slots}
theorem Fr.eval (h : Fr n a l) {x : Operand} {v : Value} (hx : look l x = some v) : a.eval x = v := by
  cases x with
  | tmp t => simp [Act.eval, h.at_ t v hx]
  | const u => simp only [look, Option.some.injEq] at hx; exact hx
  | global g => simp only [look, Option.some.injEq] at hx; exact hx
  | func f => simp only [look, Option.some.injEq] at hx; exact hx
theorem Fr.evals (h : Fr n a l) : ∀ {xs : List Operand} {vs : List Value}, looks l xs = some vs → xs.map a.eval = vs
  | [], vs, hx => by simp [looks] at hx; simp [hx]
  | x :: xs, vs, hx => by
    unfold looks at hx
    cases h1 : look l x with
    | none => simp [h1] at hx
    | some v =>
      cases h2 : looks l xs with
      | none => simp [h1, h2] at hx
      | some us =>
        simp [h1, h2] at hx
        subst hx
        simp [h.eval h1, h.evals h2]
theorem beq_ne {d t : Nat} (h : ¬d = t) : Nat.beq d t = false := by
  cases hb : Nat.beq d t with
  | false => rfl
  | true => exact absurd (Nat.eq_of_beq_eq_true hb) h
theorem Fr.put (h : Fr n a l) {d : Nat} (hd : d < n) (v : Value) : Fr n (a.put (some d) v) ((d, v) :: l) := by
  refine ⟨h.defers, by simp [Act.put, h.size], fun t u hu => ?_⟩
  unfold slot at hu
  by_cases hdt : d = t
  · subst hdt
    simp at hu
    subst hu
    simp [Act.put, h.size, hd]
  · have : Nat.beq d t = false := beq_ne hdt
    rw [this] at hu
    simp only [Act.put]
    rw [Array.getElem?_setIfInBounds_ne hdt]
    exact h.at_ t u hu
/-- Slots with an optional goal. -/
def put? (l : Slots) (d : Option Nat) (v : Value) : Slots := match d with
  | some d => (d, v) :: l
  | none => l
def lt? (d : Option Nat) (n : Nat) : Bool := match d with
  | some d => Nat.blt d n
  | none => true
theorem Fr.put? (h : Fr n a l) {d : Option Nat} (hd : lt? d n = true) (v : Value) : Fr n (a.put d v) (put? l d v) := by
  cases d with
  | none => exact h
  | some d => exact h.put (by simpa [lt?, Nat.blt_eq] using hd) v
def Subs (l : Slots) : Slots → Prop
  | [] => True
  | (t, v) :: r => slot l t = some v ∧ Subs l r
theorem Subs.slot {l : Slots} : ∀ {r : Slots}, Subs l r → ∀ t v, slot r t = some v → Proofs.Ytdbeinbgekdnmaa.slot l t = some v
  | [], _, t, v, h => by simp [Proofs.Ytdbeinbgekdnmaa.slot] at h
  | (i, u) :: r, hs, t, v, h => by
    unfold Proofs.Ytdbeinbgekdnmaa.slot at h
    by_cases hit : i = t
    · subst hit
      simp at h
      subst h
      exact hs.1
    · have : Nat.beq i t = false := beq_ne hit
      rw [this] at h
      exact hs.2.slot t v h
theorem Fr.sub (h : Fr n a l) {r : Slots} (hs : Subs l r) : Fr n a r := ⟨h.defers, h.size, fun t v hv => h.at_ t v (hs.slot t v hv)⟩
theorem Fr.split (h : Fr n a l) {t : Nat} {u v : Value} (ht : slot l t = some u) (hv : u = v) : Fr n a ((t, v) :: l) := by
  subst hv
  refine ⟨h.defers, h.size, fun i x hx => ?_⟩
  unfold slot at hx
  by_cases hti : t = i
  · subst hti
    simp at hx
    subst hx
    exact h.at_ _ _ ht
  · rw [beq_ne hti] at hx
    exact h.at_ i x hx
/-- Is the operation wanted? -/
def gd (ops : Array Oper) (l : Slots) (o : Oper) : Option Bool := match o.guard with
  | none => some true
  | some (j, want) => match (ops[j]?).bind (·.dst) with
    | some d => match slot l d with
      | some (.bool b) => some (b == want)
      | some (.tuple _) => some false
      | _ => none
    | none => none
theorem Fr.wanted (h : Fr n a l) {ops : Array Oper} {o : Oper} {r : Bool} (hg : gd ops l o = some r) : Region.wanted o (yielded ops a.tmps) = r := by
  unfold gd at hg
  unfold Region.wanted
  cases hgd : o.guard with
  | none => simp [hgd] at hg; show true = r; exact hg.symm
  | some p =>
    obtain ⟨j, want⟩ := p
    simp only [hgd] at hg
    dsimp only
    unfold yielded
    cases hd : (ops[j]?).bind (·.dst) with
    | none => simp [hd] at hg
    | some d =>
      simp only [hd] at hg
      cases hs : slot l d with
      | none => simp [hs] at hg
      | some v =>
        simp only [hs] at hg
        simp only [Option.bind_some, h.at_ d _ hs]
        cases v <;> simp at hg
        · rename_i b
          rw [← hg]
          cases b <;> cases want <;> rfl
        · rw [hg]
          cases want <;> rfl
end

/-! ### Memory -/
/-- A piece of memory that is spoken of as a whole. -/
structure Pc where
  ids : List Nat
  p : World → Prop
  st : ∀ (F : List Nat) (w w' : World), Ext F w w' → (∀ k ∈ ids, k ∉ F) → p w → p w'
  lt : ∀ w, p w → ∀ k ∈ ids, k < w.heap.size
inductive It where
  | blk (b : Nat) (o : Obj)
  | pc (c : Pc)
abbrev Blks := List It
def It.ids : It → List Nat
  | .blk b _ => [b]
  | .pc c => c.ids
def It.holds (w : World) : It → Prop
  | .blk b o => w.heap[b]? = some o
  | .pc c => c.p w
theorem It.lt {w : World} {x : It} (h : x.holds w) : ∀ k ∈ x.ids, k < w.heap.size := by
  cases x with
  | blk b o =>
    intro k hk
    simp only [It.ids, List.mem_singleton] at hk
    subst hk
    simp only [It.holds] at h
    rcases Nat.lt_or_ge k w.heap.size with h1 | h1
    · exact h1
    · rw [Array.getElem?_eq_none h1] at h; cases h
  | pc c => exact c.lt w h
theorem It.st {w w' : World} {F : List Nat} {x : It} (h : x.holds w) (hx : Ext F w w') (hF : ∀ k ∈ x.ids, k ∉ F) : x.holds w' := by
  cases x with
  | blk b o => exact (hx.block b (It.lt h b (by simp [It.ids])) (hF b (by simp [It.ids]))).trans h
  | pc c => exact c.st F w w' hx hF h
/-- Data that is read, and never written: it is said of worlds, and of blocks that it does not lie in. -/
structure Dt where
  d : List Nat → World → Prop
  grow : ∀ (K K' : List Nat) (w : World), (∀ k ∈ K', k ∈ K ∨ w.heap.size ≤ k) → d K w → d K' w
  st : ∀ (F K : List Nat) (w w' : World), Ext F w w' → (∀ k ∈ F, k ∈ K ∨ w.heap.size ≤ k) → d K w → d K w'
/-- A row of cells as a block. -/
def row (t : TypeId) (cs : List Value) : Obj := .cells cs.toArray t (0, 0)
/-- The worlds that come of the snapshots in S by changes of their blocks alone, and hold these pieces, apart from each other, and data apart from them. -/
structure Mem (S : List (World × List Nat)) (σ : Blks) (ρ : List Dt) (w : World) : Prop where
  ext : ∀ s ∈ S, Ext s.2 s.1 w
  out : ∀ x ∈ σ, ∀ k ∈ x.ids, ∀ s ∈ S, k ∈ s.2 ∨ s.1.heap.size ≤ k
  nodup : (σ.flatMap It.ids).Nodup
  hold : ∀ x ∈ σ, x.holds w
  dat : ∀ x ∈ ρ, x.d (σ.flatMap It.ids) w
/-- One piece is another one then. -/
inductive Upd (x y : It) : Blks → Blks → Prop
  | here {σ : Blks} : Upd x y (x :: σ) (y :: σ)
  | there {z : It} {σ τ : Blks} (h : Upd x y σ τ) : Upd x y (z :: σ) (z :: τ)
section
variable {S : List (World × List Nat)} {σ τ : Blks} {ρ : List Dt} {w w' : World} {x y : It}
theorem Mem.holds (h : Mem S σ ρ w) {b : Nat} {o : Obj} (hb : It.blk b o ∈ σ) : w.heap[b]? = some o := h.hold _ hb
theorem Mem.lt (h : Mem S σ ρ w) {z : It} (hz : z ∈ σ) : ∀ k ∈ z.ids, k < w.heap.size := It.lt (h.hold z hz)
theorem Upd.mem (h : Upd x y σ τ) : x ∈ σ := by
  induction h with
  | here => exact List.mem_cons_self
  | there _ ih => exact List.mem_cons_of_mem _ ih
theorem Upd.mem' (h : Upd x y σ τ) : y ∈ τ := by
  induction h with
  | here => exact List.mem_cons_self
  | there _ ih => exact List.mem_cons_of_mem _ ih
/-- Each piece of the new memory is the new one, or an old one that is apart from what was replaced. -/
theorem Upd.other (h : Upd x y σ τ) (hn : (σ.flatMap It.ids).Nodup) : ∀ z ∈ τ, z = y ∨ (z ∈ σ ∧ ∀ k ∈ z.ids, k ∉ x.ids) := by
  induction h with
  | here =>
    rename_i σ
    simp only [List.flatMap_cons, List.nodup_append] at hn
    intro z hz
    rcases List.mem_cons.1 hz with rfl | hz
    · exact .inl rfl
    · exact .inr ⟨List.mem_cons_of_mem _ hz, fun k hk hx => hn.2.2 k hx k (List.mem_flatMap.2 ⟨z, hz, hk⟩) rfl⟩
  | there hu ih =>
    rename_i u σ τ
    simp only [List.flatMap_cons, List.nodup_append] at hn
    intro z hz
    rcases List.mem_cons.1 hz with rfl | hz
    · exact .inr ⟨List.mem_cons_self, fun k hk hx => hn.2.2 k hk k (List.mem_flatMap.2 ⟨x, hu.mem, hx⟩) rfl⟩
    · rcases ih hn.2.1 z hz with h1 | ⟨h1, h2⟩
      · exact .inl h1
      · exact .inr ⟨List.mem_cons_of_mem _ h1, h2⟩
theorem Upd.nodup (h : Upd x y σ τ) (hn : (σ.flatMap It.ids).Nodup) (hy : y.ids.Nodup) (hid : ∀ z ∈ σ, ∀ k ∈ z.ids, k ∈ y.ids → k ∈ x.ids) : (τ.flatMap It.ids).Nodup := by
  induction h with
  | here =>
    rename_i σ
    simp only [List.flatMap_cons, List.nodup_append] at hn ⊢
    refine ⟨hy, hn.2.1, fun a ha b hb he => ?_⟩
    subst he
    obtain ⟨z, hz, hk⟩ := List.mem_flatMap.1 hb
    exact hn.2.2 a (hid z (List.mem_cons_of_mem _ hz) a hk ha) a hb rfl
  | there hu ih =>
    rename_i u σ τ
    simp only [List.flatMap_cons, List.nodup_append] at hn ⊢
    refine ⟨hn.1, ih hn.2.1 (fun z hz => hid z (List.mem_cons_of_mem _ hz)), fun a ha b hb he => ?_⟩
    subst he
    obtain ⟨z, hz, hk⟩ := List.mem_flatMap.1 hb
    rcases hu.other hn.2.1 z hz with rfl | ⟨h1, _⟩
    · have := hid u List.mem_cons_self a ha hk
      exact hn.2.2 a ha a (List.mem_flatMap.2 ⟨x, hu.mem, this⟩) rfl
    · exact hn.2.2 a ha a (List.mem_flatMap.2 ⟨z, h1, hk⟩) rfl
/-- After a step that changes one piece alone. -/
theorem Mem.upd (h : Mem S σ ρ w) (u : Upd x y σ τ) (hx : Ext x.ids w w') (hy : y.holds w') (hn : y.ids.Nodup) (hid : ∀ k ∈ y.ids, k ∈ x.ids ∨ w.heap.size ≤ k) : Mem S τ ρ w' := by
  refine ⟨fun s hs => (h.ext s hs).trans hx fun k hk => h.out x u.mem k hk s hs, fun z hz k hk s hs => ?_, u.nodup h.nodup hn fun z hz k hk hky => ?_, fun z hz => ?_, fun z hz => ?_⟩
  · rcases u.other h.nodup z hz with rfl | ⟨h1, _⟩
    · rcases hid k hk with h2 | h2
      · exact h.out x u.mem k h2 s hs
      · exact .inr (Nat.le_trans (h.ext s hs).size h2)
    · exact h.out z h1 k hk s hs
  · rcases hid k hky with h2 | h2
    · exact h2
    · exact absurd (h.lt hz k hk) (by omega)
  · rcases u.other h.nodup z hz with rfl | ⟨h1, h2⟩
    · exact hy
    · exact It.st (h.hold z h1) hx h2
  · have h1 := z.grow _ (τ.flatMap It.ids ++ x.ids) w (fun k hk => ?_) (h.dat z hz)
    · exact z.grow _ _ w' (fun k hk => .inl (List.mem_append_left _ hk)) (z.st _ _ _ _ hx (fun k hk => .inl (List.mem_append_right _ hk)) h1)
    · rcases List.mem_append.1 hk with hk | hk
      · obtain ⟨v, hv, hkv⟩ := List.mem_flatMap.1 hk
        rcases u.other h.nodup v hv with rfl | ⟨h2, _⟩
        · rcases hid k hkv with h2 | h2
          · exact .inl (List.mem_flatMap.2 ⟨x, u.mem, h2⟩)
          · exact .inr h2
        · exact .inl (List.mem_flatMap.2 ⟨v, h2, hkv⟩)
      · exact .inl (List.mem_flatMap.2 ⟨x, u.mem, hk⟩)
theorem Mem.updB (h : Mem S σ ρ w) {b : Nat} {o o' : Obj} (u : Upd (.blk b o) (.blk b o') σ τ) (hx : Ext [b] w w') (hb : w'.heap[b]? = some o') : Mem S τ ρ w' :=
  h.upd u hx hb (by simp [It.ids]) (fun _ hk => .inl hk)
theorem Mem.same (h : Mem S σ ρ w) (hx : Ext [] w w') : Mem S σ ρ w' :=
  ⟨fun s hs => (h.ext s hs).trans hx (by simp), h.out, h.nodup, fun z hz => It.st (h.hold z hz) hx (by simp), fun z hz => z.st _ _ _ _ hx (by simp) (h.dat z hz)⟩
theorem Mem.drew (h : Mem S σ ρ w) : Mem S σ ρ w.drew := h.same (Still.ext (Still.drewN w 1))
/-- A new piece. -/
theorem Mem.new (h : Mem S σ ρ w) (hx : Ext [] w w') (hy : y.holds w') (hn : y.ids.Nodup) (hid : ∀ k ∈ y.ids, w.heap.size ≤ k) : Mem S (y :: σ) ρ w' := by
  have h' := h.same hx
  refine ⟨h'.ext, fun z hz k hk s hs => ?_, ?_, fun z hz => ?_, fun z hz => z.st _ _ _ _ hx (by simp) (z.grow _ _ w (fun k hk => ?_) (h.dat z hz))⟩
  · rcases List.mem_cons.1 hz with rfl | hz
    · exact .inr (Nat.le_trans (h.ext s hs).size (hid k hk))
    · exact h.out z hz k hk s hs
  · simp only [List.flatMap_cons, List.nodup_append]
    refine ⟨hn, h.nodup, fun a ha b hb he => ?_⟩
    subst he
    obtain ⟨z, hz, hk⟩ := List.mem_flatMap.1 hb
    have := h.lt hz a hk
    have := hid a ha
    omega
  · rcases List.mem_cons.1 hz with rfl | hz
    · exact hy
    · exact h'.hold z hz
  · rw [List.flatMap_cons] at hk
    rcases List.mem_append.1 hk with hk | hk
    · exact .inr (hid k hk)
    · exact .inl hk
theorem Mem.alloc (h : Mem S σ ρ w) (o : Obj) : Mem S (.blk w.heap.size o :: σ) ρ (w.alloc o) :=
  h.new ((Ext.refl w).alloc o) (heap_alloc_new w o) (by simp [It.ids]) (by simp [It.ids])
theorem sub_flat {τ σ : Blks} (h : τ.Sublist σ) : (τ.flatMap It.ids).Sublist (σ.flatMap It.ids) := by
  induction h with
  | slnil => simp
  | cons a _ ih => simp only [List.flatMap_cons]; exact ih.trans (List.sublist_append_right _ _)
  | cons_cons a _ ih => simp only [List.flatMap_cons]; exact (List.Sublist.refl _).append ih
theorem Mem.sub {T : List (World × List Nat)} (h : Mem S σ ρ w) (hT : ∀ s ∈ T, s ∈ S) (hs : τ.Sublist σ) : Mem T τ ρ w :=
  ⟨fun s hs' => h.ext s (hT s hs'), fun x hx k hk s hs' => h.out x (hs.subset hx) k hk s (hT s hs'), h.nodup.sublist (sub_flat hs), fun x hx => h.hold x (hs.subset hx), fun x hx => x.grow _ _ w (fun _ hk => .inl ((sub_flat hs).subset hk)) (h.dat x hx)⟩
/-- A snapshot of the world as it is. -/
theorem Mem.snap (h : Mem S σ ρ w) : Mem ((w, σ.flatMap It.ids) :: S) σ ρ w := by
  refine ⟨fun s hs => ?_, fun x hx k hk s hs => ?_, h.nodup, h.hold, h.dat⟩
  · rcases List.mem_cons.1 hs with rfl | hs
    · exact Ext.refl w
    · exact h.ext s hs
  · rcases List.mem_cons.1 hs with rfl | hs
    · exact .inl (List.mem_flatMap.2 ⟨x, hx, hk⟩)
    · exact h.out x hx k hk s hs
/-- At a call's begin: pieces that came in. -/
theorem Mem.begin (w : World) (σ : Blks) (hn : (σ.flatMap It.ids).Nodup) (h : ∀ x ∈ σ, x.holds w) : Mem [(w, σ.flatMap It.ids)] σ [] w :=
  ⟨fun s hs => by rw [List.mem_singleton] at hs; subst hs; exact Ext.refl w, fun x hx k hk s hs => by rw [List.mem_singleton] at hs; subst hs; exact .inl (List.mem_flatMap.2 ⟨x, hx, hk⟩), hn, h, by simp⟩
theorem Mem.data (h : Mem S σ ρ w) {z : Dt} (hz : z ∈ ρ) : z.d (σ.flatMap It.ids) w := h.dat z hz
/-- More data. -/
theorem Mem.add (h : Mem S σ ρ w) {z : Dt} (hz : z.d (σ.flatMap It.ids) w) : Mem S σ (z :: ρ) w :=
  ⟨h.ext, h.out, h.nodup, h.hold, fun x hx => by
    rcases List.mem_cons.1 hx with rfl | hx
    · exact hz
    · exact h.dat x hx⟩
/-- Less data. -/
theorem Mem.less {ρ' : List Dt} (h : Mem S σ ρ w) (hs : ∀ x ∈ ρ', x ∈ ρ) : Mem S σ ρ' w := ⟨h.ext, h.out, h.nodup, h.hold, fun x hx => h.dat x (hs x hx)⟩
theorem Mem.start (w : World) : Mem [(w, [])] [] [] w := Mem.begin w [] (by simp) (by simp)
end

/-! ### Judgements -/
section
variable {P : Program} {n : Nat} {ops : Array Oper} {l : Slots} {C D : World → Prop} {Q : Exit → Act → World → Prop} {o : Oper} {rest : List Oper} {ix : Plan}
/-- A list of operations, from all frames and worlds that are so. -/
def SL (P : Program) (n : Nat) (ops : Array Oper) (rest : List Oper) (l : Slots) (C : World → Prop) (Q : Exit → Act → World → Prop) : Prop := ∀ a w, Fr n a l → C w → wpList P ops Q rest a w
/-- A code. -/
def SC (P : Program) (n : Nat) (c : Code) (l : Slots) (C : World → Prop) (Q : Exit → Act → World → Prop) : Prop := ∀ a w, Fr n a l → C w → c.wp P Q a w
/-- An exit. -/
def SE (n : Nat) (e : Exit) (l : Slots) (C : World → Prop) (Q : Exit → Act → World → Prop) : Prop := ∀ a w, Fr n a l → C w → Q e a w
/-- The rest of a plan. -/
def SX (P : Program) (n : Nat) (ops : Array Oper) (ix : Plan) (D : World → Prop) (l : Slots) (C : World → Prop) (Q : Exit → Act → World → Prop) : Prop := ∀ a w, Fr n a l → C w → planW P ops (Q .normal) ix D a w
/-- An operation that yields a value and leaves the world. -/
def Val (P : Program) (n : Nat) (l : Slots) (D : World → Prop) (o : Oper) (v : Value) : Prop := ∀ a w, Fr n a l → D w → (execOp a.eval o).run P w = .ok (.value v) w
/-- An operation that yields a value, or nothing, and changes the world. -/
def Eff (P : Program) (n : Nat) (l : Slots) (C : World → Prop) (o : Oper) (R : Value → (World → Prop) → Prop) : Prop := ∀ a w, Fr n a l → C w → ∃ v w' C', R v C' ∧ C' w' ∧
  ((execOp a.eval o).run P w = .ok (.value v) w' ∨ (v = undef ∧ (execOp a.eval o).run P w = .ok .skip w'))

theorem SL.nil (h : SE n .normal l C Q) : SL P n ops [] l C Q := h
theorem SL.val {v : Value} (hv : Val P n l C o v) (hg : gd ops l o = some true) (hd : lt? o.dst n = true) (k : SL P n ops rest (put? l o.dst v) C Q) : SL P n ops (o :: rest) l C Q := fun a w hf hw =>
  wpList_step fun K hK => by
    rw [if_pos (hf.wanted hg)]
    unfold Oper.wp
    rw [hv a w hf hw]
    exact hK _ _ (k _ _ (hf.put? hd v) hw)
theorem SL.eff {R : Value → (World → Prop) → Prop} (hv : Eff P n l C o R) (hg : gd ops l o = some true) (hd : lt? o.dst n = true) (k : ∀ v C', R v C' → SL P n ops rest (put? l o.dst v) C' Q) : SL P n ops (o :: rest) l C Q := fun a w hf hw =>
  wpList_step fun K hK => by
    rw [if_pos (hf.wanted hg)]
    unfold Oper.wp
    obtain ⟨v, w', C', hR, hC', hr | ⟨rfl, hr⟩⟩ := hv a w hf hw
    · rw [hr]; exact hK _ _ (k _ _ hR _ _ (hf.put? hd v) hC')
    · rw [hr]; exact hK _ _ (k _ _ hR _ _ (hf.put? hd undef) hC')
theorem SL.skip (hg : gd ops l o = some false) (hd : lt? o.dst n = true) (k : SL P n ops rest (put? l o.dst undef) C Q) : SL P n ops (o :: rest) l C Q := fun a w hf hw =>
  wpList_step fun K hK => by
    rw [if_neg (by rw [hf.wanted hg]; simp)]
    exact hK _ _ (k _ _ (hf.put? hd undef) hw)
/-- A bool that is not known: both ways. -/
theorem SL.both {t : Nat} {b : Bool} (hs : slot l t = some (.bool b)) (ht : b = true → SL P n ops rest ((t, .bool true) :: l) C Q) (hf : b = false → SL P n ops rest ((t, .bool false) :: l) C Q) : SL P n ops rest l C Q := fun a w hfr hw => by
  cases b with
  | true => exact ht rfl a w (hfr.split hs rfl) hw
  | false => exact hf rfl a w (hfr.split hs rfl) hw
theorem SL.bothP {t : Nat} {p : Prop} [hp : Decidable p] (hs : slot l t = some (.bool (decide p))) (ht : p → SL P n ops rest ((t, .bool true) :: l) C Q) (hf : ¬p → SL P n ops rest ((t, .bool false) :: l) C Q) : SL P n ops rest l C Q :=
  SL.both hs (fun h => ht (of_decide_eq_true h)) (fun h => hf (of_decide_eq_false h))
/-- A function of Go's, with a body. -/
def goesIn (P : Program) (f : FuncId) : Bool := match P.funcs[f]? with
  | some fn => fn.body.isSome && !(fn.name == "runtime.NumGoroutine")
  | none => false
theorem run_call {f : FuncId} {xs : List Operand} {ats : Array TypeId} {vals : List Value} {d : Option Nat} {ty : TypeId} {pos : String} {aft : Array Edge} {g : Option (Nat × Bool)} {ρ : Operand → Value} {w : World}
    (hb : goesIn P f = true) (hv : xs.map ρ = vals) (hf : ρ (.func f) = .func (.func f) #[] #[] := by rfl) : (execOp ρ ⟨d, .call { callee := .value (.func f), args := xs.toArray, argTypes := ats }, ty, pos, aft, g⟩).run P w = .ok (.enter f vals.toArray) w := by
  unfold goesIn at hb
  cases hfn : P.funcs[f]? with
  | none => simp [hfn] at hb
  | some fn =>
    simp only [hfn, Bool.and_eq_true, Bool.not_eq_true', beq_eq_false_iff_ne, Option.isSome_iff_ne_none] at hb
    obtain ⟨c, hn⟩ := Option.ne_none_iff_exists'.1 hb.1
    simp [execOp, resolve, hf, Deferred.ofValue, invoke, callFunc, program, Sem.run_bind, Sem.run, hfn, hb.2, hn, hv, Result.andThen]
/-- A call of a Go function. -/
theorem SL.call {f : FuncId} {xs : List Operand} {ats : Array TypeId} {vals : List Value} {d : Option Nat} {ty : TypeId} {pos : String} {aft : Array Edge} {g : Option (Nat × Bool)}
    (hb : goesIn P f = true) (hv : looks l xs = some vals)
    (hg : gd ops l ⟨d, .call { callee := .value (.func f), args := xs.toArray, argTypes := ats }, ty, pos, aft, g⟩ = some true) (hd : lt? d n = true)
    (hc : ∀ w, C w → Calls P f vals.toArray w fun e w' => ∃ v C', e = .returned v ∧ C' w' ∧ SL P n ops rest (put? l d v) C' Q) :
    SL P n ops (⟨d, .call { callee := .value (.func f), args := xs.toArray, argTypes := ats }, ty, pos, aft, g⟩ :: rest) l C Q := fun a w hf hw =>
  wpList_step fun K hK => by
    rw [if_pos (hf.wanted hg)]
    unfold Oper.wp
    rw [run_call hb (hf.evals hv), Oper.upon_enter]
    refine (hc w hw).mono fun e w' ⟨v, C', he, hC', hk⟩ => ?_
    subst he
    exact hK _ _ (hk _ _ (hf.put? hd v) hC')
/-! ### Plans -/
theorem SX.nil (h : SE n .normal l C Q) : SX P n ops .nil D l C Q := h
theorem SX.val {i : Nat} {v : Value} (hi : ops[i]? = some o) (hv : Val P n l D o v) (hg : gd ops l o = some true) (hd : lt? o.dst n = true) (k : SX P n ops ix D (put? l o.dst v) C Q) : SX P n ops (.q i ix) D l C Q := fun a _ hf hw =>
  ⟨o, v, hi, .inl ⟨hf.wanted hg, fun w' hw' => hv a w' hf hw'⟩, k _ _ (hf.put? hd v) hw⟩
theorem SX.skip {i : Nat} (hi : ops[i]? = some o) (hg : gd ops l o = some false) (hd : lt? o.dst n = true) (k : SX P n ops ix D (put? l o.dst undef) C Q) : SX P n ops (.q i ix) D l C Q := fun _ _ hf hw =>
  ⟨o, undef, hi, .inr ⟨hf.wanted hg, rfl⟩, k _ _ (hf.put? hd undef) hw⟩
theorem SX.skip' {i : Nat} (hCD : ∀ w, C w → D w) (hi : ops[i]? = some o) (hg : gd ops l o = some false) (hd : lt? o.dst n = true) (k : SX P n ops ix D (put? l o.dst undef) C Q) : SX P n ops (.e i ix) D l C Q := fun a w hf hw => by
  unfold planW wpOp
  simp only [hi, hf.wanted hg]
  exact ⟨D, fun _ h => h, hCD w hw, k _ _ (hf.put? hd undef) hw⟩
theorem SX.eff {i : Nat} {R : Value → (World → Prop) → Prop} (hi : ops[i]? = some o) (hv : Eff P n l C o R) (hg : gd ops l o = some true) (hd : lt? o.dst n = true)
    (k : ∀ v C', R v C' → ∃ D' : World → Prop, (∀ w, D' w → D w) ∧ (∀ w, C' w → D' w) ∧ SX P n ops ix D' (put? l o.dst v) C' Q) : SX P n ops (.e i ix) D l C Q := fun a w hf hw => by
  unfold planW wpOp
  simp only [hi, hf.wanted hg, if_true]
  refine .inl ?_
  unfold Oper.wp
  obtain ⟨v, w', C', hR, hC', hr | ⟨rfl, hr⟩⟩ := hv a w hf hw
  · rw [hr]
    obtain ⟨D', h1, h2, h3⟩ := k _ _ hR
    exact ⟨D', h1, h2 _ hC', h3 _ _ (hf.put? hd v) hC'⟩
  · rw [hr]
    obtain ⟨D', h1, h2, h3⟩ := k _ _ hR
    exact ⟨D', h1, h2 _ hC', h3 _ _ (hf.put? hd undef) hC'⟩
theorem SX.call {i : Nat} {f : FuncId} {xs : List Operand} {ats : Array TypeId} {vals : List Value} {d : Option Nat} {ty : TypeId} {pos : String} {aft : Array Edge} {g : Option (Nat × Bool)}
    (hi : ops[i]? = some ⟨d, .call { callee := .value (.func f), args := xs.toArray, argTypes := ats }, ty, pos, aft, g⟩)
    (hb : goesIn P f = true) (hv : looks l xs = some vals)
    (hg : gd ops l ⟨d, .call { callee := .value (.func f), args := xs.toArray, argTypes := ats }, ty, pos, aft, g⟩ = some true) (hd : lt? d n = true)
    (hc : ∀ w, C w → Calls P f vals.toArray w fun e w' => ∃ v C', e = .returned v ∧ C' w' ∧ ∃ D' : World → Prop, (∀ w, D' w → D w) ∧ (∀ w, C' w → D' w) ∧ SX P n ops ix D' (put? l d v) C' Q) :
    SX P n ops (.e i ix) D l C Q := fun a w hf hw => by
  unfold planW wpOp
  simp only [hi, hf.wanted hg, if_true]
  refine .inl ?_
  unfold Oper.wp
  rw [run_call hb (hf.evals hv), Oper.upon_enter]
  refine (hc w hw).mono fun e w' ⟨v, C', he, hC', D', h1, h2, h3⟩ => ?_
  subst he
  exact ⟨D', h1, h2 _ hC', h3 _ _ (hf.put? hd v) hC'⟩
/-- One of two comes up. -/
theorem SX.two {i j : Nat} {k h : Plan} (h1 : SX P n ops (.e i k) D l C Q) (h2 : SX P n ops (.e j h) D l C Q) : SX P n ops (.two i j k h) D l C Q := fun a w hf hw => ⟨h1 a w hf hw, h2 a w hf hw⟩
theorem SX.both {t : Nat} {b : Bool} (hs : slot l t = some (.bool b)) (ht : b = true → SX P n ops ix D ((t, .bool true) :: l) C Q) (hf : b = false → SX P n ops ix D ((t, .bool false) :: l) C Q) : SX P n ops ix D l C Q := fun a w hfr hw => by
  cases b with
  | true => exact ht rfl a w (hfr.split hs rfl) hw
  | false => exact hf rfl a w (hfr.split hs rfl) hw
theorem SX.bothP {t : Nat} {p : Prop} [hp : Decidable p] (hs : slot l t = some (.bool (decide p))) (ht : p → SX P n ops ix D ((t, .bool true) :: l) C Q) (hf : ¬p → SX P n ops ix D ((t, .bool false) :: l) C Q) : SX P n ops ix D l C Q :=
  SX.both hs (fun h => ht (of_decide_eq_true h)) (fun h => hf (of_decide_eq_false h))
/-- A region that draws its order, by a plan. The class of the quiet ones is D. -/
theorem SC.draw {id : Nat} (D : World → Prop) (ix : Plan) (hm : P.follows .mixedOrders = true)
    (hok : (Region.noSelect ops && planOk ops ops.size (Array.replicate ops.size false) ix) = true)
    (hCD : ∀ w, C w → D w) (hdr : ∀ w, C w → C w.drew) (h : SX P n ops ix D l C Q) : SC P n (.region id ops true) l C Q := fun a w hf hw =>
  wp_region_plan D ix hm hok (hCD _ (hdr w hw)) (h a _ hf (hdr w hw))

/-! ### Codes -/
section
variable {x y : Code} {id : Nat} {F : Exit → Act → World → Prop}
theorem SC.seq (h : SC P n x l C (Exit.then (y.wp P Q) Q)) : SC P n (.seq x y) l C Q := fun a w hf hw => wp_seq (h a w hf hw)
theorem SC.region {os : List Oper} (h : SL P n os.toArray os l C Q) : SC P n (.region id os.toArray false) l C Q := fun a w hf hw => wp_region_lit (h a w hf hw)
theorem SC.skip (h : SE n .normal l C Q) : SC P n .skip l C Q := fun a w hf hw => wp_skip (h a w hf hw)
theorem SC.exit (h : SE n (.exit id) l C Q) : SC P n (.exit id) l C Q := fun a w hf hw => wp_exit (h a w hf hw)
theorem SC.ret (h : SE n .ret l C Q) : SC P n .ret l C Q := fun a w hf hw => wp_ret (h a w hf hw)
theorem SC.block (h : SC P n x l C (Exit.inBlock id Q)) : SC P n (.block id x) l C Q := fun a w hf hw => wp_block (h a w hf hw)
theorem SC.cond {c : Operand} {b : Bool} (hc : look l c = some (.bool b)) (ht : b = true → SC P n x l C Q) (hf : b = false → SC P n y l C Q) : SC P n (.cond c x y) l C Q := fun a w hfr hw =>
  wp_cond_split (hfr.eval hc) (fun h => ht h a w hfr hw) (fun h => hf h a w hfr hw)
theorem SC.condP {c : Operand} {p : Prop} [Decidable p] (hc : look l c = some (.bool (decide p))) (ht : p → SC P n x l C Q) (hf : ¬p → SC P n y l C Q) : SC P n (.cond c x y) l C Q :=
  SC.cond hc (fun h => ht (of_decide_eq_true h)) (fun h => hf (of_decide_eq_false h))
theorem SC.condT {c : Operand} (hc : look l c = some (.bool true)) (ht : SC P n x l C Q) : SC P n (.cond c x y) l C Q := SC.cond hc (fun _ => ht) (fun h => by cases h)
theorem SC.condF {c : Operand} (hc : look l c = some (.bool false)) (hf : SC P n y l C Q) : SC P n (.cond c x y) l C Q := SC.cond hc (fun h => by cases h) (fun _ => hf)
theorem SE.seq (h : SC P n y l C Q) : SE n .normal l C (Exit.then (y.wp P Q) Q) := h
theorem SE.then_ {e : Exit} {G : Act → World → Prop} (he : e ≠ .normal) (h : SE n e l C Q) : SE n e l C (Exit.then G Q) := fun a w hf hw => by
  cases e <;> first | exact h a w hf hw | exact absurd rfl he
theorem SE.inBlock (h : SE n .normal l C Q) : SE n .normal l C (Exit.inBlock id Q) := h
theorem SE.exit (h : SE n .normal l C Q) : SE n (.exit id) l C (Exit.inBlock id Q) := fun a w hf hw => by
  show if id = id then _ else _
  rw [if_pos rfl]; exact h a w hf hw
theorem SE.exit_ {j : Nat} (hj : Nat.beq j id = false) (h : SE n (.exit j) l C Q) : SE n (.exit j) l C (Exit.inBlock id Q) := fun a w hf hw => by
  show if j = id then _ else _
  rw [if_neg (by intro he; subst he; simp at hj)]; exact h a w hf hw
theorem SE.ret (h : SE n .ret l C Q) : SE n .ret l C (Exit.inBlock id Q) := h
/-- A loop: what holds at each round's head, by a state that goes down. -/
theorem SC.loop {ι : Type} (L : ι → Slots) (K : ι → World → Prop) (m : ι → Nat) (x₀ : ι) (hs : Subs l (L x₀)) (hw₀ : ∀ w, C w → K x₀ w)
    (round : ∀ z, SC P n x (L z) (K z) (Exit.then (fun a w => ∃ u, m u < m z ∧ Fr n a (L u) ∧ K u w) Q)) : SC P n (.loop x) l C Q := by
  intro a0 w0 hf0 hw0 b kk cs
  have key : ∀ k z, m z = k → ∀ a w, Fr n a (L z) → K z w →
      ∃ e a' w', Q e a' w' ∧ Arrives P (lone (b.at a (.code x :: .inLoop x :: kk)) cs w) b kk cs e a' w' := by
    intro k
    induction k using Nat.strongRecOn with
    | _ k ih =>
      intro z hz a w hf hw
      obtain ⟨e, a₁, w₁, hq, harr⟩ := round z a w hf hw b (.inLoop x :: kk) cs
      cases e with
      | normal =>
        obtain ⟨u, hu, hf₁, hw₁⟩ := hq
        obtain ⟨e₂, a₂, w₂, hq₂, harr₂⟩ := ih (m u) (hz ▸ hu) u rfl a₁ w₁ hf₁ hw₁
        exact ⟨e₂, a₂, w₂, hq₂, .of_steps (Steps.trans harr (.one step_inLoop)) harr₂⟩
      | exit id => exact ⟨_, a₁, w₁, hq, .pass (x := .inLoop x) rfl (fun _ _ => .inl (by simp)) harr⟩
      | goto l => exact ⟨_, a₁, w₁, hq, .pass (x := .inLoop x) rfl (fun _ _ => .inl (by simp)) harr⟩
      | ret => exact ⟨_, a₁, w₁, hq, .pass (x := .inLoop x) rfl (fun _ _ => .inl (by simp)) harr⟩
      | panic ch => exact ⟨_, a₁, w₁, hq, .pass (x := .inLoop x) rfl (fun _ _ => .inl (by simp)) harr⟩
      | outgrown => exact ⟨_, a₁, w₁, hq, .pass (x := .inLoop x) rfl (fun _ _ => .inl (by simp)) harr⟩
  obtain ⟨e, a', w', hq, harr⟩ := key _ x₀ rfl a0 w0 (hf0.sub hs) (hw₀ w0 hw0)
  exact ⟨e, a', w', hq, .of_steps (.one step_loop) harr⟩
end
end
end Go.Proofs.Ytdbeinbgekdnmaa
