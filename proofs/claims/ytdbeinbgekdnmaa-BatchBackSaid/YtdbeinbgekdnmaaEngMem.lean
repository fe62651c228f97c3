/-
  An engine for walks: the laws of the operations on memory.
-/
import Derived.Test.YtdbeinbgekdnmaaEngOps
import Derived.Laws.CopyRow
import Derived.Laws.Rows
import Derived.Shelf.Abstract
set_option maxRecDepth 100000
namespace Go.Proofs.Ytdbeinbgekdnmaa
open Go.RowKit

/-! ### What is known of the types -/
inductive TK where
  | one
  | struct (fs : List (Nat × Nat))
  | array (n e : Nat)
structure TI where
  size : Nat
  k : TK
  zero : List Value
def ti : List (Nat × TI) → Nat → Option TI
  | [], _ => none
  | (i, x) :: l, t => bif Nat.beq i t then some x else ti l t
/-- Two leaves that are the same; false for all others. -/
def leafEq : Value → Value → Bool
  | .bool a, .bool b => a == b
  | .int k a, .int j b => k == j && a == b
  | .string a, .string b => a.data.toList == b.data.toList
  | .pointer none, .pointer none => true
  | .slice none a b, .slice none c d => a == c && b == d
  | .map none, .map none => true
  | .nilFunc, .nilFunc => true
  | .nilIface, .nilIface => true
  | _, _ => false
def leavesEq : List Value → List Value → Bool
  | [], [] => true
  | a :: l, b :: r => leafEq a b && leavesEq l r
  | _, _ => false
theorem leafEq_eq {a b : Value} (h : leafEq a b = true) : a = b ∧ a.oneCell' = true := by
  unfold leafEq at h
  split at h <;> simp at h <;> try (simp [h, Value.oneCell']; done)
  rename_i a b
  obtain ⟨a⟩ := a; obtain ⟨b⟩ := b
  simp at h
  simp [h, Value.oneCell']
theorem leavesEq_eq : ∀ {a b : List Value}, leavesEq a b = true → a = b ∧ ∀ v ∈ a, v.oneCell' = true
  | [], [], _ => by simp
  | [], _ :: _, h => by simp [leavesEq] at h
  | _ :: _, [], h => by simp [leavesEq] at h
  | a :: l, b :: r, h => by
    simp only [leavesEq, Bool.and_eq_true] at h
    obtain ⟨h1, h2⟩ := leafEq_eq h.1
    obtain ⟨h3, h4⟩ := leavesEq_eq h.2
    subst h1 h3
    refine ⟨rfl, fun v hv => ?_⟩
    rcases List.mem_cons.1 hv with rfl | hv
    · exact h2
    · exact h4 v hv
def kindOk : TypeDesc → TK → Bool
  | .struct fs, .struct gs => fs.toList.map (fun f => (f.offset, f.type)) == gs
  | .array n e, .array m e' => n == m && e == e'
  | .struct _, _ => false
  | .array _ _, _ => false
  | _, .one => true
  | _, _ => false
def chk (P : Program) (p : Nat × TI) : Bool := match P.info? p.1, P.underlying p.1 with
  | some I, some d => I.size == p.2.size && p.2.zero.length == p.2.size && kindOk d p.2.k && (match I.zero with
    | some z => leavesEq z.cells.toList p.2.zero
    | none => false)
  | _, _ => false
structure Fits (P : Program) (t : Nat) (i : TI) : Prop where
  info : ∃ I, P.info? t = some I ∧ I.size = i.size ∧ ∃ z, I.zero = some z ∧ z.cells = i.zero.toArray
  und : ∃ d, P.underlying t = some d ∧ kindOk d i.k = true
  len : i.zero.length = i.size
def TabOk (P : Program) (tab : List (Nat × TI)) : Prop := ∀ t i, ti tab t = some i → Fits P t i
theorem tabOk_of {P : Program} : ∀ {tab : List (Nat × TI)}, tab.all (chk P) = true → TabOk P tab
  | [], _, t, i, h => by simp [ti] at h
  | (j, x) :: l, hc, t, i, h => by
    simp only [List.all_cons, Bool.and_eq_true] at hc
    unfold ti at h
    by_cases hjt : j = t
    · subst hjt
      simp at h
      subst h
      have h1 := hc.1
      unfold chk at h1
      dsimp only at h1
      cases hI : P.info? j with
      | none => simp [hI] at h1
      | some I =>
        cases hd : P.underlying j with
        | none => simp [hI, hd] at h1
        | some dd =>
          simp only [hI, hd, Bool.and_eq_true, beq_iff_eq] at h1
          obtain ⟨⟨⟨a1, a2⟩, a3⟩, a4⟩ := h1
          cases hz : I.zero with
          | none => simp [hz] at a4
          | some z =>
            simp only [hz] at a4
            exact ⟨⟨I, hI, a1, z, hz, by rw [← (leavesEq_eq a4).1]⟩, ⟨dd, hd, a3⟩, a2⟩
    · rw [beq_ne hjt] at h
      exact tabOk_of hc.2 t i h

section
variable {P : Program} {t : Nat} {i : TI} {w : World}
theorem Fits.sizeOf (h : Fits P t i) : (sizeOf t).run P w = .ok i.size w := by
  obtain ⟨I, hI, hs, _⟩ := h.info
  simp [Go.sizeOf, typeInfo, program, Sem.run_bind, Sem.run, hI, hs, Result.andThen]
theorem Fits.zeroValue (h : Fits P t i) : ∃ z, (zeroValue t).run P w = .ok z w ∧ z.cells = i.zero.toArray := by
  obtain ⟨I, hI, _, z, hz, hc⟩ := h.info
  exact ⟨z, by simp [Go.zeroValue, typeInfo, program, Sem.run_bind, Sem.run, hI, hz, Result.andThen], hc⟩
theorem Fits.isAgg (h : Fits P t i) : (isAgg t).run P w = .ok (match i.k with | .one => false | _ => true) w := by
  obtain ⟨d, hd, hk⟩ := h.und
  unfold Go.isAgg
  rw [Sem.run_bind, run_underlying hd w]
  obtain ⟨sz, k, z⟩ := i
  cases d <;> cases k <;> simp [kindOk] at hk <;> simp [Result.andThen]
theorem Fits.fields {sz : Nat} {gs : List (Nat × Nat)} {z : List Value} (h : Fits P t ⟨sz, .struct gs, z⟩) : ∃ fs, P.underlying t = some (.struct fs) ∧ fs.toList.map (fun f => (f.offset, f.type)) = gs := by
  obtain ⟨d, hd, hk⟩ := h.und
  cases d <;> simp [kindOk] at hk
  exact ⟨_, hd, by simpa using hk⟩
end

/-- So many cells from there on. -/
def sub (L : List Value) : Nat → Nat → List Value
  | o, s => (L.drop o).take s
/-- The cells there are these now. -/
def putAt : List Value → Nat → List Value → List Value
  | L, 0, vs => vs ++ L.drop vs.length
  | x :: L, n + 1, vs => x :: putAt L n vs
  | [], _ + 1, _ => []
theorem putAt_eq : ∀ (L : List Value) (n : Nat) (vs : List Value), n ≤ L.length → putAt L n vs = L.take n ++ vs ++ L.drop (n + vs.length)
  | L, 0, vs, _ => by simp [putAt]
  | x :: L, n + 1, vs, h => by
    have := putAt_eq L n vs (by simpa using h)
    simp [putAt, this, Nat.add_right_comm n 1 vs.length]
  | [], n + 1, vs, h => by simp at h
theorem Addr.add_none (b o j : Nat) : (⟨b, o, none⟩ : Addr).add j = ⟨b, o + j, none⟩ := by
  unfold Addr.add
  split
  · rename_i h; subst h; rfl
  · rfl

section
variable {P : Program} {n : Nat} {l : Slots} {S : List (World × List Nat)} {σ τ : Blks} {ρ : List Dt} {D : World → Prop} {x y z : Operand} {d : Option Nat} {ty t : TypeId} {pos : String} {aft : Array Edge} {g : Option (Nat × Bool)} {v u : Value} {tab : List (Nat × TI)} {b o : Nat} {L : List Value} {t' : TypeId}

theorem mem_cell {w : World} (h : w.heap[b]? = some (row t' L)) (j : Nat) : w.cell? ⟨b, j, none⟩ = L[j]? := by
  rw [cell_of_row w b j L.toArray t' (0, 0) h]; simp
/-- A load of one cell, by the cell. -/
theorem Val.load1C (hT : TabOk P tab) {sz : Nat} {zs : List Value} (ht : ti tab t = some ⟨sz, .one, zs⟩) (hx : look l x = some (.pointer (some ⟨b, o, none⟩))) (hc : ∀ w, D w → w.cell? ⟨b, o, none⟩ = some v) : Val P n l D ⟨d, .load t x, ty, pos, aft, g⟩ v := fun A w hf hD => by
  have h1 := (hT t _ ht).isAgg (w := w)
  simp [execOp, hf.eval hx, Instr.loadAt, Instr.sureAddr, loadVar, Sem.run_bind, h1, Result.andThen, load, Sem.run, hc w hD]
theorem run_loadAgg (hT : TabOk P tab) {i : TI} (ht : ti tab t = some i) (hk : (match i.k with | .one => false | _ => true) = true) {w : World} (hl : L.length = i.size) (hc : ∀ j u, L[j]? = some u → w.cell? ⟨b, o + j, none⟩ = some u) : (loadVar t ⟨b, o, none⟩).run P w = .ok (.agg L.toArray) w := by
  have h1 := (hT t _ ht).isAgg (w := w)
  have h2 := (hT t _ ht).sizeOf (w := w)
  have h3 := run_loadCells_list (P := P) w ⟨b, o, none⟩ L (fun j u hu => by rw [Addr.add_none]; exact hc j u hu)
  rw [hk] at h1
  rw [← hl] at h2
  simp [loadVar, Sem.run_bind, h1, h2, h3, Result.andThen]
/-- A load of a whole struct or array, by its cells. -/
theorem Val.loadAC (hT : TabOk P tab) {i : TI} (ht : ti tab t = some i) (hk : (match i.k with | .one => false | _ => true) = true) (hx : look l x = some (.pointer (some ⟨b, o, none⟩))) (hl : L.length = i.size) (hc : ∀ w, D w → ∀ j u, L[j]? = some u → w.cell? ⟨b, o + j, none⟩ = some u) : Val P n l D ⟨d, .load t x, ty, pos, aft, g⟩ (.agg L.toArray) := fun A w hf hD => by
  simp [execOp, hf.eval hx, Instr.loadAt, Instr.sureAddr, run_loadAgg hT ht hk hl (hc w hD), Result.andThen]
/-- A load of one cell of a block that is known. -/
theorem Val.load1 (hT : TabOk P tab) {sz : Nat} {zs : List Value} (ht : ti tab t = some ⟨sz, .one, zs⟩) (hx : look l x = some (.pointer (some ⟨b, o, none⟩))) (hb : It.blk b (row t' L) ∈ σ) (hv : L[o]? = some v) : Val P n l (Mem S σ ρ) ⟨d, .load t x, ty, pos, aft, g⟩ v :=
  Val.load1C hT ht hx fun w hw => by rw [mem_cell (hw.holds hb)]; exact hv
/-- A load of a whole block that is known. -/
theorem Val.loadA (hT : TabOk P tab) {i : TI} (ht : ti tab t = some i) (hk : (match i.k with | .one => false | _ => true) = true) (hx : look l x = some (.pointer (some ⟨b, 0, none⟩))) (hb : It.blk b (row t' L) ∈ σ) (hl : L.length = i.size) : Val P n l (Mem S σ ρ) ⟨d, .load t x, ty, pos, aft, g⟩ (.agg L.toArray) :=
  Val.loadAC hT ht hk hx hl fun w hw j u hu => by rw [Nat.zero_add, mem_cell (hw.holds hb)]; exact hu
/-- A load of a part of a block that is known. -/
theorem Val.loadP (hT : TabOk P tab) {i : TI} (ht : ti tab t = some i) (hk : (match i.k with | .one => false | _ => true) = true) (hx : look l x = some (.pointer (some ⟨b, o, none⟩))) (hb : It.blk b (row t' L) ∈ σ) (hl : o + i.size ≤ L.length) : Val P n l (Mem S σ ρ) ⟨d, .load t x, ty, pos, aft, g⟩ (.agg (sub L o i.size).toArray) :=
  Val.loadAC hT ht hk hx (by simp [sub]; omega) fun w hw j u hu => by
    rw [mem_cell (hw.holds hb)]
    simp only [sub, List.getElem?_take, List.getElem?_drop] at hu
    split at hu
    · exact hu
    · cases hu
theorem Val.fieldAddr (hT : TabOk P tab) {sz fo ft f : Nat} {gs : List (Nat × Nat)} {zs : List Value} {j : TI} (ht : ti tab t = some ⟨sz, .struct gs, zs⟩) (hx : look l x = some (.pointer (some ⟨b, o, none⟩))) (hfo : gs[f]? = some (fo, ft)) (hj : ti tab ft = some j) (hs : Nat.beq j.size 0 = false) :
    Val P n l D ⟨d, .fieldAddr t x f, ty, pos, aft, g⟩ (.pointer (some ⟨b, o + fo, none⟩)) := fun A w hf hD => by
  obtain ⟨fs, hu, hm⟩ := (hT t _ ht).fields
  rw [← hm, List.getElem?_map] at hfo
  cases hf2 : fs.toList[f]? with
  | none => simp [hf2] at hfo
  | some fd =>
    simp only [hf2, Option.map_some, Option.some.injEq, Prod.mk.injEq] at hfo
    obtain ⟨rfl, rfl⟩ := hfo
    have hf3 : fs[f]? = some fd := by simpa using hf2
    have h2 := (hT _ _ hj).sizeOf (w := w)
    have hne : ¬ j.size = 0 := fun h => by rw [h] at hs; simp at hs
    simp [execOp, hf.eval hx, Instr.fieldAt, Instr.sureAddr, run_underlying hu, Sem.run_bind, hf3, Result.andThen, fieldPlace, h2, hne, Addr.add_none]
/-- The address of an element of a slice. -/
theorem Val.indexSl (hT : TabOk P tab) {m c e : Nat} {k : IntKind} {q : Int} {j : TI} (hu : P.underlying t = some (.slice e)) (hj : ti tab e = some j) (hx : look l x = some (.slice (some ⟨b, o, none⟩) m c)) (hy : look l y = some (.int k q)) (hq : 0 ≤ q ∧ q < m) :
    Val P n l D ⟨d, .indexAddr t x y, ty, pos, aft, g⟩ (.pointer (some ⟨b, o + q.toNat * j.size, none⟩)) := fun A w hf hD => by
  have h2 := (hT _ _ hj).sizeOf (w := w)
  simp [execOp, hf.eval hx, hf.eval hy, Instr.indexAt, asIntOf, run_underlying hu, Sem.run_bind, Result.andThen, h2, hq, Addr.add_none]
theorem Val.indexSlN (hT : TabOk P tab) {m c e q : Nat} {k : IntKind} {j : TI} (hu : P.underlying t = some (.slice e)) (hj : ti tab e = some j) (hx : look l x = some (.slice (some ⟨b, o, none⟩) m c)) (hy : look l y = some (.int k q)) (hq : q < m) :
    Val P n l D ⟨d, .indexAddr t x y, ty, pos, aft, g⟩ (.pointer (some ⟨b, o + q * j.size, none⟩)) := by
  have := Val.indexSl (n := n) (D := D) (d := d) (ty := ty) (pos := pos) (aft := aft) (g := g) hT hu hj hx hy (by omega)
  simpa using this
/-- A field of a struct's value. -/
theorem Val.field1 (hT : TabOk P tab) {sz fo ft f sz' : Nat} {gs : List (Nat × Nat)} {zs zs' : List Value} (ht : ti tab t = some ⟨sz, .struct gs, zs⟩) (hx : look l x = some (.agg L.toArray)) (hfo : gs[f]? = some (fo, ft)) (hj : ti tab ft = some ⟨sz', .one, zs'⟩) (hv : L[fo]? = some v) :
    Val P n l D ⟨d, .field t x f, ty, pos, aft, g⟩ v := fun A w hf hD => by
  obtain ⟨fs, hu, hm⟩ := (hT t _ ht).fields
  rw [← hm, List.getElem?_map] at hfo
  cases hf2 : fs.toList[f]? with
  | none => simp [hf2] at hfo
  | some fd =>
    simp only [hf2, Option.map_some, Option.some.injEq, Prod.mk.injEq] at hfo
    obtain ⟨rfl, rfl⟩ := hfo
    have hf3 : fs[f]? = some fd := by simpa using hf2
    have h2 := (hT _ _ hj).isAgg (w := w)
    simp [execOp, hf.eval hx, Instr.field, run_underlying hu, Sem.run_bind, hf3, Result.andThen, asAgg, part, h2, hv]

/-! ### Operations that change memory -/
theorem Eff.alloc (hT : TabOk P tab) {i : TI} (ht : ti tab t = some i) : Eff P n l (Mem S σ ρ) ⟨d, .alloc t, ty, pos, aft, g⟩ fun v C' => ∃ b, v = .pointer (some ⟨b, 0, none⟩) ∧ C' = Mem S (.blk b (row t i.zero) :: σ) ρ := fun A w hf hw => by
  obtain ⟨zv, hz, hc⟩ := (hT t _ ht).zeroValue (w := w)
  refine ⟨_, _, _, ⟨w.heap.size, rfl, rfl⟩, hw.alloc (row t i.zero), .inl ?_⟩
  simp [execOp, Instr.alloc, Sem.run_bind, hz, Result.andThen, newVar, newRow, newObj, Sem.run, hc, row]
/-- A box of a struct's value. -/
theorem Eff.boxA (hx : look l x = some (.agg L.toArray)) : Eff P n l (Mem S σ ρ) ⟨d, .box t x, ty, pos, aft, g⟩ fun v C' => ∃ b, v = .pointer (some ⟨b, 0, none⟩) ∧ C' = Mem S (.blk b (row t L) :: σ) ρ := fun A w hf hw => by
  refine ⟨_, _, _, ⟨w.heap.size, rfl, rfl⟩, hw.alloc (row t L), .inl ?_⟩
  simp [execOp, hf.eval hx, Instr.box, Result.andThen, newVar, newRow, newObj, Sem.run, Value.cells, row]
theorem Eff.box1 (hx : look l x = some v) (h1 : v.oneCell' = true) : Eff P n l (Mem S σ ρ) ⟨d, .box t x, ty, pos, aft, g⟩ fun u C' => ∃ b, u = .pointer (some ⟨b, 0, none⟩) ∧ C' = Mem S (.blk b (row t [v]) :: σ) ρ := fun A w hf hw => by
  refine ⟨_, _, _, ⟨w.heap.size, rfl, rfl⟩, hw.alloc (row t [v]), .inl ?_⟩
  have hc : v.cells = #[v] := by cases v <;> simp [Value.oneCell'] at h1 <;> rfl
  simp [execOp, hf.eval hx, Instr.box, Result.andThen, newVar, newRow, newObj, Sem.run, hc, row]
theorem heap_setRow {w : World} {cs cs' : List Value} (h : w.heap[b]? = some (row t' cs)) : (w.setRow b cs'.toArray).heap[b]? = some (row t' cs') := setRow_heap w b cs.toArray cs'.toArray t' (0, 0) h
/-- A store into a block that is known. -/
theorem Eff.storeL (hT : TabOk P tab) {i : TI} {vs L' : List Value} (ht : ti tab t = some i) (hx : look l x = some (.pointer (some ⟨b, o, none⟩))) (hy : look l y = some v) (hcs : v.cells = vs.toArray) (hu : Upd (.blk b (row t' L)) (.blk b (row t' L')) σ τ) (hl : vs.length = i.size) (hn : o + i.size ≤ L.length) (h1 : ∀ u ∈ vs, u.oneCell' = true) (hL : putAt L o vs = L') :
    Eff P n l (Mem S σ ρ) ⟨d, .store t x y, ty, pos, aft, g⟩ fun u C' => u = undef ∧ C' = Mem S τ ρ := fun A w hf hw => by
  have hb := hw.holds hu.mem
  have h2 := (hT t _ ht).sizeOf (w := w)
  have hst := run_storeCells_at (P := P) b o t' vs 0 L.toArray w hb (by simp; omega) h1
  have hE : (L.toArray.toList.take (o + 0) ++ vs ++ L.toArray.toList.drop (o + 0 + vs.length)).toArray = L'.toArray := by
    rw [← hL, putAt_eq L o vs (by omega)]; simp
  rw [hE] at hst
  refine ⟨undef, w.setRow b L'.toArray, Mem S τ ρ, ⟨rfl, rfl⟩, hw.updB hu ((Ext.refl w).setRow (.inl (by simp)) _) (heap_setRow hb), .inr ⟨rfl, ?_⟩⟩
  simp [execOp, hf.eval hx, hf.eval hy, Instr.storeAt, Instr.sureAddr, storeVar, Sem.run_bind, hcs, h2, hl, hst, Result.andThen]
theorem Eff.store1 (hT : TabOk P tab) {sz : Nat} {zs L' : List Value} (ht : ti tab t = some ⟨sz, .one, zs⟩) (hs : Nat.beq sz 1 = true) (hx : look l x = some (.pointer (some ⟨b, o, none⟩))) (hy : look l y = some v) (h1 : v.oneCell' = true) (hu : Upd (.blk b (row t' L)) (.blk b (row t' L')) σ τ) (hn : Nat.blt o L.length = true) (hL : putAt L o [v] = L') :
    Eff P n l (Mem S σ ρ) ⟨d, .store t x y, ty, pos, aft, g⟩ fun u C' => u = undef ∧ C' = Mem S τ ρ := by
  have hs' : sz = 1 := by simpa using Nat.eq_of_beq_eq_true hs
  subst hs'
  have hc : v.cells = [v].toArray := by cases v <;> simp [Value.oneCell'] at h1 <;> rfl
  have hlt : o + 1 ≤ L.length := by
    have : o < L.length := by simpa [Nat.blt_eq] using hn
    omega
  exact Eff.storeL hT ht hx hy hc hu rfl hlt (by simpa using h1) hL
theorem Eff.storeA (hT : TabOk P tab) {i : TI} {vs L' : List Value} (ht : ti tab t = some i) (hx : look l x = some (.pointer (some ⟨b, o, none⟩))) (hy : look l y = some (.agg vs.toArray)) (hu : Upd (.blk b (row t' L)) (.blk b (row t' L')) σ τ) (hl : vs.length = i.size) (hn : o + i.size ≤ L.length) (h1 : ∀ u ∈ vs, u.oneCell' = true) (hL : putAt L o vs = L') :
    Eff P n l (Mem S σ ρ) ⟨d, .store t x y, ty, pos, aft, g⟩ fun u C' => u = undef ∧ C' = Mem S τ ρ := Eff.storeL hT ht hx hy rfl hu hl hn h1 hL

/-! ### Composite values -/
def cellsL : Value → List Value
  | .agg cs => cs.toList
  | v => [v]
theorem cellsL_eq (v : Value) : v.cells = (cellsL v).toArray := by cases v <;> simp [Value.cells, cellsL]
/-- The parts laid over the cells. -/
def fillL (place : Nat → Option (Nat × Nat)) (cells : List Value) : List (Nat × Value) → Option (List Value)
  | [] => some cells
  | (i, v) :: rest => match place i with
    | none => none
    | some (off, size) => bif Nat.beq (cellsL v).length size && Nat.ble (off + size) cells.length then fillL place (putAt cells off (cellsL v)) rest else none
theorem foldl_set (off : Nat) : ∀ (vs : List Value) (k : Nat) (cells : List Value), off + k + vs.length ≤ cells.length →
    ((vs.zipIdx k).foldl (fun cs (p : Value × Nat) => cs.setIfInBounds (off + p.2) p.1) cells.toArray) = (putAt cells (off + k) vs).toArray
  | [], k, cells, h => by
    have h2 := putAt_eq cells (off + k) [] (by simpa using h)
    simp at h2
    simp [h2]
  | v :: vs, k, cells, h => by
    simp only [List.length_cons] at h
    have ih := foldl_set off vs (k + 1) (cells.set (off + k) v) (by simp; omega)
    simp only [List.zipIdx_cons, List.foldl_cons]
    rw [List.setIfInBounds_toArray, ih]
    congr 1
    rw [putAt_eq _ _ _ (by simp; omega), putAt_eq _ _ _ (by omega)]
    have h1 : (cells.set (off + k) v).take (off + (k + 1)) = cells.take (off + k) ++ [v] := by
      rw [← Nat.add_assoc, List.take_succ_eq_append_getElem (by simp; omega)]
      simp [List.take_set_of_le]
    have h2 : (cells.set (off + k) v).drop (off + (k + 1) + vs.length) = cells.drop (off + k + (v :: vs).length) := by
      rw [List.drop_set_of_lt (by omega)]
      congr 1
      simp; omega
    rw [h1, h2]
    simp
theorem fill_eq (place : Nat → Option (Nat × Nat)) : ∀ (parts : List (Nat × Value)) (cells L : List Value), fillL place cells parts = some L → Instr.fill place cells.toArray parts = some L.toArray
  | [], cells, L, h => by simp [fillL] at h; simp [Instr.fill, h]
  | (i, v) :: rest, cells, L, h => by
    unfold fillL at h
    unfold Instr.fill
    cases hp : place i with
    | none => simp [hp] at h
    | some os =>
      obtain ⟨off, size⟩ := os
      simp only [hp] at h ⊢
      cases hb : (Nat.beq (cellsL v).length size && Nat.ble (off + size) cells.length) with
      | false => rw [hb] at h; simp at h
      | true =>
        rw [hb] at h
        simp only [Bool.and_eq_true] at hb
        have e1 := Nat.eq_of_beq_eq_true hb.1
        have e2 := Nat.le_of_ble_eq_true hb.2
        have hsz : v.cells.size = size := by rw [cellsL_eq]; simpa using e1
        have hno : (decide (v.cells.size ≠ size) || decide (off + v.cells.size > cells.toArray.size)) = false := by rw [hsz]; simp; omega
        have hf : (v.cells.zipIdx.foldl (fun cs (c, j) => cs.setIfInBounds (off + j) c) cells.toArray) = (putAt cells off (cellsL v)).toArray := by
          rw [cellsL_eq]
          have := foldl_set off (cellsL v) 0 cells (by omega)
          simpa using this
        rw [if_neg (by rw [hno]; simp), hf]
        exact fill_eq place rest _ L h
def places (tab : List (Nat × TI)) : List (Nat × Nat) → List (Nat × Nat)
  | [] => []
  | (o, t) :: l => (o, ((ti tab t).map (·.size)).getD 0) :: places tab l
def evalParts (l : Slots) : List (Nat × Operand) → Option (List (Nat × Value))
  | [] => some []
  | (i, x) :: ps => match look l x, evalParts l ps with
    | some v, some vs => some ((i, v) :: vs)
    | _, _ => none
theorem evalParts_eq {A : Act} (hf : Fr n A l) : ∀ {ps : List (Nat × Operand)} {vs : List (Nat × Value)}, evalParts l ps = some vs → ps.map (fun p => (p.1, A.eval p.2)) = vs
  | [], vs, h => by simp [evalParts] at h; simp [h]
  | (i, x) :: ps, vs, h => by
    unfold evalParts at h
    cases h1 : look l x with
    | none => simp [h1] at h
    | some v =>
      cases h2 : evalParts l ps with
      | none => simp [h1, h2] at h
      | some us =>
        simp [h1, h2] at h
        subst h
        simp [hf.eval h1, evalParts_eq hf h2]
def allIn (tab : List (Nat × TI)) (gs : List (Nat × Nat)) : Bool := gs.all fun p => (ti tab p.2).isSome
theorem Val.buildS (hT : TabOk P tab) {sz : Nat} {gs : List (Nat × Nat)} {zs L : List Value} {ps : List (Nat × Operand)} {vs : List (Nat × Value)} (ht : ti tab t = some ⟨sz, .struct gs, zs⟩) (hin : allIn tab gs = true) (hps : evalParts l ps = some vs) (hL : fillL ((places tab gs)[·]?) zs vs = some L) :
    Val P n l D ⟨d, .build t ps.toArray, ty, pos, aft, g⟩ (.agg L.toArray) := fun A w hf hD => by
  obtain ⟨fs, hu, hm⟩ := (hT t _ ht).fields
  obtain ⟨zv, hz, hc⟩ := (hT t _ ht).zeroValue (w := w)
  have hpl : (fs.mapM fun (f : Field) => (do pure (f.offset, ← sizeOf f.type) : Sem (Nat × Nat))).run P w = .ok (places tab gs).toArray w := by
    have hl : ∀ (fl : List Field), allIn tab (fl.map fun f => (f.offset, f.type)) = true → (fl.mapM fun (f : Field) => (do pure (f.offset, ← sizeOf f.type) : Sem (Nat × Nat))).run P w = .ok (places tab (fl.map fun f => (f.offset, f.type))) w := by
      intro fl
      induction fl with
      | nil => intro _; rfl
      | cons f fl ih =>
        intro ha
        simp only [allIn, List.map_cons, List.all_cons, Bool.and_eq_true] at ha
        obtain ⟨i, hi⟩ := Option.isSome_iff_exists.1 ha.1
        have h2 := (hT _ _ hi).sizeOf (w := w)
        have h3 := ih ha.2
        simp only [bind_pure_comp] at h3
        simp [List.mapM_cons, Sem.run_bind, h2, h3, Result.andThen, places, hi]
    have := hl fs.toList (hm ▸ hin)
    rw [Array.mapM_eq_mapM_toList, Sem.run_map, this, hm]
    rfl
  have he : (ps.toArray.map fun (p : Nat × Operand) => (p.1, A.eval p.2)) = vs.toArray := by rw [List.map_toArray, evalParts_eq hf hps]
  have hfl := fill_eq _ _ _ _ hL
  simp only [execOp, Instr.build, he, Sem.run_bind, hz, run_underlying hu, Result.andThen_ok, hpl]
  simp only [hc]
  simp [hfl]
theorem Val.buildA (hT : TabOk P tab) {sz m e : Nat} {j : TI} {zs L : List Value} {ps : List (Nat × Operand)} {vs : List (Nat × Value)} (ht : ti tab t = some ⟨sz, .array m e, zs⟩) (hj : ti tab e = some j) (hps : evalParts l ps = some vs) (hL : fillL (fun i => some (i * j.size, j.size)) zs vs = some L) :
    Val P n l D ⟨d, .build t ps.toArray, ty, pos, aft, g⟩ (.agg L.toArray) := fun A w hf hD => by
  obtain ⟨dd, hu, hk⟩ := (hT t _ ht).und
  cases dd <;> simp [kindOk] at hk
  obtain ⟨rfl, rfl⟩ := hk
  obtain ⟨zv, hz, hc⟩ := (hT t _ ht).zeroValue (w := w)
  have h2 := (hT _ _ hj).sizeOf (w := w)
  have he : (ps.toArray.map fun (p : Nat × Operand) => (p.1, A.eval p.2)) = vs.toArray := by rw [List.map_toArray, evalParts_eq hf hps]
  have hfl := fill_eq _ _ _ _ hL
  simp only [execOp, Instr.build, he, Sem.run_bind, hz, run_underlying hu, Result.andThen_ok, h2]
  simp only [hc]
  simp [hfl]
end
end Go.Proofs.Ytdbeinbgekdnmaa
