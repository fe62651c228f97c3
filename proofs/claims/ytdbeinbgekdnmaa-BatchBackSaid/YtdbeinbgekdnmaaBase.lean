/-
  Small words for memory, over any program: 'Ext F w w'': the world w' is w but for new blocks and the blocks of F.
-/
import Derived.WalkKit
import Derived.WalkSpells
import Derived.WalkLawsBesides
import Derived.ProofKit
import Derived.Lib.Hide
import Derived.Deep.QuietTactic
import Derived.BigQuiet
import Derived.Deep.WholeRow
import Derived.Deep.MidRow
import Derived.Laws.Tables
import Derived.Laws.ResultCell
namespace Go.Proofs.Ytdbeinbgekdnmaa
open Go.RowKit

/-- w' is w but for blocks in F, and new blocks. -/
structure Ext (F : List Nat) (w w' : World) : Prop where
  os : w'.os = w.os
  tape : w'.tape = w.tape
  output : w'.output = w.output
  size : w.heap.size ≤ w'.heap.size
  block : ∀ k, k < w.heap.size → k ∉ F → w'.heap[k]? = w.heap[k]?

theorem Ext.refl {F : List Nat} (w : World) : Ext F w w := ⟨rfl, rfl, rfl, Nat.le_refl _, fun _ _ _ => rfl⟩
theorem Ext.trans {F : List Nat} {a b c : World} (h : Ext F a b) {G : List Nat} (k : Ext G b c) (hG : ∀ x ∈ G, x ∈ F ∨ a.heap.size ≤ x) : Ext F a c :=
  ⟨k.os.trans h.os, k.tape.trans h.tape, k.output.trans h.output, Nat.le_trans h.size k.size, fun i hi hn => by
    have h1 := h.size
    rw [k.block i (by omega) (fun hx => by rcases hG i hx with h2 | h2 <;> first | exact hn h2 | omega), h.block i hi hn]⟩
theorem Ext.app {F G : List Nat} {a b c : World} (h : Ext F a b) (k : Ext G b c) : Ext (F ++ G) a c :=
  ⟨k.os.trans h.os, k.tape.trans h.tape, k.output.trans h.output, Nat.le_trans h.size k.size, fun i hi hn => by
    have h1 := h.size
    rw [k.block i (by omega) (fun hx => hn (by simp [hx])), h.block i hi (fun hx => hn (by simp [hx]))]⟩
theorem Ext.mono {F G : List Nat} {a b : World} (h : Ext F a b) (hG : ∀ x ∈ F, x ∈ G ∨ a.heap.size ≤ x) : Ext G a b :=
  ⟨h.os, h.tape, h.output, h.size, fun i hi hn => h.block i hi (fun hx => by rcases hG i hx with h2 | h2 <;> first | exact hn h2 | omega)⟩
theorem Ext.below {w w' : World} (h : Ext [] w w') : Below w.heap.size w w' := ⟨h.os, h.tape, h.output, h.size, fun k hk => h.block k hk (by simp)⟩
theorem Ext.of_below {w w' : World} (h : Below w.heap.size w w') : Ext [] w w' := ⟨h.os, h.tape, h.output, h.size, fun k hk _ => h.block k hk⟩
theorem Ext.drew {F : List Nat} {a w : World} (h : Ext F a w) : Ext F a w.drew := ⟨h.os, h.tape, h.output, h.size, h.block⟩
theorem Ext.drewN {F : List Nat} {a w : World} (h : Ext F a w) (n : Nat) : Ext F a (w.drewN n) := ⟨h.os, h.tape, h.output, h.size, h.block⟩
theorem Ext.alloc {F : List Nat} {a w : World} (h : Ext F a w) (o : Obj) : Ext F a (w.alloc o) :=
  ⟨h.os, h.tape, h.output, Nat.le_trans h.size (by simp), fun k hk hn => by
    have := h.size
    rw [Below.heap_alloc _ _ _ (by omega), h.block k hk hn]⟩
theorem Ext.setCell {F : List Nat} {a w : World} (h : Ext F a w) {p : Addr} (hp : p.block ∈ F ∨ a.heap.size ≤ p.block) (u : Value) : Ext F a (w.setCell p u) :=
  ⟨h.os, h.tape, h.output, Nat.le_trans h.size (by simp [World.setCell]), fun k hk hn => by
    have hne : k ≠ p.block := by
      rintro rfl
      rcases hp with h2 | h2 <;> first | exact hn h2 | omega
    rw [Below.heap_setCell _ _ _ _ hne, h.block k hk hn]⟩
theorem Ext.setRow {F : List Nat} {a w : World} (h : Ext F a w) {g : Nat} (hp : g ∈ F ∨ a.heap.size ≤ g) (cs : Array Value) : Ext F a (w.setRow g cs) :=
  ⟨h.os, h.tape, h.output, Nat.le_trans h.size (by simp [World.setRow]), fun k hk hn => by
    have hne : g ≠ k := by
      rintro rfl
      rcases hp with h2 | h2 <;> first | exact hn h2 | omega
    have : (w.setRow g cs).heap[k]? = w.heap[k]? := by simp [World.setRow, Array.getElem?_modify, hne]
    rw [this, h.block k hk hn]⟩
theorem Ext.cell {F : List Nat} {w w' : World} (h : Ext F w w') {p : Addr} {v : Value} (hv : w.cell? p = some v) (hp : p.block ∉ F) : w'.cell? p = some v := by
  have hlt : p.block < w.heap.size := by
    rcases Nat.lt_or_ge p.block w.heap.size with h1 | h1
    · exact h1
    · simp [World.cell?, Array.getElem?_eq_none h1] at hv
  rw [← hv]
  exact World.cell?_of_block (w := w) (h.block p.block hlt hp)

/-- The worlds differ by draws alone. -/
structure Still (w w' : World) : Prop where
  os : w'.os = w.os
  tape : w'.tape = w.tape
  output : w'.output = w.output
  heap : w'.heap = w.heap
theorem Still.refl (w : World) : Still w w := ⟨rfl, rfl, rfl, rfl⟩
theorem Still.drewN (w : World) (n : Nat) : Still w (w.drewN n) := ⟨rfl, rfl, rfl, rfl⟩
theorem Still.trans {a b c : World} (h : Still a b) (k : Still b c) : Still a c := ⟨k.os.trans h.os, k.tape.trans h.tape, k.output.trans h.output, k.heap.trans h.heap⟩
theorem Still.symm {a b : World} (h : Still a b) : Still b a := ⟨h.os.symm, h.tape.symm, h.output.symm, h.heap.symm⟩
theorem Still.ext {w w' : World} (h : Still w w') {F : List Nat} : Ext F w w' := ⟨h.os, h.tape, h.output, by rw [h.heap]; exact Nat.le_refl _, fun k _ _ => by rw [h.heap]⟩
theorem Still.cell {w w' : World} (h : Still w w') (p : Addr) : w'.cell? p = w.cell? p := by unfold World.cell?; rw [h.heap]

/-- Block g is just the cells cs of element type t, none frozen. -/
def Blk (w : World) (g : Nat) (t : TypeId) (cs : Array Value) : Prop := w.heap[g]? = some (.cells cs t (0, 0))
section
variable {w w' : World} {g : Nat} {t : TypeId} {cs : Array Value}
theorem Blk.lt (h : Blk w g t cs) : g < w.heap.size := by
  rcases Nat.lt_or_ge g w.heap.size with hlt | hge
  · exact hlt
  · unfold Blk at h; rw [Array.getElem?_eq_none hge] at h; cases h
theorem Blk.cell (h : Blk w g t cs) (i : Nat) : w.cell? ⟨g, i, none⟩ = cs[i]? := cell_of_row w g i cs t (0, 0) h
theorem Blk.frozen (h : Blk w g t cs) (i : Nat) : w.frozen? ⟨g, i, none⟩ = false := by
  unfold Blk at h
  simp [World.frozen?, h]
theorem Blk.new (w : World) (t : TypeId) (cs : Array Value) : Blk (w.alloc (.cells cs t)) w.heap.size t cs := heap_alloc_new w _
theorem Blk.drew (h : Blk w g t cs) : Blk w.drew g t cs := h
theorem Blk.drewN (h : Blk w g t cs) (n : Nat) : Blk (w.drewN n) g t cs := h
theorem Blk.alloc (h : Blk w g t cs) (o : Obj) : Blk (w.alloc o) g t cs := (Below.heap_alloc w o g h.lt).trans h
theorem Blk.set_ (h : Blk w g t cs) (i : Nat) (u : Value) : Blk (w.setCell ⟨g, i, none⟩ u) g t (cs.setIfInBounds i u) := by
  unfold Blk at h ⊢
  simp [World.setCell, Array.getElem?_modify, h]
theorem Blk.far (h : Blk w g t cs) {p : Addr} (hp : g ≠ p.block) (u : Value) : Blk (w.setCell p u) g t cs := (Below.heap_setCell w p u g hp).trans h
theorem Blk.still (h : Blk w g t cs) (hb : Still w w') : Blk w' g t cs := by unfold Blk; rw [hb.heap]; exact h
theorem Blk.setRow (h : Blk w g t cs) (cs' : Array Value) : Blk (w.setRow g cs') g t cs' := setRow_heap w g cs cs' t (0, 0) h
theorem Blk.ext {F : List Nat} (h : Blk w g t cs) (hb : Ext F w w') (hg : g ∉ F) : Blk w' g t cs := (hb.block g h.lt hg).trans h
end

/-- A slice's row, as a list of cells. -/
def Row (w : World) (A : Option Addr) (xs : List Value) : Prop := xs ≠ [] → ∃ b off : Nat, A = some ⟨b, off, none⟩ ∧ ∀ j u, xs[j]? = some u → w.cell? ⟨b, off + j, none⟩ = some u
theorem Row.nil_ (w : World) (A : Option Addr) : Row w A [] := fun h => absurd rfl h
theorem Row.ext {F : List Nat} {w w' : World} {A : Option Addr} {xs : List Value} (h : Row w A xs) (hb : Ext F w w') (hF : ∀ ad, A = some ad → ad.block ∉ F) : Row w' A xs := by
  intro hn
  obtain ⟨b, off, rfl, hc⟩ := h hn
  exact ⟨b, off, rfl, fun j u hu => hb.cell (p := ⟨b, off + j, none⟩) (hc j u hu) (hF ⟨b, off, none⟩ rfl)⟩
theorem Row.ext0 {w w' : World} {A : Option Addr} {xs : List Value} (h : Row w A xs) (hb : Ext [] w w') : Row w' A xs := h.ext hb (by simp)
theorem Row.at_ {w : World} {A : Option Addr} {xs : List Value} (h : Row w A xs) {k : Nat} (hk : k < xs.length) :
    ∃ b off : Nat, A = some ⟨b, off, none⟩ ∧ w.cell? ⟨b, off + k, none⟩ = some xs[k] := by
  obtain ⟨b, off, rfl, hc⟩ := h (by intro h0; rw [h0] at hk; simp at hk)
  exact ⟨b, off, rfl, hc k _ (List.getElem?_eq_getElem hk)⟩

section
variable {P : Program} {ops : Array Oper} {rest : List Oper} {o : Oper} {a : Act} {w : World} {Q : Exit → Act → World → Prop}
/-- A guard: the next operation is o. To be used by 'with_reducible refine'. -/
theorem at_op (o : Oper) (h : wpList P ops Q (o :: rest) a w) : wpList P ops Q (o :: rest) a w := h
/-- An operation by its run: it answers a value. -/
theorem wpList_value (hg : o.guard = none) (v : Value) (w' : World) (h : (execOp a.eval o).run P w = .ok (.value v) w') (k : wpList P ops Q rest (a.put o.dst v) w') : wpList P ops Q (o :: rest) a w :=
  wpList_plain hg fun K hK => by unfold Oper.wp; rw [h]; exact hK _ _ k
/-- A store of a whole variable into a block that was just made. -/
theorem wpList_store_new (hg : o.guard = none) (ty : TypeId) (x y : Operand) (ho : o.op = .store ty x y) (w0 : World) (t : TypeId) (c c' : Array Value) (hx : a.eval x = .pointer (some ⟨w0.heap.size, 0, none⟩)) (hy : a.eval y = .agg c')
    (hw : w = w0.alloc (.cells c t)) (hi : (P.info? ty).map (·.size) = some c'.size) (hs : c.size = c'.size) (h1 : c'.all (·.oneCell') = true)
    (k : wpList P ops Q rest (a.put o.dst undef) (w0.alloc (.cells c' t))) : wpList P ops Q (o :: rest) a w := by
  subst hw
  refine wpList_store_row hg ty x y ho w0.heap.size c' hx hy t c (heap_alloc_new w0 _) hi hs h1 ?_
  rw [World.setRow_alloc_new]; exact k
end

/-- The worlds that differ from W by new blocks alone. -/
structure Later (W : World) where
  w : World
  ext : Ext [] W w
instance Later.some_ (W : World) : Nonempty (Later W) := ⟨⟨W, Ext.refl _⟩⟩
theorem Later.cell {W : World} (x : Later W) {p : Addr} {v : Value} (h : W.cell? p = some v) : x.w.cell? p = some v := x.ext.cell h (by simp)
theorem Later.blk {W : World} (x : Later W) {g : Nat} {t : TypeId} {cs : Array Value} (h : Blk W g t cs) : Blk x.w g t cs := h.ext x.ext (by simp)
/-- A region that draws its order, whose operations only read and whose calls only make new memory and answer plain values. -/
theorem wp_region_later_lit {P : Program} {id : Nat} {Q : Exit → Act → World → Prop} {a : Act} {w : World} {l : List Oper} (hm : P.follows .mixedOrders = true) (hB : Region.lexB .any l.toArray = true)
    (h : wpQuiet P l.toArray (fun w' => ∃ x : Later w, w' = x.w) (fun a' => ∀ w', (∃ x : Later w, w' = x.w) → Q .normal a' w') l a) : (Code.region id l.toArray true).wp P Q a w :=
  wp_region_quiet (C := fun w' => ∃ x : Later w, w' = x.w) hm hB ⟨⟨_, (Still.drewN w 1).ext⟩, rfl⟩ (by simpa using h)
theorem Later.call {P : Program} {f : FuncId} {args : Array Value} {W : World} {x : Later W} {v : Value} (h : Calls P f args x.w fun e w' => e = .returned v ∧ Ext [] x.w w') :
    Calls P f args x.w fun e w'' => e = .returned v ∧ ∃ y : Later W, w'' = y.w :=
  h.mono fun _ w' ⟨he, hx⟩ => ⟨he, ⟨w', x.ext.trans hx (by simp)⟩, rfl⟩
theorem Later.call_same {P : Program} {f : FuncId} {args : Array Value} {W : World} {x : Later W} {v : Value} (h : Calls P f args x.w fun e w' => e = .returned v ∧ x.w = w') :
    Calls P f args x.w fun e w'' => e = .returned v ∧ ∃ y : Later W, w'' = y.w :=
  h.mono fun _ _ ⟨he, hx⟩ => ⟨he, x, hx.symm⟩

theorem results_row_tmp {P : Program} {fn : Func} {p u : Tmp} {ty : TypeId} (h : fn.results = #[.cell p ty, .tmp u]) (tmps : Array Value) (w : World) (g : Nat) (t : TypeId) (cs : Array Value) (fr : Nat × Nat) (d : TypeDesc)
    (hp : tmps.getD p undef = .pointer (some ⟨g, 0, none⟩)) (hg : w.heap[g]? = some (.cells cs t fr))
    (hu : P.underlying ty = some d) (hd : (match d with | .struct _ | .array _ _ => true | _ => false) = true) (hi : (P.info? ty).map (·.size) = some cs.size) :
    (results fn tmps).run P w = .ok (.tuple #[.agg cs, tmps.getD u undef]) w := by
  have hp' : tmps[p]?.getD undef = .pointer (some ⟨g, 0, none⟩) := by simpa using hp
  simp [results, h, hp', asAddr, run_loadVar_row w g t ty cs fr d hg hu hd hi]

theorem ret_bool {a b : Bool} (h : a = b) : Ending.returned (.bool a) = .returned (.bool b) := by rw [h]
theorem ret_int {k : IntKind} {a b : Int} (h : a = b) : Ending.returned (.int k a) = .returned (.int k b) := by rw [h]
end Go.Proofs.Ytdbeinbgekdnmaa
