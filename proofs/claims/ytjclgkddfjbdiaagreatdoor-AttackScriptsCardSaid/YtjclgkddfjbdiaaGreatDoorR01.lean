/-
  Packed out of the texts: Base, AQ0, EngDraw, Eng, EngOps, EngMem, EngCall, Tab, Flat, Elems.
-/
import Derived.WalkKit
import Derived.WalkSpells
import Derived.WalkLawsBesides
import Derived.ProofKit
import Derived.Lib.Hide
import Derived.Deep.QuietTactic
import Derived.BigQuiet
import Derived.Deep.WholeRow
import Derived.Deep.MidRow
import Derived.Laws.Tables
import Derived.Laws.ResultCell
import Derived.Orders
import Derived.IntWalk
import Derived.Laws.CopyRow
import Derived.Laws.Rows
import Derived.Shelf.Abstract
import Derived.Test.YtjclgkddfjbdiaaGreatDoorProg
import Derived.DeepKeys3
set_option linter.unusedVariables false
set_option maxRecDepth 100000
namespace Go.Proofs.YtjclgkddfjbdiaaGreatDoor
open Go.RowKit
structure Ext (F : List Nat) (w w' : World) : Prop where
  os : w'.os = w.os
  tape : w'.tape = w.tape
  output : w'.output = w.output
  size : w.heap.size ≤ w'.heap.size
  block : ∀ k, k < w.heap.size → k ∉ F → w'.heap[k]? = w.heap[k]?
theorem Ext.refl {F : List Nat} (w : World) : Ext F w w := ⟨rfl, rfl, rfl, Nat.le_refl _, fun _ _ _ => rfl⟩
theorem Ext.trans {F : List Nat} {a b c : World} (h : Ext F a b) {G : List Nat} (k : Ext G b c) (hG : ∀ x ∈ G, x ∈ F ∨ a.heap.size ≤ x) : Ext F a c :=
  ⟨k.os.trans h.os, k.tape.trans h.tape, k.output.trans h.output, Nat.le_trans h.size k.size, fun i hi hn => by
    have h1 := h.size
    rw [k.block i (by omega) (fun hx => by rcases hG i hx with h2 | h2 <;> first | exact hn h2 | omega), h.block i hi hn]⟩
theorem Ext.mono {F G : List Nat} {a b : World} (h : Ext F a b) (hG : ∀ x ∈ F, x ∈ G ∨ a.heap.size ≤ x) : Ext G a b :=
  ⟨h.os, h.tape, h.output, h.size, fun i hi hn => h.block i hi (fun hx => by rcases hG i hx with h2 | h2 <;> first | exact hn h2 | omega)⟩
theorem Ext.below {w w' : World} (h : Ext [] w w') : Below w.heap.size w w' := ⟨h.os, h.tape, h.output, h.size, fun k hk => h.block k hk (by simp)⟩
theorem Ext.drew {F : List Nat} {a w : World} (h : Ext F a w) : Ext F a w.drew := ⟨h.os, h.tape, h.output, h.size, h.block⟩
theorem Ext.alloc {F : List Nat} {a w : World} (h : Ext F a w) (o : Obj) : Ext F a (w.alloc o) :=
  ⟨h.os, h.tape, h.output, Nat.le_trans h.size (by simp), fun k hk hn => by
    have := h.size
    rw [Below.heap_alloc _ _ _ (by omega), h.block k hk hn]⟩
theorem Ext.setCell {F : List Nat} {a w : World} (h : Ext F a w) {p : Addr} (hp : p.block ∈ F ∨ a.heap.size ≤ p.block) (u : Value) : Ext F a (w.setCell p u) :=
  ⟨h.os, h.tape, h.output, Nat.le_trans h.size (by simp [World.setCell]), fun k hk hn => by
    have hne : k ≠ p.block := by
      rintro rfl
      rcases hp with h2 | h2 <;> first | exact hn h2 | omega
    rw [Below.heap_setCell _ _ _ _ hne, h.block k hk hn]⟩
theorem Ext.setRow {F : List Nat} {a w : World} (h : Ext F a w) {g : Nat} (hp : g ∈ F ∨ a.heap.size ≤ g) (cs : Array Value) : Ext F a (w.setRow g cs) :=
  ⟨h.os, h.tape, h.output, Nat.le_trans h.size (by simp [World.setRow]), fun k hk hn => by
    have hne : g ≠ k := by
      rintro rfl
      rcases hp with h2 | h2 <;> first | exact hn h2 | omega
    have : (w.setRow g cs).heap[k]? = w.heap[k]? := by simp [World.setRow, Array.getElem?_modify, hne]
    rw [this, h.block k hk hn]⟩
theorem Ext.cell {F : List Nat} {w w' : World} (h : Ext F w w') {p : Addr} {v : Value} (hv : w.cell? p = some v) (hp : p.block ∉ F) : w'.cell? p = some v := by
  have hlt : p.block < w.heap.size := by
    rcases Nat.lt_or_ge p.block w.heap.size with h1 | h1
    · exact h1
    · simp [World.cell?, Array.getElem?_eq_none h1] at hv
  rw [← hv]
  exact World.cell?_of_block (w := w) (h.block p.block hlt hp)
structure Still (w w' : World) : Prop where
  os : w'.os = w.os
  tape : w'.tape = w.tape
  output : w'.output = w.output
  heap : w'.heap = w.heap
theorem Still.refl (w : World) : Still w w := ⟨rfl, rfl, rfl, rfl⟩
theorem Still.drewN (w : World) (n : Nat) : Still w (w.drewN n) := ⟨rfl, rfl, rfl, rfl⟩
theorem Still.trans {a b c : World} (h : Still a b) (k : Still b c) : Still a c := ⟨k.os.trans h.os, k.tape.trans h.tape, k.output.trans h.output, k.heap.trans h.heap⟩
theorem Still.symm {a b : World} (h : Still a b) : Still b a := ⟨h.os.symm, h.tape.symm, h.output.symm, h.heap.symm⟩
theorem Still.ext {w w' : World} (h : Still w w') {F : List Nat} : Ext F w w' := ⟨h.os, h.tape, h.output, by rw [h.heap]; exact Nat.le_refl _, fun k _ _ => by rw [h.heap]⟩
def Blk (w : World) (g : Nat) (t : TypeId) (cs : Array Value) : Prop := w.heap[g]? = some (.cells cs t (0, 0))
section
variable {w w' : World} {g : Nat} {t : TypeId} {cs : Array Value}
theorem Blk.lt (h : Blk w g t cs) : g < w.heap.size := by
  rcases Nat.lt_or_ge g w.heap.size with hlt | hge
  · exact hlt
  · unfold Blk at h; rw [Array.getElem?_eq_none hge] at h; cases h
theorem Blk.cell (h : Blk w g t cs) (i : Nat) : w.cell? ⟨g, i, none⟩ = cs[i]? := cell_of_row w g i cs t (0, 0) h
theorem Blk.frozen (h : Blk w g t cs) (i : Nat) : w.frozen? ⟨g, i, none⟩ = false := by
  unfold Blk at h
  simp [World.frozen?, h]
theorem Blk.new (w : World) (t : TypeId) (cs : Array Value) : Blk (w.alloc (.cells cs t)) w.heap.size t cs := heap_alloc_new w _
theorem Blk.drew (h : Blk w g t cs) : Blk w.drew g t cs := h
theorem Blk.alloc (h : Blk w g t cs) (o : Obj) : Blk (w.alloc o) g t cs := (Below.heap_alloc w o g h.lt).trans h
theorem Blk.set_ (h : Blk w g t cs) (i : Nat) (u : Value) : Blk (w.setCell ⟨g, i, none⟩ u) g t (cs.setIfInBounds i u) := by
  unfold Blk at h ⊢
  simp [World.setCell, Array.getElem?_modify, h]
theorem Blk.setRow (h : Blk w g t cs) (cs' : Array Value) : Blk (w.setRow g cs') g t cs' := setRow_heap w g cs cs' t (0, 0) h
theorem Blk.ext {F : List Nat} (h : Blk w g t cs) (hb : Ext F w w') (hg : g ∉ F) : Blk w' g t cs := (hb.block g h.lt hg).trans h
end
def Row (w : World) (A : Option Addr) (xs : List Value) : Prop := xs ≠ [] → ∃ b off : Nat, A = some ⟨b, off, none⟩ ∧ ∀ j u, xs[j]? = some u → w.cell? ⟨b, off + j, none⟩ = some u
theorem Row.nil_ (w : World) (A : Option Addr) : Row w A [] := fun h => absurd rfl h
theorem Row.ext {F : List Nat} {w w' : World} {A : Option Addr} {xs : List Value} (h : Row w A xs) (hb : Ext F w w') (hF : ∀ ad, A = some ad → ad.block ∉ F) : Row w' A xs := by
  intro hn
  obtain ⟨b, off, rfl, hc⟩ := h hn
  exact ⟨b, off, rfl, fun j u hu => hb.cell (p := ⟨b, off + j, none⟩) (hc j u hu) (hF ⟨b, off, none⟩ rfl)⟩
theorem Row.ext0 {w w' : World} {A : Option Addr} {xs : List Value} (h : Row w A xs) (hb : Ext [] w w') : Row w' A xs := h.ext hb (by simp)
section
variable {P : Program} {ops : Array Oper} {rest : List Oper} {o : Oper} {a : Act} {w : World} {Q : Exit → Act → World → Prop}
theorem cB_ (o : Oper) (h : wpList P ops Q (o :: rest) a w) : wpList P ops Q (o :: rest) a w := h
theorem a5_ (hg : o.guard = none) (v : Value) (w' : World) (h : (execOp a.eval o).run P w = .ok (.value v) w') (k : wpList P ops Q rest (a.put o.dst v) w') : wpList P ops Q (o :: rest) a w :=
  wpList_plain hg fun K hK => by unfold Oper.wp; rw [h]; exact hK _ _ k
theorem ee_ (hg : o.guard = none) (ty : TypeId) (x y : Operand) (ho : o.op = .store ty x y) (w0 : World) (t : TypeId) (c c' : Array Value) (hx : a.eval x = .pointer (some ⟨w0.heap.size, 0, none⟩)) (hy : a.eval y = .agg c')
    (hw : w = w0.alloc (.cells c t)) (hi : (P.info? ty).map (·.size) = some c'.size) (hs : c.size = c'.size) (h1 : c'.all (·.oneCell') = true)
    (k : wpList P ops Q rest (a.put o.dst undef) (w0.alloc (.cells c' t))) : wpList P ops Q (o :: rest) a w := by
  subst hw
  refine wpList_store_row hg ty x y ho w0.heap.size c' hx hy t c (heap_alloc_new w0 _) hi hs h1 ?_
  rw [World.setRow_alloc_new]; exact k
end
structure Later (W : World) where
  w : World
  ext : Ext [] W w
instance Later.some_ (W : World) : Nonempty (Later W) := ⟨⟨W, Ext.refl _⟩⟩
theorem Later.blk {W : World} (x : Later W) {g : Nat} {t : TypeId} {cs : Array Value} (h : Blk W g t cs) : Blk x.w g t cs := h.ext x.ext (by simp)
theorem bF_ {P : Program} {id : Nat} {Q : Exit → Act → World → Prop} {a : Act} {w : World} {l : List Oper} (hm : P.follows .mixedOrders = true) (hB : Region.lexB .any l.toArray = true)
    (h : wpQuiet P l.toArray (fun w' => ∃ x : Later w, w' = x.w) (fun a' => ∀ w', (∃ x : Later w, w' = x.w) → Q .normal a' w') l a) : (Code.region id l.toArray true).wp P Q a w :=
  wp_region_quiet (C := fun w' => ∃ x : Later w, w' = x.w) hm hB ⟨⟨_, (Still.drewN w 1).ext⟩, rfl⟩ (by simpa using h)
theorem Later.call {P : Program} {f : FuncId} {args : Array Value} {W : World} {x : Later W} {v : Value} (h : Calls P f args x.w fun e w' => e = .returned v ∧ Ext [] x.w w') :
    Calls P f args x.w fun e w'' => e = .returned v ∧ ∃ y : Later W, w'' = y.w :=
  h.mono fun _ w' ⟨he, hx⟩ => ⟨he, ⟨w', x.ext.trans hx (by simp)⟩, rfl⟩
theorem if_ {a b : Bool} (h : a = b) : Ending.returned (.bool a) = .returned (.bool b) := by rw [h]
theorem m0_ {α : Type _} {a : α} {l : List α} : a ∈ a :: l := List.mem_cons_self
theorem m1_ {α : Type _} {a b : α} {l : List α} (h : a ∈ l) : a ∈ b :: l := List.mem_cons_of_mem _ h
theorem lb_ {a b : Nat} (h : Nat.ble a b = true) : a ≤ b := Nat.le_of_ble_eq_true h
section
variable {α : Type _} {a b c d e f g h i j k : α} {l : List α} {q : Prop}
theorem i0_ : a ∈ a :: l := List.mem_cons_self
theorem i1_ : a ∈ b :: a :: l := List.mem_cons_of_mem _ i0_
theorem i2_ : a ∈ b :: c :: a :: l := List.mem_cons_of_mem _ i1_
theorem i3_ : a ∈ b :: c :: d :: a :: l := List.mem_cons_of_mem _ i2_
theorem i4_ : a ∈ b :: c :: d :: e :: a :: l := List.mem_cons_of_mem _ i3_
theorem i5_ : a ∈ b :: c :: d :: e :: f :: a :: l := List.mem_cons_of_mem _ i4_
theorem i6_ : a ∈ b :: c :: d :: e :: f :: g :: a :: l := List.mem_cons_of_mem _ i5_
theorem i7_ : a ∈ b :: c :: d :: e :: f :: g :: h :: a :: l := List.mem_cons_of_mem _ i6_
theorem i8_ : a ∈ b :: c :: d :: e :: f :: g :: h :: i :: a :: l := List.mem_cons_of_mem _ i7_
theorem i9_ : a ∈ b :: c :: d :: e :: f :: g :: h :: i :: j :: a :: l := List.mem_cons_of_mem _ i8_
theorem l0_ : a ∈ a :: l ∨ q := .inl i0_
theorem r0_ : q ∨ a ∈ a :: l := .inr i0_
theorem l1_ : a ∈ b :: a :: l ∨ q := .inl i1_
theorem r1_ : q ∨ a ∈ b :: a :: l := .inr i1_
theorem l2_ : a ∈ b :: c :: a :: l ∨ q := .inl i2_
theorem r2_ : q ∨ a ∈ b :: c :: a :: l := .inr i2_
theorem l3_ : a ∈ b :: c :: d :: a :: l ∨ q := .inl i3_
theorem r3_ : q ∨ a ∈ b :: c :: d :: a :: l := .inr i3_
theorem l4_ : a ∈ b :: c :: d :: e :: a :: l ∨ q := .inl i4_
theorem r4_ : q ∨ a ∈ b :: c :: d :: e :: a :: l := .inr i4_
theorem l5_ : a ∈ b :: c :: d :: e :: f :: a :: l ∨ q := .inl i5_
theorem r5_ : q ∨ a ∈ b :: c :: d :: e :: f :: a :: l := .inr i5_
theorem r6_ : q ∨ a ∈ b :: c :: d :: e :: f :: g :: a :: l := .inr i6_
theorem l9_ : a ∈ b :: c :: d :: e :: f :: g :: h :: i :: j :: a :: l ∨ q := .inl i9_
theorem sn_ {l : List α} : [].Sublist l := List.nil_sublist l
theorem sr_ {l : List α} : l.Sublist l := List.Sublist.refl l
theorem sc_ {a : α} {l r : List α} (h : l.Sublist r) : (a :: l).Sublist (a :: r) := h.cons_cons a
theorem sk_ {a : α} {l r : List α} (h : l.Sublist r) : l.Sublist (a :: r) := h.cons a
end
section
variable {P : Program} {ops : Array Oper}
def NoExit : Exit → Act → World → Prop := fun _ _ _ => False
theorem Oper.wp_of_noExit {o : Oper} {a : Act} {w : World} {K : Act → World → Prop} {Q : Exit → Act → World → Prop} (h : o.wp P a w K NoExit) : o.wp P a w K Q := by
  unfold Oper.wp at *
  generalize (execOp a.eval o).run P w = r at *
  cases r with
  | ok n w' =>
    cases n <;> simp only [Oper.upon] at h ⊢ <;> first
      | exact h
      | exact Calls.mono h (fun e w'' he => by
          cases e with
          | returned v => exact he
          | panicked c => exact he.elim
          | outgrown => obtain ⟨_, _, h0⟩ := he; exact h0.elim)
  | halt x w' => cases x <;> simp only [Oper.upon] at h ⊢; exact h.elim
theorem b1_ {i : Nat} {a : Act} {w : World} {K : Act → World → Prop} {Q : Exit → Act → World → Prop} (h : wpOp P ops NoExit i K a w) : wpOp P ops Q i K a w := by
  unfold wpOp at *
  split
  · rename_i ho; simp only [ho] at h; exact h
  · rename_i o ho
    simp only [ho] at h
    split
    · rename_i hw
      simp only [hw, if_true] at h
      rcases h with h | ⟨_, _, _, h⟩
      · exact .inl (Oper.wp_of_noExit h)
      · exact h.elim
    · rename_i hw; simp only [hw] at h; exact h
def anyD (P : Program) (ops : Array Oper) (D : World → Prop) (Q : Act → World → Prop) : Nat → Array Bool → Act → World → Prop
  | 0, listed, a, w => Region.ready .any ops listed = [] ∧ Q a w
  | fuel + 1, listed, a, w => (Region.ready .any ops listed = [] → Q a w) ∧
      ∀ i ∈ Region.ready .any ops listed, wpOp P ops NoExit i (fun a' w' => D w' ∧ anyD P ops D Q fuel (listed.setIfInBounds i true) a' w') a w
theorem anyD.wpAny {D : World → Prop} {Q : Exit → Act → World → Prop} : ∀ (fuel : Nat) (listed : Array Bool) (a : Act) (w : World),
    anyD P ops D (Q .normal) fuel listed a w → wpAny P .any ops Q fuel listed a w
  | 0, _, _, _, h => h
  | fuel + 1, _, _, _, h => ⟨h.1, fun i hi => b1_ (wpOp_mono (fun a' w' h3 => anyD.wpAny fuel _ a' w' h3.2) (h.2 i hi))⟩
theorem anyD.mono {D D' : World → Prop} {Q : Act → World → Prop} (hD : ∀ w, D' w → D w) : ∀ (fuel : Nat) (listed : Array Bool) (a : Act) (w : World),
    anyD P ops D' Q fuel listed a w → anyD P ops D Q fuel listed a w
  | 0, _, _, _, h => h
  | fuel + 1, _, _, _, h => ⟨h.1, fun i hi => wpOp_mono (fun a' w' h3 => ⟨hD _ h3.1, anyD.mono hD fuel _ a' w' h3.2⟩) (h.2 i hi)⟩
def YieldsD (P : Program) (ops : Array Oper) (D : World → Prop) (o : Oper) (v : Value) (a : Act) : Prop :=
  (Region.wanted o (yielded ops a.tmps) = true ∧ ∀ w, D w → (execOp a.eval o).run P w = .ok (.value v) w) ∨
  (Region.wanted o (yielded ops a.tmps) = false ∧ v = undef)
theorem YieldsD.of_same {D : World → Prop} {o : Oper} {v : Value} {a a' : Act} (hy : YieldsD P ops D o v a) (he : execOp a'.eval o = execOp a.eval o)
    (hw : Region.wanted o (yielded ops a'.tmps) = Region.wanted o (yielded ops a.tmps)) : YieldsD P ops D o v a' := by
  unfold YieldsD at *
  rw [he, hw]
  exact hy
theorem YieldsD.wpOp {D : World → Prop} {i : Nat} {o : Oper} {v : Value} {a : Act} (hi : ops[i]? = some o) (hy : YieldsD P ops D o v a)
    {K : Act → World → Prop} {w : World} (hw : D w) (h : K (a.put o.dst v) w) : wpOp P ops NoExit i K a w := by
  unfold Go.wpOp
  simp only [hi]
  rcases hy with ⟨h1, hv⟩ | ⟨h1, rfl⟩
  · simp only [h1, if_true, Oper.wp, hv w hw, Oper.upon]; exact .inl h
  · simp only [h1, Bool.false_eq_true, if_false]; exact h
theorem es_ {D : World → Prop} {j : Nat} {oi oj : Oper} {v : Value} (hj : ops[j]? = some oj) (hap : oi.apart ops oj = true)
    (hsi : ∀ cs b, oi.op ≠ .select cs b) (hsj : ∀ cs b, oj.op ≠ .select cs b) {K : Act → World → Prop} {a : Act} {w : World}
    (hy : YieldsD P ops D oi v a) (h : wpOp P ops NoExit j K (a.put oi.dst v) w) :
    wpOp P ops NoExit j (fun a' w' => YieldsD P ops D oi v a' ∧ K (a'.put oi.dst v) w') a w := by
  obtain ⟨h1, h2, h3⟩ := Oper.apart_spec hap
  have keep : ∀ (a : Act), YieldsD P ops D oi v a → ∀ u, YieldsD P ops D oi v (a.put oj.dst u) := fun a hy u =>
    hy.of_same (execOp_put oi hsi a oj.dst u h3) (wanted_put oi a oj.dst u h3)
  have keepD : ∀ d, YieldsD P ops D oi v { a with defers := d :: a.defers } := fun d => hy.of_same rfl rfl
  unfold wpOp at *
  simp only [hj] at *
  rw [wanted_put oj a oi.dst v h1] at h
  split
  · rename_i hw
    simp only [hw, if_true] at h
    rcases h with h | ⟨_, _, _, h0⟩
    case inr => exact h0.elim
    refine .inl ?_
    unfold Oper.wp at *
    rw [execOp_put oj hsj a oi.dst v h1] at h
    generalize (execOp a.eval oj).run P w = r at *
    cases r with
    | ok n w' =>
      cases n <;> simp only [Oper.upon] at h ⊢
      case value u => exact ⟨keep a hy u, by rw [← Act.put_comm a v u h2]; exact h⟩
      case skip => exact ⟨keep a hy _, by rw [← Act.put_comm a v undef h2]; exact h⟩
      case defer d =>
        refine ⟨keep _ (keepD d) _, ?_⟩
        rw [← Act.put_comm _ v undef h2, ← Act.put_defers]
        exact h
      case enter f args =>
        refine Calls.mono h fun e w'' he => ?_
        cases e with
        | returned u => exact ⟨keep a hy u, by rw [← Act.put_comm a v u h2]; exact he⟩
        | panicked c => exact he
        | outgrown => exact he
      case row row args => exact Rows.mono h fun u w'' he => ⟨keep a hy u, by rw [← Act.put_comm a v u h2]; exact he⟩
    | halt x w' =>
      cases x <;> simp only [Oper.upon] at h ⊢
      case panic u => exact h
  · rename_i hw
    simp only [hw] at h
    exact ⟨keep a hy _, by rw [← Act.put_comm a v undef h2]; exact h⟩
theorem jz_ {D : World → Prop} {Q : Act → World → Prop} {i : Nat} {oi : Oper} {v : Value} (hi : ops[i]? = some oi) (hsel : ∀ (j : Nat) (o : Oper) cs b, ops[j]? = some o → o.op ≠ .select cs b) :
    ∀ (fuel : Nat) (listed : Array Bool) (a : Act) (w : World), D w →
      (∀ j oj, ops[j]? = some oj → j ≠ i → listed.getD j true = false → (∀ e ∈ oj.after, Region.binds .any e = true → e.on ≠ i) → oi.apart ops oj = true) →
      i ∈ Region.ready .any ops listed → YieldsD P ops D oi v a →
      anyD P ops D Q fuel (listed.setIfInBounds i true) (a.put oi.dst v) w → anyD P ops D Q (fuel + 1) listed a w := by
  intro fuel
  induction fuel with
  | zero =>
    intro listed a w hDw _ hr hy H
    refine ⟨fun h => (by rw [h] at hr; cases hr), fun j hj => ?_⟩
    by_cases hji : j = i
    · subst hji; exact hy.wpOp hi hDw ⟨hDw, H⟩
    · have := ready_mono hj hji
      rw [H.1] at this
      cases this
  | succ fuel ih =>
    intro listed a w hDw hfree hr hy H
    refine ⟨fun h => (by rw [h] at hr; cases hr), fun j hj => ?_⟩
    by_cases hji : j = i
    · subst hji; exact hy.wpOp hi hDw ⟨hDw, H⟩
    · have h1 := H.2 j (ready_mono hj hji)
      obtain ⟨hjun, oj, hoj, hall⟩ := mem_ready.1 hj
      have hnot : ∀ e ∈ oj.after, Region.binds .any e = true → e.on ≠ i := fun e he hb heq => by
        have h1 := hall e he hb
        have h0 := (mem_ready.1 hr).1
        rw [heq] at h1
        rcases Nat.lt_or_ge i listed.size with h' | h'
        · simp [h'] at h0 h1; rw [h0] at h1; cases h1
        · simp [Array.getElem?_eq_none h'] at h1
      have h2 := es_ hoj (hfree j oj hoj hji hjun hnot) (fun cs b => hsel i oi cs b hi) (fun cs b => hsel j oj cs b hoj) hy h1
      have hfree' : ∀ k ok, ops[k]? = some ok → k ≠ i → (listed.setIfInBounds j true).getD k true = false →
          (∀ e ∈ ok.after, Region.binds .any e = true → e.on ≠ i) → oi.apart ops ok = true := fun k ok hk hki hun hno => by
        refine hfree k ok hk hki ?_ hno
        by_cases hjk : j = k
        · subst hjk; exact hjun
        · rw [getD_set_ne true hjk] at hun; exact hun
      refine wpOp_mono (fun a' w' h3 => ⟨h3.2.1, ih (listed.setIfInBounds j true) a' w' h3.2.1 hfree' (ready_mono hr (Ne.symm hji)) h3.1 ?_⟩) h2
      rw [Array.setIfInBounds_comm _ _ hji]
      exact h3.2.2
inductive Plan where
  | nil
  | q (i : Nat) (k : Plan)
  | e (i : Nat) (k : Plan)
  | two (i j : Nat) (k h : Plan)
  | three (i j l : Nat) (k h m : Plan)
  | four (i j l r : Nat) (k h m s : Plan)
def planW (P : Program) (ops : Array Oper) (Q : Act → World → Prop) : Plan → (World → Prop) → Act → World → Prop
  | .nil, _, a, w => Q a w
  | .q i k, D, a, w => ∃ o v, ops[i]? = some o ∧ YieldsD P ops D o v a ∧ planW P ops Q k D (a.put o.dst v) w
  | .e i k, D, a, w => wpOp P ops NoExit i (fun a' w' => ∃ D' : World → Prop, (∀ x, D' x → D x) ∧ D' w' ∧ planW P ops Q k D' a' w') a w
  | .two i j k h, D, a, w => wpOp P ops NoExit i (fun a' w' => ∃ D' : World → Prop, (∀ x, D' x → D x) ∧ D' w' ∧ planW P ops Q k D' a' w') a w ∧
      wpOp P ops NoExit j (fun a' w' => ∃ D' : World → Prop, (∀ x, D' x → D x) ∧ D' w' ∧ planW P ops Q h D' a' w') a w
  | .three i j l k h m, D, a, w => wpOp P ops NoExit i (fun a' w' => ∃ D' : World → Prop, (∀ x, D' x → D x) ∧ D' w' ∧ planW P ops Q k D' a' w') a w ∧ wpOp P ops NoExit j (fun a' w' => ∃ D' : World → Prop, (∀ x, D' x → D x) ∧ D' w' ∧ planW P ops Q h D' a' w') a w ∧ wpOp P ops NoExit l (fun a' w' => ∃ D' : World → Prop, (∀ x, D' x → D x) ∧ D' w' ∧ planW P ops Q m D' a' w') a w
  | .four i j l r k h m s, D, a, w => wpOp P ops NoExit i (fun a' w' => ∃ D' : World → Prop, (∀ x, D' x → D x) ∧ D' w' ∧ planW P ops Q k D' a' w') a w ∧ wpOp P ops NoExit j (fun a' w' => ∃ D' : World → Prop, (∀ x, D' x → D x) ∧ D' w' ∧ planW P ops Q h D' a' w') a w ∧ wpOp P ops NoExit l (fun a' w' => ∃ D' : World → Prop, (∀ x, D' x → D x) ∧ D' w' ∧ planW P ops Q m D' a' w') a w ∧ wpOp P ops NoExit r (fun a' w' => ∃ D' : World → Prop, (∀ x, D' x → D x) ∧ D' w' ∧ planW P ops Q s D' a' w') a w
def planOk (ops : Array Oper) : Nat → Array Bool → Plan → Bool
  | _, listed, .nil => (Region.ready .any ops listed).isEmpty
  | n + 1, listed, .q i k => Region.free .any ops listed i && (Region.ready .any ops listed).contains i && planOk ops n (listed.setIfInBounds i true) k
  | n + 1, listed, .e i k => (Region.ready .any ops listed == [i]) && planOk ops n (listed.setIfInBounds i true) k
  | n + 1, listed, .two i j k h => (Region.ready .any ops listed == [i, j]) && planOk ops n (listed.setIfInBounds i true) k && planOk ops n (listed.setIfInBounds j true) h
  | n + 1, listed, .three i j l k h m => (Region.ready .any ops listed == [i, j, l]) && planOk ops n (listed.setIfInBounds i true) k && planOk ops n (listed.setIfInBounds j true) h && planOk ops n (listed.setIfInBounds l true) m
  | n + 1, listed, .four i j l r k h m s => (Region.ready .any ops listed == [i, j, l, r]) && planOk ops n (listed.setIfInBounds i true) k && planOk ops n (listed.setIfInBounds j true) h && planOk ops n (listed.setIfInBounds l true) m && planOk ops n (listed.setIfInBounds r true) s
  | 0, _, _ => false
theorem planW.anyD {Q : Act → World → Prop} (hs : Region.noSelect ops = true) : ∀ (n : Nat) (ix : Plan) (D : World → Prop) (listed : Array Bool) (a : Act) (w : World), planOk ops n listed ix = true → D w →
    planW P ops Q ix D a w → anyD P ops D Q n listed a w
  | 0, .nil, D, listed, a, w, hok, _, h => ⟨by simpa [planOk] using hok, h⟩
  | n + 1, .nil, D, listed, a, w, hok, _, h => by
    have h0 : Region.ready .any ops listed = [] := by simpa [planOk] using hok
    exact ⟨fun _ => h, fun i hi => by rw [h0] at hi; cases hi⟩
  | n + 1, .q i ix, D, listed, a, w, hok, hD, ⟨o, v, hi, hy, h⟩ => by
    simp only [planOk, Bool.and_eq_true] at hok
    exact jz_ hi (Region.noSelect_spec hs) n listed a w hD (Region.free_spec hi hok.1.1) (by simpa using hok.1.2) hy (planW.anyD hs n ix D _ _ _ hok.2 hD h)
  | n + 1, .e i ix, D, listed, a, w, hok, hD, h => by
    simp only [planOk, Bool.and_eq_true, beq_iff_eq] at hok
    refine ⟨fun h0 => (by rw [hok.1] at h0; cases h0), fun j hj => ?_⟩
    rw [hok.1] at hj
    simp only [List.mem_singleton] at hj
    subst hj
    exact wpOp_mono (fun a' w' ⟨D', hD', hw', h'⟩ => ⟨hD' _ hw', anyD.mono hD' _ _ _ _ (planW.anyD hs n ix D' _ a' w' hok.2 hw' h')⟩) h
  | n + 1, .two i j k m, D, listed, a, w, hok, hD, h => by
    simp only [planOk, Bool.and_eq_true, beq_iff_eq] at hok
    refine ⟨fun h0 => (by rw [hok.1.1] at h0; cases h0), fun r hr => ?_⟩
    rw [hok.1.1] at hr
    simp only [List.mem_cons, List.not_mem_nil, or_false] at hr
    rcases hr with rfl | rfl
    · exact wpOp_mono (fun a' w' ⟨D', hD', hw', h'⟩ => ⟨hD' _ hw', anyD.mono hD' _ _ _ _ (planW.anyD hs n k D' _ a' w' hok.1.2 hw' h')⟩) h.1
    · exact wpOp_mono (fun a' w' ⟨D', hD', hw', h'⟩ => ⟨hD' _ hw', anyD.mono hD' _ _ _ _ (planW.anyD hs n m D' _ a' w' hok.2 hw' h')⟩) h.2
  | n + 1, .three i j l k h0 m, D, listed, a, w, hok, hD, h => by
    simp only [planOk, Bool.and_eq_true, beq_iff_eq] at hok
    refine ⟨fun h0 => (by rw [hok.1.1.1] at h0; cases h0), fun r hr => ?_⟩
    rw [hok.1.1.1] at hr
    simp only [List.mem_cons, List.not_mem_nil, or_false] at hr
    rcases hr with rfl | rfl | rfl
    · exact wpOp_mono (fun a' w' ⟨D', hD', hw', h'⟩ => ⟨hD' _ hw', anyD.mono hD' _ _ _ _ (planW.anyD hs n k D' _ a' w' hok.1.1.2 hw' h')⟩) h.1
    · exact wpOp_mono (fun a' w' ⟨D', hD', hw', h'⟩ => ⟨hD' _ hw', anyD.mono hD' _ _ _ _ (planW.anyD hs n h0 D' _ a' w' hok.1.2 hw' h')⟩) h.2.1
    · exact wpOp_mono (fun a' w' ⟨D', hD', hw', h'⟩ => ⟨hD' _ hw', anyD.mono hD' _ _ _ _ (planW.anyD hs n m D' _ a' w' hok.2 hw' h')⟩) h.2.2
  | n + 1, .four i j l r0 k h0 m s0, D, listed, a, w, hok, hD, h => by
    simp only [planOk, Bool.and_eq_true, beq_iff_eq] at hok
    refine ⟨fun h0 => (by rw [hok.1.1.1.1] at h0; cases h0), fun r hr => ?_⟩
    rw [hok.1.1.1.1] at hr
    simp only [List.mem_cons, List.not_mem_nil, or_false] at hr
    rcases hr with rfl | rfl | rfl | rfl
    · exact wpOp_mono (fun a' w' ⟨D', hD', hw', h'⟩ => ⟨hD' _ hw', anyD.mono hD' _ _ _ _ (planW.anyD hs n k D' _ a' w' hok.1.1.1.2 hw' h')⟩) h.1
    · exact wpOp_mono (fun a' w' ⟨D', hD', hw', h'⟩ => ⟨hD' _ hw', anyD.mono hD' _ _ _ _ (planW.anyD hs n h0 D' _ a' w' hok.1.1.2 hw' h')⟩) h.2.1
    · exact wpOp_mono (fun a' w' ⟨D', hD', hw', h'⟩ => ⟨hD' _ hw', anyD.mono hD' _ _ _ _ (planW.anyD hs n m D' _ a' w' hok.1.2 hw' h')⟩) h.2.2.1
    · exact wpOp_mono (fun a' w' ⟨D', hD', hw', h'⟩ => ⟨hD' _ hw', anyD.mono hD' _ _ _ _ (planW.anyD hs n s0 D' _ a' w' hok.2 hw' h')⟩) h.2.2.2
theorem b0_ {id : Nat} {a : Act} {w : World} {Q : Exit → Act → World → Prop} (D : World → Prop) (ix : Plan) (hm : P.follows .mixedOrders = true)
    (hok : (Region.noSelect ops && planOk ops ops.size (Array.replicate ops.size false) ix) = true) (hD : D w.drew)
    (h : planW P ops (Q .normal) ix D a w.drew) : (Code.region id ops true).wp P Q a w := by
  simp only [Bool.and_eq_true] at hok
  refine wp_region_any hm ?_
  exact anyD.wpAny _ _ _ _ (planW.anyD hok.1 _ ix D _ a _ hok.2 hD h)
end
/-! ### Slots -/
abbrev Slots := List (Nat × Value)
def slot : Slots → Nat → Option Value
  | [], _ => none
  | (i, v) :: l, t => bif Nat.beq i t then some v else slot l t
def look (l : Slots) : Operand → Option Value
  | .tmp t => slot l t
  | .const v => some v
  | .global g => some (.pointer (some ⟨g, 0, none⟩))
  | .func f => some (.func (.func f) #[] #[])
def looks (l : Slots) : List Operand → Option (List Value)
  | [] => some []
  | x :: xs => match look l x, looks l xs with
    | some v, some vs => some (v :: vs)
    | _, _ => none
structure Fr (n : Nat) (a : Act) (l : Slots) : Prop where
  defers : a.defers = []
  size : a.tmps.size = n
  at_ : ∀ t v, slot l t = some v → a.tmps[t]? = some v
section
variable {n : Nat} {a : Act} {l : Slots}
theorem Fr.eval (h : Fr n a l) {x : Operand} {v : Value} (hx : look l x = some v) : a.eval x = v := by
  cases x with
  | tmp t => simp [Act.eval, h.at_ t v hx]
  | const u => simp only [look, Option.some.injEq] at hx; exact hx
  | global g => simp only [look, Option.some.injEq] at hx; exact hx
  | func f => simp only [look, Option.some.injEq] at hx; exact hx
theorem Fr.evals (h : Fr n a l) : ∀ {xs : List Operand} {vs : List Value}, looks l xs = some vs → xs.map a.eval = vs
  | [], vs, hx => by simp [looks] at hx; simp [hx]
  | x :: xs, vs, hx => by
    unfold looks at hx
    cases h1 : look l x with
    | none => simp [h1] at hx
    | some v =>
      cases h2 : looks l xs with
      | none => simp [h1, h2] at hx
      | some us =>
        simp [h1, h2] at hx
        subst hx
        simp [h.eval h1, h.evals h2]
theorem cy_ {d t : Nat} (h : ¬d = t) : Nat.beq d t = false := by
  cases hb : Nat.beq d t with
  | false => rfl
  | true => exact absurd (Nat.eq_of_beq_eq_true hb) h
theorem Fr.put (h : Fr n a l) {d : Nat} (hd : d < n) (v : Value) : Fr n (a.put (some d) v) ((d, v) :: l) := by
  refine ⟨h.defers, by simp [Act.put, h.size], fun t u hu => ?_⟩
  unfold slot at hu
  by_cases hdt : d = t
  · subst hdt
    simp at hu
    subst hu
    simp [Act.put, h.size, hd]
  · have : Nat.beq d t = false := cy_ hdt
    rw [this] at hu
    simp only [Act.put]
    rw [Array.getElem?_setIfInBounds_ne hdt]
    exact h.at_ t u hu
def put? (l : Slots) (d : Option Nat) (v : Value) : Slots := match d with
  | some d => (d, v) :: l
  | none => l
def lt? (d : Option Nat) (n : Nat) : Bool := match d with
  | some d => Nat.blt d n
  | none => true
theorem Fr.put? (h : Fr n a l) {d : Option Nat} (hd : lt? d n = true) (v : Value) : Fr n (a.put d v) (put? l d v) := by
  cases d with
  | none => exact h
  | some d => exact h.put (by simpa [lt?, Nat.blt_eq] using hd) v
def Subs (l : Slots) : Slots → Prop
  | [] => True
  | (t, v) :: r => slot l t = some v ∧ Subs l r
theorem Subs.slot {l : Slots} : ∀ {r : Slots}, Subs l r → ∀ t v, slot r t = some v → Proofs.YtjclgkddfjbdiaaGreatDoor.slot l t = some v
  | [], _, t, v, h => by simp [Proofs.YtjclgkddfjbdiaaGreatDoor.slot] at h
  | (i, u) :: r, hs, t, v, h => by
    unfold Proofs.YtjclgkddfjbdiaaGreatDoor.slot at h
    by_cases hit : i = t
    · subst hit
      simp at h
      subst h
      exact hs.1
    · have : Nat.beq i t = false := cy_ hit
      rw [this] at h
      exact hs.2.slot t v h
theorem Fr.sub (h : Fr n a l) {r : Slots} (hs : Subs l r) : Fr n a r := ⟨h.defers, h.size, fun t v hv => h.at_ t v (hs.slot t v hv)⟩
theorem Fr.split (h : Fr n a l) {t : Nat} {u v : Value} (ht : slot l t = some u) (hv : u = v) : Fr n a ((t, v) :: l) := by
  subst hv
  refine ⟨h.defers, h.size, fun i x hx => ?_⟩
  unfold slot at hx
  by_cases hti : t = i
  · subst hti
    simp at hx
    subst hx
    exact h.at_ _ _ ht
  · rw [cy_ hti] at hx
    exact h.at_ i x hx
def gd (ops : Array Oper) (l : Slots) (o : Oper) : Option Bool := match o.guard with
  | none => some true
  | some (j, want) => match (ops[j]?).bind (·.dst) with
    | some d => match slot l d with
      | some (.bool b) => some (b == want)
      | some (.tuple _) => some false
      | _ => none
    | none => none
theorem Fr.wanted (h : Fr n a l) {ops : Array Oper} {o : Oper} {r : Bool} (hg : gd ops l o = some r) : Region.wanted o (yielded ops a.tmps) = r := by
  unfold gd at hg
  unfold Region.wanted
  cases hgd : o.guard with
  | none => simp [hgd] at hg; show true = r; exact hg.symm
  | some p =>
    obtain ⟨j, want⟩ := p
    simp only [hgd] at hg
    dsimp only
    unfold yielded
    cases hd : (ops[j]?).bind (·.dst) with
    | none => simp [hd] at hg
    | some d =>
      simp only [hd] at hg
      cases hs : slot l d with
      | none => simp [hs] at hg
      | some v =>
        simp only [hs] at hg
        simp only [Option.bind_some, h.at_ d _ hs]
        cases v <;> simp at hg
        · rename_i b
          rw [← hg]
          cases b <;> cases want <;> rfl
        · rw [hg]
          cases want <;> rfl
end
/-! ### Memory -/
structure Pc where
  ids : List Nat
  p : World → Prop
  st : ∀ (F : List Nat) (w w' : World), Ext F w w' → (∀ k ∈ ids, k ∉ F) → p w → p w'
  lt : ∀ w, p w → ∀ k ∈ ids, k < w.heap.size
inductive It where
  | blk (b : Nat) (o : Obj)
  | pc (c : Pc)
abbrev Blks := List It
def It.ids : It → List Nat
  | .blk b _ => [b]
  | .pc c => c.ids
def It.holds (w : World) : It → Prop
  | .blk b o => w.heap[b]? = some o
  | .pc c => c.p w
theorem It.lt {w : World} {x : It} (h : x.holds w) : ∀ k ∈ x.ids, k < w.heap.size := by
  cases x with
  | blk b o =>
    intro k hk
    simp only [It.ids, List.mem_singleton] at hk
    subst hk
    simp only [It.holds] at h
    rcases Nat.lt_or_ge k w.heap.size with h1 | h1
    · exact h1
    · rw [Array.getElem?_eq_none h1] at h; cases h
  | pc c => exact c.lt w h
theorem It.st {w w' : World} {F : List Nat} {x : It} (h : x.holds w) (hx : Ext F w w') (hF : ∀ k ∈ x.ids, k ∉ F) : x.holds w' := by
  cases x with
  | blk b o => exact (hx.block b (It.lt h b (by simp [It.ids])) (hF b (by simp [It.ids]))).trans h
  | pc c => exact c.st F w w' hx hF h
structure Dt where
  d : List Nat → World → Prop
  grow : ∀ (K K' : List Nat) (w : World), (∀ k ∈ K', k ∈ K ∨ w.heap.size ≤ k) → d K w → d K' w
  st : ∀ (F K : List Nat) (w w' : World), Ext F w w' → (∀ k ∈ F, k ∈ K ∨ w.heap.size ≤ k) → d K w → d K w'
def row (t : TypeId) (cs : List Value) : Obj := .cells cs.toArray t (0, 0)
structure Mem (S : List (World × List Nat)) (σ : Blks) (ρ : List Dt) (w : World) : Prop where
  ext : ∀ s ∈ S, Ext s.2 s.1 w
  out : ∀ x ∈ σ, ∀ k ∈ x.ids, ∀ s ∈ S, k ∈ s.2 ∨ s.1.heap.size ≤ k
  nodup : (σ.flatMap It.ids).Nodup
  hold : ∀ x ∈ σ, x.holds w
  dat : ∀ x ∈ ρ, x.d (σ.flatMap It.ids) w
inductive Upd (x y : It) : Blks → Blks → Prop
  | here {σ : Blks} : Upd x y (x :: σ) (y :: σ)
  | there {z : It} {σ τ : Blks} (h : Upd x y σ τ) : Upd x y (z :: σ) (z :: τ)
section
variable {S : List (World × List Nat)} {σ τ : Blks} {ρ : List Dt} {w w' : World} {x y : It}
theorem Mem.holds (h : Mem S σ ρ w) {b : Nat} {o : Obj} (hb : It.blk b o ∈ σ) : w.heap[b]? = some o := h.hold _ hb
theorem Mem.lt (h : Mem S σ ρ w) {z : It} (hz : z ∈ σ) : ∀ k ∈ z.ids, k < w.heap.size := It.lt (h.hold z hz)
theorem Upd.mem (h : Upd x y σ τ) : x ∈ σ := by
  induction h with
  | here => exact List.mem_cons_self
  | there _ ih => exact List.mem_cons_of_mem _ ih
theorem Upd.mem' (h : Upd x y σ τ) : y ∈ τ := by
  induction h with
  | here => exact List.mem_cons_self
  | there _ ih => exact List.mem_cons_of_mem _ ih
theorem Upd.other (h : Upd x y σ τ) (hn : (σ.flatMap It.ids).Nodup) : ∀ z ∈ τ, z = y ∨ (z ∈ σ ∧ ∀ k ∈ z.ids, k ∉ x.ids) := by
  induction h with
  | here =>
    rename_i σ
    simp only [List.flatMap_cons, List.nodup_append] at hn
    intro z hz
    rcases List.mem_cons.1 hz with rfl | hz
    · exact .inl rfl
    · exact .inr ⟨List.mem_cons_of_mem _ hz, fun k hk hx => hn.2.2 k hx k (List.mem_flatMap.2 ⟨z, hz, hk⟩) rfl⟩
  | there hu ih =>
    rename_i u σ τ
    simp only [List.flatMap_cons, List.nodup_append] at hn
    intro z hz
    rcases List.mem_cons.1 hz with rfl | hz
    · exact .inr ⟨List.mem_cons_self, fun k hk hx => hn.2.2 k hk k (List.mem_flatMap.2 ⟨x, hu.mem, hx⟩) rfl⟩
    · rcases ih hn.2.1 z hz with h1 | ⟨h1, h2⟩
      · exact .inl h1
      · exact .inr ⟨List.mem_cons_of_mem _ h1, h2⟩
theorem Upd.nodup (h : Upd x y σ τ) (hn : (σ.flatMap It.ids).Nodup) (hy : y.ids.Nodup) (hid : ∀ z ∈ σ, ∀ k ∈ z.ids, k ∈ y.ids → k ∈ x.ids) : (τ.flatMap It.ids).Nodup := by
  induction h with
  | here =>
    rename_i σ
    simp only [List.flatMap_cons, List.nodup_append] at hn ⊢
    refine ⟨hy, hn.2.1, fun a ha b hb he => ?_⟩
    subst he
    obtain ⟨z, hz, hk⟩ := List.mem_flatMap.1 hb
    exact hn.2.2 a (hid z (List.mem_cons_of_mem _ hz) a hk ha) a hb rfl
  | there hu ih =>
    rename_i u σ τ
    simp only [List.flatMap_cons, List.nodup_append] at hn ⊢
    refine ⟨hn.1, ih hn.2.1 (fun z hz => hid z (List.mem_cons_of_mem _ hz)), fun a ha b hb he => ?_⟩
    subst he
    obtain ⟨z, hz, hk⟩ := List.mem_flatMap.1 hb
    rcases hu.other hn.2.1 z hz with rfl | ⟨h1, _⟩
    · have := hid u List.mem_cons_self a ha hk
      exact hn.2.2 a ha a (List.mem_flatMap.2 ⟨x, hu.mem, this⟩) rfl
    · exact hn.2.2 a ha a (List.mem_flatMap.2 ⟨z, h1, hk⟩) rfl
theorem Mem.upd (h : Mem S σ ρ w) (u : Upd x y σ τ) (hx : Ext x.ids w w') (hy : y.holds w') (hn : y.ids.Nodup) (hid : ∀ k ∈ y.ids, k ∈ x.ids ∨ w.heap.size ≤ k) : Mem S τ ρ w' := by
  refine ⟨fun s hs => (h.ext s hs).trans hx fun k hk => h.out x u.mem k hk s hs, fun z hz k hk s hs => ?_, u.nodup h.nodup hn fun z hz k hk hky => ?_, fun z hz => ?_, fun z hz => ?_⟩
  · rcases u.other h.nodup z hz with rfl | ⟨h1, _⟩
    · rcases hid k hk with h2 | h2
      · exact h.out x u.mem k h2 s hs
      · exact .inr (Nat.le_trans (h.ext s hs).size h2)
    · exact h.out z h1 k hk s hs
  · rcases hid k hky with h2 | h2
    · exact h2
    · exact absurd (h.lt hz k hk) (by omega)
  · rcases u.other h.nodup z hz with rfl | ⟨h1, h2⟩
    · exact hy
    · exact It.st (h.hold z h1) hx h2
  · have h1 := z.grow _ (τ.flatMap It.ids ++ x.ids) w (fun k hk => ?_) (h.dat z hz)
    · exact z.grow _ _ w' (fun k hk => .inl (List.mem_append_left _ hk)) (z.st _ _ _ _ hx (fun k hk => .inl (List.mem_append_right _ hk)) h1)
    · rcases List.mem_append.1 hk with hk | hk
      · obtain ⟨v, hv, hkv⟩ := List.mem_flatMap.1 hk
        rcases u.other h.nodup v hv with rfl | ⟨h2, _⟩
        · rcases hid k hkv with h2 | h2
          · exact .inl (List.mem_flatMap.2 ⟨x, u.mem, h2⟩)
          · exact .inr h2
        · exact .inl (List.mem_flatMap.2 ⟨v, h2, hkv⟩)
      · exact .inl (List.mem_flatMap.2 ⟨x, u.mem, hk⟩)
theorem Mem.updB (h : Mem S σ ρ w) {b : Nat} {o o' : Obj} (u : Upd (.blk b o) (.blk b o') σ τ) (hx : Ext [b] w w') (hb : w'.heap[b]? = some o') : Mem S τ ρ w' :=
  h.upd u hx hb (by simp [It.ids]) (fun _ hk => .inl hk)
theorem Mem.same (h : Mem S σ ρ w) (hx : Ext [] w w') : Mem S σ ρ w' :=
  ⟨fun s hs => (h.ext s hs).trans hx (by simp), h.out, h.nodup, fun z hz => It.st (h.hold z hz) hx (by simp), fun z hz => z.st _ _ _ _ hx (by simp) (h.dat z hz)⟩
theorem Mem.drew (h : Mem S σ ρ w) : Mem S σ ρ w.drew := h.same (Still.ext (Still.drewN w 1))
theorem Mem.new (h : Mem S σ ρ w) (hx : Ext [] w w') (hy : y.holds w') (hn : y.ids.Nodup) (hid : ∀ k ∈ y.ids, w.heap.size ≤ k) : Mem S (y :: σ) ρ w' := by
  have h' := h.same hx
  refine ⟨h'.ext, fun z hz k hk s hs => ?_, ?_, fun z hz => ?_, fun z hz => z.st _ _ _ _ hx (by simp) (z.grow _ _ w (fun k hk => ?_) (h.dat z hz))⟩
  · rcases List.mem_cons.1 hz with rfl | hz
    · exact .inr (Nat.le_trans (h.ext s hs).size (hid k hk))
    · exact h.out z hz k hk s hs
  · simp only [List.flatMap_cons, List.nodup_append]
    refine ⟨hn, h.nodup, fun a ha b hb he => ?_⟩
    subst he
    obtain ⟨z, hz, hk⟩ := List.mem_flatMap.1 hb
    have := h.lt hz a hk
    have := hid a ha
    omega
  · rcases List.mem_cons.1 hz with rfl | hz
    · exact hy
    · exact h'.hold z hz
  · rw [List.flatMap_cons] at hk
    rcases List.mem_append.1 hk with hk | hk
    · exact .inr (hid k hk)
    · exact .inl hk
theorem Mem.alloc (h : Mem S σ ρ w) (o : Obj) : Mem S (.blk w.heap.size o :: σ) ρ (w.alloc o) :=
  h.new ((Ext.refl w).alloc o) (heap_alloc_new w o) (by simp [It.ids]) (by simp [It.ids])
theorem h8_ {τ σ : Blks} (h : τ.Sublist σ) : (τ.flatMap It.ids).Sublist (σ.flatMap It.ids) := by
  induction h with
  | slnil => simp
  | cons a _ ih => simp only [List.flatMap_cons]; exact ih.trans (List.sublist_append_right _ _)
  | cons_cons a _ ih => simp only [List.flatMap_cons]; exact (List.Sublist.refl _).append ih
theorem Mem.sub {T : List (World × List Nat)} (h : Mem S σ ρ w) (hT : ∀ s ∈ T, s ∈ S) (hs : τ.Sublist σ) : Mem T τ ρ w :=
  ⟨fun s hs' => h.ext s (hT s hs'), fun x hx k hk s hs' => h.out x (hs.subset hx) k hk s (hT s hs'), h.nodup.sublist (h8_ hs), fun x hx => h.hold x (hs.subset hx), fun x hx => x.grow _ _ w (fun _ hk => .inl ((h8_ hs).subset hk)) (h.dat x hx)⟩
theorem Mem.begin (w : World) (σ : Blks) (hn : (σ.flatMap It.ids).Nodup) (h : ∀ x ∈ σ, x.holds w) : Mem [(w, σ.flatMap It.ids)] σ [] w :=
  ⟨fun s hs => by rw [List.mem_singleton] at hs; subst hs; exact Ext.refl w, fun x hx k hk s hs => by rw [List.mem_singleton] at hs; subst hs; exact .inl (List.mem_flatMap.2 ⟨x, hx, hk⟩), hn, h, by simp⟩
theorem Mem.data (h : Mem S σ ρ w) {z : Dt} (hz : z ∈ ρ) : z.d (σ.flatMap It.ids) w := h.dat z hz
theorem Mem.add (h : Mem S σ ρ w) {z : Dt} (hz : z.d (σ.flatMap It.ids) w) : Mem S σ (z :: ρ) w :=
  ⟨h.ext, h.out, h.nodup, h.hold, fun x hx => by
    rcases List.mem_cons.1 hx with rfl | hx
    · exact hz
    · exact h.dat x hx⟩
theorem Mem.less {ρ' : List Dt} (h : Mem S σ ρ w) (hs : ∀ x ∈ ρ', x ∈ ρ) : Mem S σ ρ' w := ⟨h.ext, h.out, h.nodup, h.hold, fun x hx => h.dat x (hs x hx)⟩
theorem Mem.start (w : World) : Mem [(w, [])] [] [] w := Mem.begin w [] (by simp) (by simp)
end
/-! ### Judgements -/
section
variable {P : Program} {n : Nat} {ops : Array Oper} {l : Slots} {C D : World → Prop} {Q : Exit → Act → World → Prop} {o : Oper} {rest : List Oper} {ix : Plan}
def SL (P : Program) (n : Nat) (ops : Array Oper) (rest : List Oper) (l : Slots) (C : World → Prop) (Q : Exit → Act → World → Prop) : Prop := ∀ a w, Fr n a l → C w → wpList P ops Q rest a w
def SC (P : Program) (n : Nat) (c : Code) (l : Slots) (C : World → Prop) (Q : Exit → Act → World → Prop) : Prop := ∀ a w, Fr n a l → C w → c.wp P Q a w
def SE (n : Nat) (e : Exit) (l : Slots) (C : World → Prop) (Q : Exit → Act → World → Prop) : Prop := ∀ a w, Fr n a l → C w → Q e a w
def SX (P : Program) (n : Nat) (ops : Array Oper) (ix : Plan) (D : World → Prop) (l : Slots) (C : World → Prop) (Q : Exit → Act → World → Prop) : Prop := ∀ a w, Fr n a l → C w → planW P ops (Q .normal) ix D a w
def Val (P : Program) (n : Nat) (l : Slots) (D : World → Prop) (o : Oper) (v : Value) : Prop := ∀ a w, Fr n a l → D w → (execOp a.eval o).run P w = .ok (.value v) w
def Eff (P : Program) (n : Nat) (l : Slots) (C : World → Prop) (o : Oper) (R : Value → (World → Prop) → Prop) : Prop := ∀ a w, Fr n a l → C w → ∃ v w' C', R v C' ∧ C' w' ∧
  ((execOp a.eval o).run P w = .ok (.value v) w' ∨ (v = undef ∧ (execOp a.eval o).run P w = .ok .skip w'))
theorem d_ (h : SE n .normal l C Q) : SL P n ops [] l C Q := h
theorem i_ {v : Value} (hv : Val P n l C o v) (hg : gd ops l o = some true) (hd : lt? o.dst n = true) (k : SL P n ops rest (put? l o.dst v) C Q) : SL P n ops (o :: rest) l C Q := fun a w hf hw =>
  wpList_step fun K hK => by
    rw [if_pos (hf.wanted hg)]
    unfold Oper.wp
    rw [hv a w hf hw]
    exact hK _ _ (k _ _ (hf.put? hd v) hw)
theorem by_ {R : Value → (World → Prop) → Prop} (hv : Eff P n l C o R) (hg : gd ops l o = some true) (hd : lt? o.dst n = true) (k : ∀ v C', R v C' → SL P n ops rest (put? l o.dst v) C' Q) : SL P n ops (o :: rest) l C Q := fun a w hf hw =>
  wpList_step fun K hK => by
    rw [if_pos (hf.wanted hg)]
    unfold Oper.wp
    obtain ⟨v, w', C', hR, hC', hr | ⟨rfl, hr⟩⟩ := hv a w hf hw
    · rw [hr]; exact hK _ _ (k _ _ hR _ _ (hf.put? hd v) hC')
    · rw [hr]; exact hK _ _ (k _ _ hR _ _ (hf.put? hd undef) hC')
theorem aH_ (hg : gd ops l o = some false) (hd : lt? o.dst n = true) (k : SL P n ops rest (put? l o.dst undef) C Q) : SL P n ops (o :: rest) l C Q := fun a w hf hw =>
  wpList_step fun K hK => by
    rw [if_neg (by rw [hf.wanted hg]; simp)]
    exact hK _ _ (k _ _ (hf.put? hd undef) hw)
theorem b5_ {t : Nat} {b : Bool} (hs : slot l t = some (.bool b)) (ht : b = true → SL P n ops rest ((t, .bool true) :: l) C Q) (hf : b = false → SL P n ops rest ((t, .bool false) :: l) C Q) : SL P n ops rest l C Q := fun a w hfr hw => by
  cases b with
  | true => exact ht rfl a w (hfr.split hs rfl) hw
  | false => exact hf rfl a w (hfr.split hs rfl) hw
theorem A_ {t : Nat} {p : Prop} [hp : Decidable p] (hs : slot l t = some (.bool (decide p))) (ht : p → SL P n ops rest ((t, .bool true) :: l) C Q) (hf : ¬p → SL P n ops rest ((t, .bool false) :: l) C Q) : SL P n ops rest l C Q :=
  b5_ hs (fun h => ht (of_decide_eq_true h)) (fun h => hf (of_decide_eq_false h))
def goesIn (P : Program) (f : FuncId) : Bool := match P.funcs[f]? with
  | some fn => fn.body.isSome && !(fn.name == "runtime.NumGoroutine")
  | none => false
theorem ci_ {f : FuncId} {xs : List Operand} {ats : Array TypeId} {vals : List Value} {d : Option Nat} {ty : TypeId} {pos : String} {aft : Array Edge} {g : Option (Nat × Bool)} {ρ : Operand → Value} {w : World}
    (hb : goesIn P f = true) (hv : xs.map ρ = vals) (hf : ρ (.func f) = .func (.func f) #[] #[] := by rfl) : (execOp ρ ⟨d, .call { callee := .value (.func f), args := xs.toArray, argTypes := ats }, ty, pos, aft, g⟩).run P w = .ok (.enter f vals.toArray) w := by
  unfold goesIn at hb
  cases hfn : P.funcs[f]? with
  | none => simp [hfn] at hb
  | some fn =>
    simp only [hfn, Bool.and_eq_true, Bool.not_eq_true', beq_eq_false_iff_ne, Option.isSome_iff_ne_none] at hb
    obtain ⟨c, hn⟩ := Option.ne_none_iff_exists'.1 hb.1
    simp [execOp, resolve, hf, Deferred.ofValue, invoke, callFunc, program, Sem.run_bind, Sem.run, hfn, hb.2, hn, hv, Result.andThen]
theorem Y_ {f : FuncId} {xs : List Operand} {ats : Array TypeId} {vals : List Value} {d : Option Nat} {ty : TypeId} {pos : String} {aft : Array Edge} {g : Option (Nat × Bool)}
    (hb : goesIn P f = true) (hv : looks l xs = some vals)
    (hg : gd ops l ⟨d, .call { callee := .value (.func f), args := xs.toArray, argTypes := ats }, ty, pos, aft, g⟩ = some true) (hd : lt? d n = true)
    (hc : ∀ w, C w → Calls P f vals.toArray w fun e w' => ∃ v C', e = .returned v ∧ C' w' ∧ SL P n ops rest (put? l d v) C' Q) :
    SL P n ops (⟨d, .call { callee := .value (.func f), args := xs.toArray, argTypes := ats }, ty, pos, aft, g⟩ :: rest) l C Q := fun a w hf hw =>
  wpList_step fun K hK => by
    rw [if_pos (hf.wanted hg)]
    unfold Oper.wp
    rw [ci_ hb (hf.evals hv), Oper.upon_enter]
    refine (hc w hw).mono fun e w' ⟨v, C', he, hC', hk⟩ => ?_
    subst he
    exact hK _ _ (hk _ _ (hf.put? hd v) hC')
/-! ### Plans -/
theorem F_ (h : SE n .normal l C Q) : SX P n ops .nil D l C Q := h
theorem bo_ {i : Nat} {v : Value} (hi : ops[i]? = some o) (hv : Val P n l D o v) (hg : gd ops l o = some true) (hd : lt? o.dst n = true) (k : SX P n ops ix D (put? l o.dst v) C Q) : SX P n ops (.q i ix) D l C Q := fun a _ hf hw =>
  ⟨o, v, hi, .inl ⟨hf.wanted hg, fun w' hw' => hv a w' hf hw'⟩, k _ _ (hf.put? hd v) hw⟩
theorem d3_ {i : Nat} (hi : ops[i]? = some o) (hg : gd ops l o = some false) (hd : lt? o.dst n = true) (k : SX P n ops ix D (put? l o.dst undef) C Q) : SX P n ops (.q i ix) D l C Q := fun _ _ hf hw =>
  ⟨o, undef, hi, .inr ⟨hf.wanted hg, rfl⟩, k _ _ (hf.put? hd undef) hw⟩
theorem bi_ {i : Nat} (hCD : ∀ w, C w → D w) (hi : ops[i]? = some o) (hg : gd ops l o = some false) (hd : lt? o.dst n = true) (k : SX P n ops ix D (put? l o.dst undef) C Q) : SX P n ops (.e i ix) D l C Q := fun a w hf hw => by
  unfold planW wpOp
  simp only [hi, hf.wanted hg]
  exact ⟨D, fun _ h => h, hCD w hw, k _ _ (hf.put? hd undef) hw⟩
theorem ha_ {i : Nat} {R : Value → (World → Prop) → Prop} (hi : ops[i]? = some o) (hv : Eff P n l C o R) (hg : gd ops l o = some true) (hd : lt? o.dst n = true)
    (k : ∀ v C', R v C' → ∃ D' : World → Prop, (∀ w, D' w → D w) ∧ (∀ w, C' w → D' w) ∧ SX P n ops ix D' (put? l o.dst v) C' Q) : SX P n ops (.e i ix) D l C Q := fun a w hf hw => by
  unfold planW wpOp
  simp only [hi, hf.wanted hg, if_true]
  refine .inl ?_
  unfold Oper.wp
  obtain ⟨v, w', C', hR, hC', hr | ⟨rfl, hr⟩⟩ := hv a w hf hw
  · rw [hr]
    obtain ⟨D', h1, h2, h3⟩ := k _ _ hR
    exact ⟨D', h1, h2 _ hC', h3 _ _ (hf.put? hd v) hC'⟩
  · rw [hr]
    obtain ⟨D', h1, h2, h3⟩ := k _ _ hR
    exact ⟨D', h1, h2 _ hC', h3 _ _ (hf.put? hd undef) hC'⟩
theorem D_ {i : Nat} {f : FuncId} {xs : List Operand} {ats : Array TypeId} {vals : List Value} {d : Option Nat} {ty : TypeId} {pos : String} {aft : Array Edge} {g : Option (Nat × Bool)}
    (hi : ops[i]? = some ⟨d, .call { callee := .value (.func f), args := xs.toArray, argTypes := ats }, ty, pos, aft, g⟩)
    (hb : goesIn P f = true) (hv : looks l xs = some vals)
    (hg : gd ops l ⟨d, .call { callee := .value (.func f), args := xs.toArray, argTypes := ats }, ty, pos, aft, g⟩ = some true) (hd : lt? d n = true)
    (hc : ∀ w, C w → Calls P f vals.toArray w fun e w' => ∃ v C', e = .returned v ∧ C' w' ∧ ∃ D' : World → Prop, (∀ w, D' w → D w) ∧ (∀ w, C' w → D' w) ∧ SX P n ops ix D' (put? l d v) C' Q) :
    SX P n ops (.e i ix) D l C Q := fun a w hf hw => by
  unfold planW wpOp
  simp only [hi, hf.wanted hg, if_true]
  refine .inl ?_
  unfold Oper.wp
  rw [ci_ hb (hf.evals hv), Oper.upon_enter]
  refine (hc w hw).mono fun e w' ⟨v, C', he, hC', D', h1, h2, h3⟩ => ?_
  subst he
  exact ⟨D', h1, h2 _ hC', h3 _ _ (hf.put? hd v) hC'⟩
theorem aV_ {i j : Nat} {k h : Plan} (h1 : SX P n ops (.e i k) D l C Q) (h2 : SX P n ops (.e j h) D l C Q) : SX P n ops (.two i j k h) D l C Q := fun a w hf hw => ⟨h1 a w hf hw, h2 a w hf hw⟩
theorem gd_ {t : Nat} {b : Bool} (hs : slot l t = some (.bool b)) (ht : b = true → SX P n ops ix D ((t, .bool true) :: l) C Q) (hf : b = false → SX P n ops ix D ((t, .bool false) :: l) C Q) : SX P n ops ix D l C Q := fun a w hfr hw => by
  cases b with
  | true => exact ht rfl a w (hfr.split hs rfl) hw
  | false => exact hf rfl a w (hfr.split hs rfl) hw
theorem aK_ {t : Nat} {p : Prop} [hp : Decidable p] (hs : slot l t = some (.bool (decide p))) (ht : p → SX P n ops ix D ((t, .bool true) :: l) C Q) (hf : ¬p → SX P n ops ix D ((t, .bool false) :: l) C Q) : SX P n ops ix D l C Q :=
  gd_ hs (fun h => ht (of_decide_eq_true h)) (fun h => hf (of_decide_eq_false h))
theorem Q_ {id : Nat} (D : World → Prop) (ix : Plan) (hm : P.follows .mixedOrders = true)
    (hok : (Region.noSelect ops && planOk ops ops.size (Array.replicate ops.size false) ix) = true)
    (hCD : ∀ w, C w → D w) (hdr : ∀ w, C w → C w.drew) (h : SX P n ops ix D l C Q) : SC P n (.region id ops true) l C Q := fun a w hf hw =>
  b0_ D ix hm hok (hCD _ (hdr w hw)) (h a _ hf (hdr w hw))
/-! ### Codes -/
section
variable {x y : Code} {id : Nat} {F : Exit → Act → World → Prop}
theorem c_ (h : SC P n x l C (Exit.then (y.wp P Q) Q)) : SC P n (.seq x y) l C Q := fun a w hf hw => wp_seq (h a w hf hw)
theorem a_ {os : List Oper} (h : SL P n os.toArray os l C Q) : SC P n (.region id os.toArray false) l C Q := fun a w hf hw => wp_region_lit (h a w hf hw)
theorem o_ (h : SE n .normal l C Q) : SC P n .skip l C Q := fun a w hf hw => wp_skip (h a w hf hw)
theorem N_ (h : SE n (.exit id) l C Q) : SC P n (.exit id) l C Q := fun a w hf hw => wp_exit (h a w hf hw)
theorem k_ (h : SE n .ret l C Q) : SC P n .ret l C Q := fun a w hf hw => wp_ret (h a w hf hw)
theorem u_ (h : SC P n x l C (Exit.inBlock id Q)) : SC P n (.block id x) l C Q := fun a w hf hw => wp_block (h a w hf hw)
theorem ar_ {c : Operand} {b : Bool} (hc : look l c = some (.bool b)) (ht : b = true → SC P n x l C Q) (hf : b = false → SC P n y l C Q) : SC P n (.cond c x y) l C Q := fun a w hfr hw =>
  wp_cond_split (hfr.eval hc) (fun h => ht h a w hfr hw) (fun h => hf h a w hfr hw)
theorem l_ {c : Operand} {p : Prop} [Decidable p] (hc : look l c = some (.bool (decide p))) (ht : p → SC P n x l C Q) (hf : ¬p → SC P n y l C Q) : SC P n (.cond c x y) l C Q :=
  ar_ hc (fun h => ht (of_decide_eq_true h)) (fun h => hf (of_decide_eq_false h))
theorem U_ {c : Operand} (hc : look l c = some (.bool true)) (ht : SC P n x l C Q) : SC P n (.cond c x y) l C Q := ar_ hc (fun _ => ht) (fun h => by cases h)
theorem O_ {c : Operand} (hc : look l c = some (.bool false)) (hf : SC P n y l C Q) : SC P n (.cond c x y) l C Q := ar_ hc (fun h => by cases h) (fun _ => hf)
theorem b_ (h : SC P n y l C Q) : SE n .normal l C (Exit.then (y.wp P Q) Q) := h
theorem j_ {e : Exit} {G : Act → World → Prop} (he : e ≠ .normal) (h : SE n e l C Q) : SE n e l C (Exit.then G Q) := fun a w hf hw => by
  cases e <;> first | exact h a w hf hw | exact absurd rfl he
theorem w_ (h : SE n .normal l C Q) : SE n .normal l C (Exit.inBlock id Q) := h
theorem M_ (h : SE n .normal l C Q) : SE n (.exit id) l C (Exit.inBlock id Q) := fun a w hf hw => by
  show if id = id then _ else _
  rw [if_pos rfl]; exact h a w hf hw
theorem S_ (h : SE n .ret l C Q) : SE n .ret l C (Exit.inBlock id Q) := h
theorem P_ {ι : Type} (L : ι → Slots) (K : ι → World → Prop) (m : ι → Nat) (x₀ : ι) (hs : Subs l (L x₀)) (hw₀ : ∀ w, C w → K x₀ w)
    (round : ∀ z, SC P n x (L z) (K z) (Exit.then (fun a w => ∃ u, m u < m z ∧ Fr n a (L u) ∧ K u w) Q)) : SC P n (.loop x) l C Q := by
  intro a0 w0 hf0 hw0 b kk cs
  have key : ∀ k z, m z = k → ∀ a w, Fr n a (L z) → K z w →
      ∃ e a' w', Q e a' w' ∧ Arrives P (lone (b.at a (.code x :: .inLoop x :: kk)) cs w) b kk cs e a' w' := by
    intro k
    induction k using Nat.strongRecOn with
    | _ k ih =>
      intro z hz a w hf hw
      obtain ⟨e, a₁, w₁, hq, harr⟩ := round z a w hf hw b (.inLoop x :: kk) cs
      cases e with
      | normal =>
        obtain ⟨u, hu, hf₁, hw₁⟩ := hq
        obtain ⟨e₂, a₂, w₂, hq₂, harr₂⟩ := ih (m u) (hz ▸ hu) u rfl a₁ w₁ hf₁ hw₁
        exact ⟨e₂, a₂, w₂, hq₂, .of_steps (Steps.trans harr (.one step_inLoop)) harr₂⟩
      | exit id => exact ⟨_, a₁, w₁, hq, .pass (x := .inLoop x) rfl (fun _ _ => .inl (by simp)) harr⟩
      | goto l => exact ⟨_, a₁, w₁, hq, .pass (x := .inLoop x) rfl (fun _ _ => .inl (by simp)) harr⟩
      | ret => exact ⟨_, a₁, w₁, hq, .pass (x := .inLoop x) rfl (fun _ _ => .inl (by simp)) harr⟩
      | panic ch => exact ⟨_, a₁, w₁, hq, .pass (x := .inLoop x) rfl (fun _ _ => .inl (by simp)) harr⟩
      | outgrown => exact ⟨_, a₁, w₁, hq, .pass (x := .inLoop x) rfl (fun _ _ => .inl (by simp)) harr⟩
  obtain ⟨e, a', w', hq, harr⟩ := key _ x₀ rfl a0 w0 (hf0.sub hs) (hw₀ w0 hw0)
  exact ⟨e, a', w', hq, .of_steps (.one step_loop) harr⟩
end
end
def lo : IntKind → Int
  | .i8 => -128 | .i16 => -32768 | .i32 => -2147483648 | .i64 => -9223372036854775808
  | _ => 0
def hi : IntKind → Int
  | .i8 => 127 | .i16 => 32767 | .i32 => 2147483647 | .i64 => 9223372036854775807
  | .u8 => 255 | .u16 => 65535 | .u32 => 4294967295 | .u64 => 18446744073709551615
def InR (k : IntKind) (z : Int) : Prop := lo k ≤ z ∧ z ≤ hi k
theorem c6_ {k : IntKind} {z : Int} (h : InR k z) : k.wrap z = z := by
  obtain ⟨h1, h2⟩ := h
  cases k <;> simp [IntKind.wrap, IntKind.bits, IntKind.signed, lo, hi] at * <;> omega
section
variable {P : Program} {n : Nat} {l : Slots} {D : World → Prop} {x y z : Operand} {d : Option Nat} {ty t t' : TypeId} {pos : String} {aft : Array Edge} {g : Option (Nat × Bool)} {v u : Value} {k k' : IntKind} {a b : Int}
theorem s_ (hx : look l x = some v) : Val P n l D ⟨d, .move x, ty, pos, aft, g⟩ v := fun A w hf _ => by simp [execOp, hf.eval hx]
theorem n_ (hx : look l x = some v) : Val P n l D ⟨d, .assign x, ty, pos, aft, g⟩ v := fun A w hf _ => by simp [execOp, hf.eval hx]
theorem ab_ (hc : look l x = some (.bool true)) (hy : look l y = some v) : Val P n l D ⟨d, .pick x y z, ty, pos, aft, g⟩ v := fun A w hf _ => by simp [execOp, hf.eval hc, hf.eval hy, asBool]
theorem an_ (hc : look l x = some (.bool false)) (hz : look l z = some v) : Val P n l D ⟨d, .pick x y z, ty, pos, aft, g⟩ v := fun A w hf _ => by simp [execOp, hf.eval hc, hf.eval hz, asBool]
theorem y_ (hx : look l x = some (.int k a)) (hy : look l y = some (.int k b)) (h : InR k (a + b)) : Val P n l D ⟨d, .binOp .add t x y t', ty, pos, aft, g⟩ (.int k (a + b)) := fun A w hf _ => by
  simp [execOp, hf.eval hx, hf.eval hy, eqGuard, binOp, Op.intArith, c6_ h]
theorem cp_ (hx : look l x = some (.int k a)) (hy : look l y = some (.int k b)) (h : InR k (a - b)) : Val P n l D ⟨d, .binOp .sub t x y t', ty, pos, aft, g⟩ (.int k (a - b)) := fun A w hf _ => by
  simp [execOp, hf.eval hx, hf.eval hy, eqGuard, binOp, Op.intArith, c6_ h]
theorem bm_ (hx : look l x = some (.int k a)) (hy : look l y = some (.int k b)) (h : InR k (a * b)) : Val P n l D ⟨d, .binOp .mul t x y t', ty, pos, aft, g⟩ (.int k (a * b)) := fun A w hf _ => by
  simp [execOp, hf.eval hx, hf.eval hy, eqGuard, binOp, Op.intArith, c6_ h]
theorem c0_ (hx : look l x = some (.int k a)) (hy : look l y = some (.int k b)) (h : 0 ≤ a ∧ 0 < b) : Val P n l D ⟨d, .binOp .rem t x y t', ty, pos, aft, g⟩ (.int k (a % b)) := fun A w hf _ => by
  have h0 : b ≠ 0 := by omega
  simp [execOp, hf.eval hx, hf.eval hy, eqGuard, binOp, Op.intDiv, h0, Int.tmod_eq_emod_of_nonneg h.1]
theorem en_ (hx : look l x = some (.int k a)) (hy : look l y = some (.int k b)) (h : 0 ≤ a ∧ 0 < b) (hr : InR k (a / b)) : Val P n l D ⟨d, .binOp .quo t x y t', ty, pos, aft, g⟩ (.int k (a / b)) := fun A w hf _ => by
  have h0 : b ≠ 0 := by omega
  simp [execOp, hf.eval hx, hf.eval hy, eqGuard, binOp, Op.intDiv, h0, Int.tdiv_eq_ediv_of_nonneg h.1, c6_ hr]
theorem bU_ {op : BinOp} {r : Int} (hx : look l x = some (.int k a)) (hy : look l y = some (.int k b)) (h : ∀ w, (Op.intBits op k a b).run P w = .ok (.int k r) w) (ho : (op matches .and | .or | .xor | .andNot) = true) : Val P n l D ⟨d, .binOp op t x y t', ty, pos, aft, g⟩ (.int k r) := fun A w hf _ => by
  cases op <;> simp at ho <;> simp [execOp, hf.eval hx, hf.eval hy, eqGuard, binOp, h w]
theorem dE_ (hx : look l x = some (.int k a)) (hy : look l y = some (.int k' b)) (h : 0 ≤ b) : Val P n l D ⟨d, .binOp .shl t x y t', ty, pos, aft, g⟩ (.int k (k.wrap (a * 2 ^ (min b.toNat k.bits)))) := fun A w hf _ => by
  have h0 : ¬ b < 0 := by omega
  simp [execOp, hf.eval hx, hf.eval hy, eqGuard, binOp, Op.shift, h0]
theorem f7_ (hx : look l x = some (.int k a)) (hy : look l y = some (.int k' b)) (h : 0 ≤ b) : Val P n l D ⟨d, .binOp .shr t x y t', ty, pos, aft, g⟩ (.int k (a.fdiv (2 ^ (min b.toNat k.bits)))) := fun A w hf _ => by
  have h0 : ¬ b < 0 := by omega
  simp [execOp, hf.eval hx, hf.eval hy, eqGuard, binOp, Op.shift, h0]
theorem d2_ (hx : look l x = some (.int k a)) (hy : look l y = some (.int k b)) : Val P n l D ⟨d, .binOp .eql t x y t', ty, pos, aft, g⟩ (.bool (decide (a = b))) := fun A w hf _ => by
  simp [execOp, hf.eval hx, hf.eval hy, eqGuard, binOp, Op.intCmp]; rfl
theorem dY_ (hx : look l x = some (.int k a)) (hy : look l y = some (.int k b)) : Val P n l D ⟨d, .binOp .neq t x y t', ty, pos, aft, g⟩ (.bool (decide (a ≠ b))) := fun A w hf _ => by
  simp [execOp, hf.eval hx, hf.eval hy, eqGuard, binOp, Op.intCmp]; rfl
theorem a9_ (hx : look l x = some (.int k a)) (hy : look l y = some (.int k b)) : Val P n l D ⟨d, .binOp .lss t x y t', ty, pos, aft, g⟩ (.bool (decide (a < b))) := fun A w hf _ => by
  simp [execOp, hf.eval hx, hf.eval hy, eqGuard, binOp, Op.intCmp]
theorem hU_ (hx : look l x = some (.int k a)) (hy : look l y = some (.int k b)) : Val P n l D ⟨d, .binOp .leq t x y t', ty, pos, aft, g⟩ (.bool (decide (a ≤ b))) := fun A w hf _ => by
  simp [execOp, hf.eval hx, hf.eval hy, eqGuard, binOp, Op.intCmp]
theorem ba_ (hx : look l x = some (.int k a)) (hy : look l y = some (.int k b)) : Val P n l D ⟨d, .binOp .gtr t x y t', ty, pos, aft, g⟩ (.bool (decide (b < a))) := fun A w hf _ => by
  simp [execOp, hf.eval hx, hf.eval hy, eqGuard, binOp, Op.intCmp]
theorem d1_ (hx : look l x = some (.int k a)) (hy : look l y = some (.int k b)) : Val P n l D ⟨d, .binOp .geq t x y t', ty, pos, aft, g⟩ (.bool (decide (b ≤ a))) := fun A w hf _ => by
  simp [execOp, hf.eval hx, hf.eval hy, eqGuard, binOp, Op.intCmp]
theorem iJ_ {s r : ByteArray} : (s.toList == r.toList) = decide (s = r) := by
  rw [Bool.eq_iff_iff]
  simp only [ByteArray.toList_eq, beq_iff_eq, decide_eq_true_eq]
  constructor
  · intro h
    obtain ⟨a⟩ := s; obtain ⟨b⟩ := r
    simp at h; rw [h]
  · rintro rfl; rfl
theorem lp_ {s r : ByteArray} (hx : look l x = some (.string s)) (hy : look l y = some (.string r)) : Val P n l D ⟨d, .binOp .eql t x y t', ty, pos, aft, g⟩ (.bool (decide (s = r))) := fun A w hf _ => by
  simp only [execOp, hf.eval hx, hf.eval hy, eqGuard, binOp, Op.stringOp, iJ_]; rfl
theorem f9_ {s r : ByteArray} (hx : look l x = some (.string s)) (hy : look l y = some (.string r)) : Val P n l D ⟨d, .binOp .neq t x y t', ty, pos, aft, g⟩ (.bool (decide (s ≠ r))) := fun A w hf _ => by
  have : (decide (s ≠ r)) = !decide (s = r) := by simp
  simp only [execOp, hf.eval hx, hf.eval hy, eqGuard, binOp, Op.stringOp, iJ_, this]; rfl
theorem dF_ {s r : ByteArray} (hx : look l x = some (.string s)) (hy : look l y = some (.string r)) (h : (s.size : Int) + r.size ≤ 9223372036854775807) : Val P n l D ⟨d, .binOp .add t x y t', ty, pos, aft, g⟩ (.string (s ++ r)) := fun A w hf _ => by
  simp [execOp, hf.eval hx, hf.eval hy, eqGuard, binOp, Op.stringOp, h]
theorem aD_ {p : Option Addr} (hx : look l x = some (.pointer p)) (hy : look l y = some (.pointer none)) (ht : P.underlying t = some (.pointer (P.pointee t))) : Val P n l D ⟨d, .binOp .eql t x y t', ty, pos, aft, g⟩ (.bool p.isNone) := fun A w hf _ => by
  simp [execOp, hf.eval hx, hf.eval hy, eqGuard, run_eql_pointer_nil w t p ht]
theorem bK_ {p : Option Addr} (hx : look l x = some (.pointer p)) (hy : look l y = some (.pointer none)) (ht : P.underlying t = some (.pointer (P.pointee t))) : Val P n l D ⟨d, .binOp .neq t x y t', ty, pos, aft, g⟩ (.bool (!p.isNone)) := fun A w hf _ => by
  simp [execOp, hf.eval hx, hf.eval hy, eqGuard, run_neq_pointer_nil w t p ht]
theorem lq_ {p q : Bool} (hx : look l x = some (.bool p)) (hy : look l y = some (.bool q)) (ht : P.underlying t = some .bool) : Val P n l D ⟨d, .binOp .eql t x y t', ty, pos, aft, g⟩ (.bool (p == q)) := fun A w hf _ => by
  simp [execOp, hf.eval hx, hf.eval hy, eqGuard, run_eql_bool w t p q ht]
theorem e7_ {X Y : Array Value} (hx : look l x = some (.agg X)) (hy : look l y = some (.agg Y)) (hg : P.eqGuardType P.depth t = false) (h : ∀ w, (binOp .eql t (.agg X) (.agg Y)).run P w = .ok v w) : Val P n l D ⟨d, .binOp .eql t x y t', ty, pos, aft, g⟩ v := fun A w hf _ => by
  simp only [execOp, hf.eval hx, hf.eval hy, eqGuard]
  simp [Sem.run_bind, program, Sem.run, hg, h w]
theorem hT_ {X Y : Array Value} (hx : look l x = some (.agg X)) (hy : look l y = some (.agg Y)) (hg : P.eqGuardType P.depth t = false) (h : ∀ w, (binOp .neq t (.agg X) (.agg Y)).run P w = .ok v w) : Val P n l D ⟨d, .binOp .neq t x y t', ty, pos, aft, g⟩ v := fun A w hf _ => by
  simp only [execOp, hf.eval hx, hf.eval hy, eqGuard]
  simp [Sem.run_bind, program, Sem.run, hg, h w]
theorem bz_ {p : Prop} [Decidable p] (hx : look l x = some (.bool (decide p))) : Val P n l D ⟨d, .unOp .not t x, ty, pos, aft, g⟩ (.bool (decide ¬p)) := fun A w hf _ => by
  simp [execOp, hf.eval hx, Op.unary]
theorem aL_ {p : Bool} (hx : look l x = some (.bool p)) : Val P n l D ⟨d, .unOp .not t x, ty, pos, aft, g⟩ (.bool !p) := fun A w hf _ => by
  simp [execOp, hf.eval hx, Op.unary]
theorem a4_ (hx : look l x = some (.bool true)) : Val P n l D ⟨d, .unOp .not t x, ty, pos, aft, g⟩ (.bool false) := fun A w hf _ => by
  simp [execOp, hf.eval hx, Op.unary]
theorem eo_ (hx : look l x = some (.bool false)) : Val P n l D ⟨d, .unOp .not t x, ty, pos, aft, g⟩ (.bool true) := fun A w hf _ => by
  simp [execOp, hf.eval hx, Op.unary]
theorem R_ {k2 : IntKind} (hx : look l x = some (.int k a)) (ht : P.underlying t' = some (.int k2)) (hs : (P.underlying t).isSome = true) (h : InR k2 a) : Val P n l D ⟨d, .convert t t' x, ty, pos, aft, g⟩ (.int k2 a) := fun A w hf _ => by
  obtain ⟨ds, hs⟩ := Option.isSome_iff_exists.1 hs
  simp [execOp, hf.eval hx, convert, run_underlying hs, run_underlying ht, Sem.run_bind, Conv.intToInt, c6_ h]
theorem cc_ {k2 : IntKind} (hx : look l x = some (.int k a)) (ht : P.underlying t' = some (.int k2)) (hs : (P.underlying t).isSome = true) : Val P n l D ⟨d, .convert t t' x, ty, pos, aft, g⟩ (.int k2 (k2.wrap a)) := fun A w hf _ => by
  obtain ⟨ds, hs⟩ := Option.isSome_iff_exists.1 hs
  simp [execOp, hf.eval hx, convert, run_underlying hs, run_underlying ht, Sem.run_bind, Conv.intToInt]
theorem br_ {vs : Array Value} {i : Nat} (hx : look l x = some (.tuple vs)) (hi : vs[i]? = some v) : Val P n l D ⟨d, .extract x i, ty, pos, aft, g⟩ v := fun A w hf _ => by
  simp [execOp, hf.eval hx, Instr.extract, hi]
theorem ag_ {p : Addr} (hx : look l x = some (.pointer (some p))) : Val P n l D ⟨d, .nilCheck x, ty, pos, aft, g⟩ (.pointer (some p)) := fun A w hf _ => by
  simp [execOp, hf.eval hx]
theorem H_ {A' : Option Addr} {m c : Nat} {e : TypeId} (hx : look l x = some (.slice A' m c)) (ht : P.underlying t = some (.slice e)) : Val P n l D ⟨d, .call { callee := .builtin .len, args := #[x], argTypes := #[t] }, ty, pos, aft, g⟩ (.int .i64 m) := fun A w hf _ => by
  simp [execOp, resolve, invoke, builtin, Builtin.len_, hf.eval hx, run_underlying ht, Sem.run_bind, Result.andThen, goInt]
theorem cJ_ {s : ByteArray} (hx : look l x = some (.string s)) (ht : P.underlying t = some .string) : Val P n l D ⟨d, .call { callee := .builtin .len, args := #[x], argTypes := #[t] }, ty, pos, aft, g⟩ (.int .i64 s.size) := fun A w hf _ => by
  simp [execOp, resolve, invoke, builtin, Builtin.len_, hf.eval hx, run_underlying ht, Sem.run_bind, Result.andThen, goInt]
theorem ep_ (hx : look l x = some (.int k a)) (hy : look l y = some (.int k b)) : Val P n l D ⟨d, .call { callee := .builtin .min, args := #[x, y], argTypes := #[t, t'] }, ty, pos, aft, g⟩ (.int k (min a b)) := fun A w hf _ => by
  have hm : (if b < a then b else a) = min a b := by omega
  simp [execOp, resolve, invoke, builtin, Builtin.min_, Builtin.min2, hf.eval hx, hf.eval hy, List.foldlM, hm]
theorem V_ {fn : Fn} {fs cs : List Operand} {us vs : List Value} (hf' : looks l fs = some us) (hc : looks l cs = some vs) : Val P n l D ⟨d, .makeFunc fn fs.toArray cs.toArray, ty, pos, aft, g⟩ (.func fn us.toArray vs.toArray) := fun A w hf _ => by
  simp [execOp, Instr.makeFunc, hf.evals hf', hf.evals hc]
end
/-! ### What is known of the types -/
inductive TK where
  | one
  | struct (fs : List (Nat × Nat))
  | array (n e : Nat)
structure TI where
  size : Nat
  k : TK
  zero : List Value
def ti : List (Nat × TI) → Nat → Option TI
  | [], _ => none
  | (i, x) :: l, t => bif Nat.beq i t then some x else ti l t
def leafEq : Value → Value → Bool
  | .bool a, .bool b => a == b
  | .int k a, .int j b => k == j && a == b
  | .string a, .string b => a.data.toList == b.data.toList
  | .pointer none, .pointer none => true
  | .slice none a b, .slice none c d => a == c && b == d
  | .map none, .map none => true
  | .nilFunc, .nilFunc => true
  | .nilIface, .nilIface => true
  | _, _ => false
def leavesEq : List Value → List Value → Bool
  | [], [] => true
  | a :: l, b :: r => leafEq a b && leavesEq l r
  | _, _ => false
theorem kF_ {a b : Value} (h : leafEq a b = true) : a = b ∧ a.oneCell' = true := by
  unfold leafEq at h
  split at h <;> simp at h <;> try (simp [h, Value.oneCell']; done)
  rename_i a b
  obtain ⟨a⟩ := a; obtain ⟨b⟩ := b
  simp at h
  simp [h, Value.oneCell']
theorem eQ_ : ∀ {a b : List Value}, leavesEq a b = true → a = b ∧ ∀ v ∈ a, v.oneCell' = true
  | [], [], _ => by simp
  | [], _ :: _, h => by simp [leavesEq] at h
  | _ :: _, [], h => by simp [leavesEq] at h
  | a :: l, b :: r, h => by
    simp only [leavesEq, Bool.and_eq_true] at h
    obtain ⟨h1, h2⟩ := kF_ h.1
    obtain ⟨h3, h4⟩ := eQ_ h.2
    subst h1 h3
    refine ⟨rfl, fun v hv => ?_⟩
    rcases List.mem_cons.1 hv with rfl | hv
    · exact h2
    · exact h4 v hv
def kindOk : TypeDesc → TK → Bool
  | .struct fs, .struct gs => fs.toList.map (fun f => (f.offset, f.type)) == gs
  | .array n e, .array m e' => n == m && e == e'
  | .struct _, _ => false
  | .array _ _, _ => false
  | _, .one => true
  | _, _ => false
def chk (P : Program) (p : Nat × TI) : Bool := match P.info? p.1, P.underlying p.1 with
  | some I, some d => I.size == p.2.size && p.2.zero.length == p.2.size && kindOk d p.2.k && (match I.zero with
    | some z => leavesEq z.cells.toList p.2.zero
    | none => false)
  | _, _ => false
structure Fits (P : Program) (t : Nat) (i : TI) : Prop where
  info : ∃ I, P.info? t = some I ∧ I.size = i.size ∧ ∃ z, I.zero = some z ∧ z.cells = i.zero.toArray
  und : ∃ d, P.underlying t = some d ∧ kindOk d i.k = true
  len : i.zero.length = i.size
def TabOk (P : Program) (tab : List (Nat × TI)) : Prop := ∀ t i, ti tab t = some i → Fits P t i
theorem h7_ {P : Program} : ∀ {tab : List (Nat × TI)}, tab.all (chk P) = true → TabOk P tab
  | [], _, t, i, h => by simp [ti] at h
  | (j, x) :: l, hc, t, i, h => by
    simp only [List.all_cons, Bool.and_eq_true] at hc
    unfold ti at h
    by_cases hjt : j = t
    · subst hjt
      simp at h
      subst h
      have h1 := hc.1
      unfold chk at h1
      dsimp only at h1
      cases hI : P.info? j with
      | none => simp [hI] at h1
      | some I =>
        cases hd : P.underlying j with
        | none => simp [hI, hd] at h1
        | some dd =>
          simp only [hI, hd, Bool.and_eq_true, beq_iff_eq] at h1
          obtain ⟨⟨⟨a1, a2⟩, a3⟩, a4⟩ := h1
          cases hz : I.zero with
          | none => simp [hz] at a4
          | some z =>
            simp only [hz] at a4
            exact ⟨⟨I, hI, a1, z, hz, by rw [← (eQ_ a4).1]⟩, ⟨dd, hd, a3⟩, a2⟩
    · rw [cy_ hjt] at h
      exact h7_ hc.2 t i h
section
variable {P : Program} {t : Nat} {i : TI} {w : World}
theorem Fits.sizeOf (h : Fits P t i) : (sizeOf t).run P w = .ok i.size w := by
  obtain ⟨I, hI, hs, _⟩ := h.info
  simp [Go.sizeOf, typeInfo, program, Sem.run_bind, Sem.run, hI, hs, Result.andThen]
theorem Fits.zeroValue (h : Fits P t i) : ∃ z, (zeroValue t).run P w = .ok z w ∧ z.cells = i.zero.toArray := by
  obtain ⟨I, hI, _, z, hz, hc⟩ := h.info
  exact ⟨z, by simp [Go.zeroValue, typeInfo, program, Sem.run_bind, Sem.run, hI, hz, Result.andThen], hc⟩
theorem Fits.isAgg (h : Fits P t i) : (isAgg t).run P w = .ok (match i.k with | .one => false | _ => true) w := by
  obtain ⟨d, hd, hk⟩ := h.und
  unfold Go.isAgg
  rw [Sem.run_bind, run_underlying hd w]
  obtain ⟨sz, k, z⟩ := i
  cases d <;> cases k <;> simp [kindOk] at hk <;> simp [Result.andThen]
theorem Fits.fields {sz : Nat} {gs : List (Nat × Nat)} {z : List Value} (h : Fits P t ⟨sz, .struct gs, z⟩) : ∃ fs, P.underlying t = some (.struct fs) ∧ fs.toList.map (fun f => (f.offset, f.type)) = gs := by
  obtain ⟨d, hd, hk⟩ := h.und
  cases d <;> simp [kindOk] at hk
  exact ⟨_, hd, by simpa using hk⟩
end
def sub (L : List Value) : Nat → Nat → List Value
  | o, s => (L.drop o).take s
def putAt : List Value → Nat → List Value → List Value
  | L, 0, vs => vs ++ L.drop vs.length
  | x :: L, n + 1, vs => x :: putAt L n vs
  | [], _ + 1, _ => []
theorem bt_ : ∀ (L : List Value) (n : Nat) (vs : List Value), n ≤ L.length → putAt L n vs = L.take n ++ vs ++ L.drop (n + vs.length)
  | L, 0, vs, _ => by simp [putAt]
  | x :: L, n + 1, vs, h => by
    have := bt_ L n vs (by simpa using h)
    simp [putAt, this, Nat.add_right_comm n 1 vs.length]
  | [], n + 1, vs, h => by simp at h
theorem Addr.add_none (b o j : Nat) : (⟨b, o, none⟩ : Addr).add j = ⟨b, o + j, none⟩ := by
  unfold Addr.add
  split
  · rename_i h; subst h; rfl
  · rfl
section
variable {P : Program} {n : Nat} {l : Slots} {S : List (World × List Nat)} {σ τ : Blks} {ρ : List Dt} {D : World → Prop} {x y z : Operand} {d : Option Nat} {ty t : TypeId} {pos : String} {aft : Array Edge} {g : Option (Nat × Bool)} {v u : Value} {tab : List (Nat × TI)} {b o : Nat} {L : List Value} {t' : TypeId}
theorem a3_ {w : World} (h : w.heap[b]? = some (row t' L)) (j : Nat) : w.cell? ⟨b, j, none⟩ = L[j]? := by
  rw [cell_of_row w b j L.toArray t' (0, 0) h]; simp
theorem fA_ (hT : TabOk P tab) {sz : Nat} {zs : List Value} (ht : ti tab t = some ⟨sz, .one, zs⟩) (hx : look l x = some (.pointer (some ⟨b, o, none⟩))) (hc : ∀ w, D w → w.cell? ⟨b, o, none⟩ = some v) : Val P n l D ⟨d, .load t x, ty, pos, aft, g⟩ v := fun A w hf hD => by
  have h1 := (hT t _ ht).isAgg (w := w)
  simp [execOp, hf.eval hx, Instr.loadAt, Instr.sureAddr, loadVar, Sem.run_bind, h1, Result.andThen, load, Sem.run, hc w hD]
theorem c7_ (hT : TabOk P tab) {i : TI} (ht : ti tab t = some i) (hk : (match i.k with | .one => false | _ => true) = true) {w : World} (hl : L.length = i.size) (hc : ∀ j u, L[j]? = some u → w.cell? ⟨b, o + j, none⟩ = some u) : (loadVar t ⟨b, o, none⟩).run P w = .ok (.agg L.toArray) w := by
  have h1 := (hT t _ ht).isAgg (w := w)
  have h2 := (hT t _ ht).sizeOf (w := w)
  have h3 := run_loadCells_list (P := P) w ⟨b, o, none⟩ L (fun j u hu => by rw [Addr.add_none]; exact hc j u hu)
  rw [hk] at h1
  rw [← hl] at h2
  simp [loadVar, Sem.run_bind, h1, h2, h3, Result.andThen]
theorem dZ_ (hT : TabOk P tab) {i : TI} (ht : ti tab t = some i) (hk : (match i.k with | .one => false | _ => true) = true) (hx : look l x = some (.pointer (some ⟨b, o, none⟩))) (hl : L.length = i.size) (hc : ∀ w, D w → ∀ j u, L[j]? = some u → w.cell? ⟨b, o + j, none⟩ = some u) : Val P n l D ⟨d, .load t x, ty, pos, aft, g⟩ (.agg L.toArray) := fun A w hf hD => by
  simp [execOp, hf.eval hx, Instr.loadAt, Instr.sureAddr, c7_ hT ht hk hl (hc w hD), Result.andThen]
theorem g_ (hT : TabOk P tab) {sz : Nat} {zs : List Value} (ht : ti tab t = some ⟨sz, .one, zs⟩) (hx : look l x = some (.pointer (some ⟨b, o, none⟩))) (hb : It.blk b (row t' L) ∈ σ) (hv : L[o]? = some v) : Val P n l (Mem S σ ρ) ⟨d, .load t x, ty, pos, aft, g⟩ v :=
  fA_ hT ht hx fun w hw => by rw [a3_ (hw.holds hb)]; exact hv
theorem r_ (hT : TabOk P tab) {i : TI} (ht : ti tab t = some i) (hk : (match i.k with | .one => false | _ => true) = true) (hx : look l x = some (.pointer (some ⟨b, 0, none⟩))) (hb : It.blk b (row t' L) ∈ σ) (hl : L.length = i.size) : Val P n l (Mem S σ ρ) ⟨d, .load t x, ty, pos, aft, g⟩ (.agg L.toArray) :=
  dZ_ hT ht hk hx hl fun w hw j u hu => by rw [Nat.zero_add, a3_ (hw.holds hb)]; exact hu
theorem ad_ (hT : TabOk P tab) {i : TI} (ht : ti tab t = some i) (hk : (match i.k with | .one => false | _ => true) = true) (hx : look l x = some (.pointer (some ⟨b, o, none⟩))) (hb : It.blk b (row t' L) ∈ σ) (hl : o + i.size ≤ L.length) : Val P n l (Mem S σ ρ) ⟨d, .load t x, ty, pos, aft, g⟩ (.agg (sub L o i.size).toArray) :=
  dZ_ hT ht hk hx (by simp [sub]; omega) fun w hw j u hu => by
    rw [a3_ (hw.holds hb)]
    simp only [sub, List.getElem?_take, List.getElem?_drop] at hu
    split at hu
    · exact hu
    · cases hu
theorem E_ (hT : TabOk P tab) {sz fo ft f : Nat} {gs : List (Nat × Nat)} {zs : List Value} {j : TI} (ht : ti tab t = some ⟨sz, .struct gs, zs⟩) (hx : look l x = some (.pointer (some ⟨b, o, none⟩))) (hfo : gs[f]? = some (fo, ft)) (hj : ti tab ft = some j) (hs : Nat.beq j.size 0 = false) :
    Val P n l D ⟨d, .fieldAddr t x f, ty, pos, aft, g⟩ (.pointer (some ⟨b, o + fo, none⟩)) := fun A w hf hD => by
  obtain ⟨fs, hu, hm⟩ := (hT t _ ht).fields
  rw [← hm, List.getElem?_map] at hfo
  cases hf2 : fs.toList[f]? with
  | none => simp [hf2] at hfo
  | some fd =>
    simp only [hf2, Option.map_some, Option.some.injEq, Prod.mk.injEq] at hfo
    obtain ⟨rfl, rfl⟩ := hfo
    have hf3 : fs[f]? = some fd := by simpa using hf2
    have h2 := (hT _ _ hj).sizeOf (w := w)
    have hne : ¬ j.size = 0 := fun h => by rw [h] at hs; simp at hs
    simp [execOp, hf.eval hx, Instr.fieldAt, Instr.sureAddr, run_underlying hu, Sem.run_bind, hf3, Result.andThen, fieldPlace, h2, hne, Addr.add_none]
theorem L_ (hT : TabOk P tab) {m c e : Nat} {k : IntKind} {q : Int} {j : TI} (hu : P.underlying t = some (.slice e)) (hj : ti tab e = some j) (hx : look l x = some (.slice (some ⟨b, o, none⟩) m c)) (hy : look l y = some (.int k q)) (hq : 0 ≤ q ∧ q < m) :
    Val P n l D ⟨d, .indexAddr t x y, ty, pos, aft, g⟩ (.pointer (some ⟨b, o + q.toNat * j.size, none⟩)) := fun A w hf hD => by
  have h2 := (hT _ _ hj).sizeOf (w := w)
  simp [execOp, hf.eval hx, hf.eval hy, Instr.indexAt, asIntOf, run_underlying hu, Sem.run_bind, Result.andThen, h2, hq, Addr.add_none]
theorem bT_ (hT : TabOk P tab) {m c e q : Nat} {k : IntKind} {j : TI} (hu : P.underlying t = some (.slice e)) (hj : ti tab e = some j) (hx : look l x = some (.slice (some ⟨b, o, none⟩) m c)) (hy : look l y = some (.int k q)) (hq : q < m) :
    Val P n l D ⟨d, .indexAddr t x y, ty, pos, aft, g⟩ (.pointer (some ⟨b, o + q * j.size, none⟩)) := by
  have := L_ (n := n) (D := D) (d := d) (ty := ty) (pos := pos) (aft := aft) (g := g) hT hu hj hx hy (by omega)
  simpa using this
theorem fB_ (hT : TabOk P tab) {sz fo ft f sz' : Nat} {gs : List (Nat × Nat)} {zs zs' : List Value} (ht : ti tab t = some ⟨sz, .struct gs, zs⟩) (hx : look l x = some (.agg L.toArray)) (hfo : gs[f]? = some (fo, ft)) (hj : ti tab ft = some ⟨sz', .one, zs'⟩) (hv : L[fo]? = some v) :
    Val P n l D ⟨d, .field t x f, ty, pos, aft, g⟩ v := fun A w hf hD => by
  obtain ⟨fs, hu, hm⟩ := (hT t _ ht).fields
  rw [← hm, List.getElem?_map] at hfo
  cases hf2 : fs.toList[f]? with
  | none => simp [hf2] at hfo
  | some fd =>
    simp only [hf2, Option.map_some, Option.some.injEq, Prod.mk.injEq] at hfo
    obtain ⟨rfl, rfl⟩ := hfo
    have hf3 : fs[f]? = some fd := by simpa using hf2
    have h2 := (hT _ _ hj).isAgg (w := w)
    simp [execOp, hf.eval hx, Instr.field, run_underlying hu, Sem.run_bind, hf3, Result.andThen, asAgg, part, h2, hv]
/-! ### Operations that change memory -/
theorem C_ (hT : TabOk P tab) {i : TI} (ht : ti tab t = some i) : Eff P n l (Mem S σ ρ) ⟨d, .alloc t, ty, pos, aft, g⟩ fun v C' => ∃ b, v = .pointer (some ⟨b, 0, none⟩) ∧ C' = Mem S (.blk b (row t i.zero) :: σ) ρ := fun A w hf hw => by
  obtain ⟨zv, hz, hc⟩ := (hT t _ ht).zeroValue (w := w)
  refine ⟨_, _, _, ⟨w.heap.size, rfl, rfl⟩, hw.alloc (row t i.zero), .inl ?_⟩
  simp [execOp, Instr.alloc, Sem.run_bind, hz, Result.andThen, newVar, newRow, newObj, Sem.run, hc, row]
theorem B_ (hx : look l x = some (.agg L.toArray)) : Eff P n l (Mem S σ ρ) ⟨d, .box t x, ty, pos, aft, g⟩ fun v C' => ∃ b, v = .pointer (some ⟨b, 0, none⟩) ∧ C' = Mem S (.blk b (row t L) :: σ) ρ := fun A w hf hw => by
  refine ⟨_, _, _, ⟨w.heap.size, rfl, rfl⟩, hw.alloc (row t L), .inl ?_⟩
  simp [execOp, hf.eval hx, Instr.box, Result.andThen, newVar, newRow, newObj, Sem.run, Value.cells, row]
theorem be_ (hx : look l x = some v) (h1 : v.oneCell' = true) : Eff P n l (Mem S σ ρ) ⟨d, .box t x, ty, pos, aft, g⟩ fun u C' => ∃ b, u = .pointer (some ⟨b, 0, none⟩) ∧ C' = Mem S (.blk b (row t [v]) :: σ) ρ := fun A w hf hw => by
  refine ⟨_, _, _, ⟨w.heap.size, rfl, rfl⟩, hw.alloc (row t [v]), .inl ?_⟩
  have hc : v.cells = #[v] := by cases v <;> simp [Value.oneCell'] at h1 <;> rfl
  simp [execOp, hf.eval hx, Instr.box, Result.andThen, newVar, newRow, newObj, Sem.run, hc, row]
theorem dc_ {w : World} {cs cs' : List Value} (h : w.heap[b]? = some (row t' cs)) : (w.setRow b cs'.toArray).heap[b]? = some (row t' cs') := setRow_heap w b cs.toArray cs'.toArray t' (0, 0) h
theorem fE_ (hT : TabOk P tab) {i : TI} {vs L' : List Value} (ht : ti tab t = some i) (hx : look l x = some (.pointer (some ⟨b, o, none⟩))) (hy : look l y = some v) (hcs : v.cells = vs.toArray) (hu : Upd (.blk b (row t' L)) (.blk b (row t' L')) σ τ) (hl : vs.length = i.size) (hn : o + i.size ≤ L.length) (h1 : ∀ u ∈ vs, u.oneCell' = true) (hL : putAt L o vs = L') :
    Eff P n l (Mem S σ ρ) ⟨d, .store t x y, ty, pos, aft, g⟩ fun u C' => u = undef ∧ C' = Mem S τ ρ := fun A w hf hw => by
  have hb := hw.holds hu.mem
  have h2 := (hT t _ ht).sizeOf (w := w)
  have hst := run_storeCells_at (P := P) b o t' vs 0 L.toArray w hb (by simp; omega) h1
  have hE : (L.toArray.toList.take (o + 0) ++ vs ++ L.toArray.toList.drop (o + 0 + vs.length)).toArray = L'.toArray := by
    rw [← hL, bt_ L o vs (by omega)]; simp
  rw [hE] at hst
  refine ⟨undef, w.setRow b L'.toArray, Mem S τ ρ, ⟨rfl, rfl⟩, hw.updB hu ((Ext.refl w).setRow (.inl (by simp)) _) (dc_ hb), .inr ⟨rfl, ?_⟩⟩
  simp [execOp, hf.eval hx, hf.eval hy, Instr.storeAt, Instr.sureAddr, storeVar, Sem.run_bind, hcs, h2, hl, hst, Result.andThen]
theorem fF_ (hT : TabOk P tab) {sz : Nat} {zs L' : List Value} (ht : ti tab t = some ⟨sz, .one, zs⟩) (hs : Nat.beq sz 1 = true) (hx : look l x = some (.pointer (some ⟨b, o, none⟩))) (hy : look l y = some v) (h1 : v.oneCell' = true) (hu : Upd (.blk b (row t' L)) (.blk b (row t' L')) σ τ) (hn : Nat.blt o L.length = true) (hL : putAt L o [v] = L') :
    Eff P n l (Mem S σ ρ) ⟨d, .store t x y, ty, pos, aft, g⟩ fun u C' => u = undef ∧ C' = Mem S τ ρ := by
  have hs' : sz = 1 := by simpa using Nat.eq_of_beq_eq_true hs
  subst hs'
  have hc : v.cells = [v].toArray := by cases v <;> simp [Value.oneCell'] at h1 <;> rfl
  have hlt : o + 1 ≤ L.length := by
    have : o < L.length := by simpa [Nat.blt_eq] using hn
    omega
  exact fE_ hT ht hx hy hc hu rfl hlt (by simpa using h1) hL
theorem jG_ (hT : TabOk P tab) {i : TI} {vs L' : List Value} (ht : ti tab t = some i) (hx : look l x = some (.pointer (some ⟨b, o, none⟩))) (hy : look l y = some (.agg vs.toArray)) (hu : Upd (.blk b (row t' L)) (.blk b (row t' L')) σ τ) (hl : vs.length = i.size) (hn : o + i.size ≤ L.length) (h1 : ∀ u ∈ vs, u.oneCell' = true) (hL : putAt L o vs = L') :
    Eff P n l (Mem S σ ρ) ⟨d, .store t x y, ty, pos, aft, g⟩ fun u C' => u = undef ∧ C' = Mem S τ ρ := fE_ hT ht hx hy rfl hu hl hn h1 hL
/-! ### Composite values -/
def cellsL : Value → List Value
  | .agg cs => cs.toList
  | v => [v]
theorem dA_ (v : Value) : v.cells = (cellsL v).toArray := by cases v <;> simp [Value.cells, cellsL]
def fillL (place : Nat → Option (Nat × Nat)) (cells : List Value) : List (Nat × Value) → Option (List Value)
  | [] => some cells
  | (i, v) :: rest => match place i with
    | none => none
    | some (off, size) => bif Nat.beq (cellsL v).length size && Nat.ble (off + size) cells.length then fillL place (putAt cells off (cellsL v)) rest else none
theorem gM_ (off : Nat) : ∀ (vs : List Value) (k : Nat) (cells : List Value), off + k + vs.length ≤ cells.length →
    ((vs.zipIdx k).foldl (fun cs (p : Value × Nat) => cs.setIfInBounds (off + p.2) p.1) cells.toArray) = (putAt cells (off + k) vs).toArray
  | [], k, cells, h => by
    have h2 := bt_ cells (off + k) [] (by simpa using h)
    simp at h2
    simp [h2]
  | v :: vs, k, cells, h => by
    simp only [List.length_cons] at h
    have ih := gM_ off vs (k + 1) (cells.set (off + k) v) (by simp; omega)
    simp only [List.zipIdx_cons, List.foldl_cons]
    rw [List.setIfInBounds_toArray, ih]
    congr 1
    rw [bt_ _ _ _ (by simp; omega), bt_ _ _ _ (by omega)]
    have h1 : (cells.set (off + k) v).take (off + (k + 1)) = cells.take (off + k) ++ [v] := by
      rw [← Nat.add_assoc, List.take_succ_eq_append_getElem (by simp; omega)]
      simp [List.take_set_of_le]
    have h2 : (cells.set (off + k) v).drop (off + (k + 1) + vs.length) = cells.drop (off + k + (v :: vs).length) := by
      rw [List.drop_set_of_lt (by omega)]
      congr 1
      simp; omega
    rw [h1, h2]
    simp
theorem f1_ (place : Nat → Option (Nat × Nat)) : ∀ (parts : List (Nat × Value)) (cells L : List Value), fillL place cells parts = some L → Instr.fill place cells.toArray parts = some L.toArray
  | [], cells, L, h => by simp [fillL] at h; simp [Instr.fill, h]
  | (i, v) :: rest, cells, L, h => by
    unfold fillL at h
    unfold Instr.fill
    cases hp : place i with
    | none => simp [hp] at h
    | some os =>
      obtain ⟨off, size⟩ := os
      simp only [hp] at h ⊢
      cases hb : (Nat.beq (cellsL v).length size && Nat.ble (off + size) cells.length) with
      | false => rw [hb] at h; simp at h
      | true =>
        rw [hb] at h
        simp only [Bool.and_eq_true] at hb
        have e1 := Nat.eq_of_beq_eq_true hb.1
        have e2 := Nat.le_of_ble_eq_true hb.2
        have hsz : v.cells.size = size := by rw [dA_]; simpa using e1
        have hno : (decide (v.cells.size ≠ size) || decide (off + v.cells.size > cells.toArray.size)) = false := by rw [hsz]; simp; omega
        have hf : (v.cells.zipIdx.foldl (fun cs (c, j) => cs.setIfInBounds (off + j) c) cells.toArray) = (putAt cells off (cellsL v)).toArray := by
          rw [dA_]
          have := gM_ off (cellsL v) 0 cells (by omega)
          simpa using this
        rw [if_neg (by rw [hno]; simp), hf]
        exact f1_ place rest _ L h
def places (tab : List (Nat × TI)) : List (Nat × Nat) → List (Nat × Nat)
  | [] => []
  | (o, t) :: l => (o, ((ti tab t).map (·.size)).getD 0) :: places tab l
def evalParts (l : Slots) : List (Nat × Operand) → Option (List (Nat × Value))
  | [] => some []
  | (i, x) :: ps => match look l x, evalParts l ps with
    | some v, some vs => some ((i, v) :: vs)
    | _, _ => none
theorem bR_ {A : Act} (hf : Fr n A l) : ∀ {ps : List (Nat × Operand)} {vs : List (Nat × Value)}, evalParts l ps = some vs → ps.map (fun p => (p.1, A.eval p.2)) = vs
  | [], vs, h => by simp [evalParts] at h; simp [h]
  | (i, x) :: ps, vs, h => by
    unfold evalParts at h
    cases h1 : look l x with
    | none => simp [h1] at h
    | some v =>
      cases h2 : evalParts l ps with
      | none => simp [h1, h2] at h
      | some us =>
        simp [h1, h2] at h
        subst h
        simp [hf.eval h1, bR_ hf h2]
def allIn (tab : List (Nat × TI)) (gs : List (Nat × Nat)) : Bool := gs.all fun p => (ti tab p.2).isSome
theorem z_ (hT : TabOk P tab) {sz : Nat} {gs : List (Nat × Nat)} {zs L : List Value} {ps : List (Nat × Operand)} {vs : List (Nat × Value)} (ht : ti tab t = some ⟨sz, .struct gs, zs⟩) (hin : allIn tab gs = true) (hps : evalParts l ps = some vs) (hL : fillL ((places tab gs)[·]?) zs vs = some L) :
    Val P n l D ⟨d, .build t ps.toArray, ty, pos, aft, g⟩ (.agg L.toArray) := fun A w hf hD => by
  obtain ⟨fs, hu, hm⟩ := (hT t _ ht).fields
  obtain ⟨zv, hz, hc⟩ := (hT t _ ht).zeroValue (w := w)
  have hpl : (fs.mapM fun (f : Field) => (do pure (f.offset, ← sizeOf f.type) : Sem (Nat × Nat))).run P w = .ok (places tab gs).toArray w := by
    have hl : ∀ (fl : List Field), allIn tab (fl.map fun f => (f.offset, f.type)) = true → (fl.mapM fun (f : Field) => (do pure (f.offset, ← sizeOf f.type) : Sem (Nat × Nat))).run P w = .ok (places tab (fl.map fun f => (f.offset, f.type))) w := by
      intro fl
      induction fl with
      | nil => intro _; rfl
      | cons f fl ih =>
        intro ha
        simp only [allIn, List.map_cons, List.all_cons, Bool.and_eq_true] at ha
        obtain ⟨i, hi⟩ := Option.isSome_iff_exists.1 ha.1
        have h2 := (hT _ _ hi).sizeOf (w := w)
        have h3 := ih ha.2
        simp only [bind_pure_comp] at h3
        simp [List.mapM_cons, Sem.run_bind, h2, h3, Result.andThen, places, hi]
    have := hl fs.toList (hm ▸ hin)
    rw [Array.mapM_eq_mapM_toList, Sem.run_map, this, hm]
    rfl
  have he : (ps.toArray.map fun (p : Nat × Operand) => (p.1, A.eval p.2)) = vs.toArray := by rw [List.map_toArray, bR_ hf hps]
  have hfl := f1_ _ _ _ _ hL
  simp only [execOp, Instr.build, he, Sem.run_bind, hz, run_underlying hu, Result.andThen_ok, hpl]
  simp only [hc]
  simp [hfl]
theorem bC_ (hT : TabOk P tab) {sz m e : Nat} {j : TI} {zs L : List Value} {ps : List (Nat × Operand)} {vs : List (Nat × Value)} (ht : ti tab t = some ⟨sz, .array m e, zs⟩) (hj : ti tab e = some j) (hps : evalParts l ps = some vs) (hL : fillL (fun i => some (i * j.size, j.size)) zs vs = some L) :
    Val P n l D ⟨d, .build t ps.toArray, ty, pos, aft, g⟩ (.agg L.toArray) := fun A w hf hD => by
  obtain ⟨dd, hu, hk⟩ := (hT t _ ht).und
  cases dd <;> simp [kindOk] at hk
  obtain ⟨rfl, rfl⟩ := hk
  obtain ⟨zv, hz, hc⟩ := (hT t _ ht).zeroValue (w := w)
  have h2 := (hT _ _ hj).sizeOf (w := w)
  have he : (ps.toArray.map fun (p : Nat × Operand) => (p.1, A.eval p.2)) = vs.toArray := by rw [List.map_toArray, bR_ hf hps]
  have hfl := f1_ _ _ _ _ hL
  simp only [execOp, Instr.build, he, Sem.run_bind, hz, run_underlying hu, Result.andThen_ok, h2]
  simp only [hc]
  simp [hfl]
end
def argSlots : List Value → Nat → Slots
  | [], _ => []
  | v :: vs, i => (i, v) :: argSlots vs (i + 1)
theorem ez_ : ∀ (vs : List Value) (i t : Nat) (v : Value), slot (argSlots vs i) t = some v → i ≤ t ∧ vs[t - i]? = some v
  | [], i, t, v, h => by simp [argSlots, slot] at h
  | u :: vs, i, t, v, h => by
    unfold argSlots slot at h
    by_cases hit : i = t
    · subst hit
      simp at h
      subst h
      simp
    · rw [cy_ hit] at h
      obtain ⟨h1, h2⟩ := ez_ vs (i + 1) t v h
      refine ⟨by omega, ?_⟩
      rw [show t - i = (t - (i + 1)) + 1 by omega]
      simpa using h2
section
variable {P : Program} {n : Nat} {l : Slots} {C : World → Prop} {R : Ending → World → Prop} {fn : Func}
theorem au_ {f : FuncId} {c : Code} {w : World} (args : List Value) (hf : P.funcs[f]? = some fn) (hb : fn.body = some c) (hn : fn.ntmps = n) (hle : Nat.ble args.length n = true) (C : World → Prop) (hC : C w)
    (h : SC P n c (argSlots args 0) C (bodyPost P fn R)) : Calls P f args.toArray w R := by
  refine calls_of_wp hf hb (h _ w ⟨rfl, ?_, fun t v hv => ?_⟩ hC)
  · have := Nat.le_of_ble_eq_true hle
    simp [hn]; omega
  · have h1 := (ez_ args 0 t v hv).2
    rw [Nat.sub_zero] at h1
    have hlt : t < args.length := by
      rcases Nat.lt_or_ge t args.length with h2 | h2
      · exact h2
      · rw [List.getElem?_eq_none h2] at h1; cases h1
    simp [Array.getElem?_append, hlt]
    exact (List.getElem?_eq_some_iff.1 h1).2
inductive RV (P : Program) (l : Slots) (C : World → Prop) : List ResultVar → List Value → Prop
  | nil : RV P l C [] []
  | tmp {t : Nat} {v : Value} {rs : List ResultVar} {vs : List Value} (h : slot l t = some v) (k : RV P l C rs vs) : RV P l C (.tmp t :: rs) (v :: vs)
  | cell {p ty b : Nat} {v : Value} {rs : List ResultVar} {vs : List Value} (h : slot l p = some (.pointer (some ⟨b, 0, none⟩))) (hv : ∀ w, C w → (loadVar ty ⟨b, 0, none⟩).run P w = .ok v w) (k : RV P l C rs vs) : RV P l C (.cell p ty :: rs) (v :: vs)
def retOf : List Value → Value
  | [v] => v
  | vs => .tuple vs.toArray
def resV (tmps : Array Value) : ResultVar → Sem Value
  | .tmp t => pure (tmps.getD t undef)
  | .cell q t => do loadVar t (← asAddr (tmps.getD q undef))
theorem RV.run {rs : List ResultVar} {vs : List Value} (h : RV P l C rs vs) {a : Act} (hf : Fr n a l) {w : World} (hw : C w) :
    (rs.mapM (resV a.tmps)).run P w = .ok vs w := by
  induction h with
  | nil => rfl
  | @tmp t v rs vs h _ ih =>
    have h1 : (resV a.tmps (.tmp t)).run P w = .ok v w := by simp [resV, hf.at_ _ _ h]
    simp only [List.mapM_cons, Sem.run_bind, h1, Result.andThen_ok, ih, Sem.run_pure]
  | @cell q ty b v rs vs h hv _ ih =>
    have h1 : (resV a.tmps (.cell q ty)).run P w = .ok v w := by simp [resV, hf.at_ _ _ h, asAddr]; exact hv w hw
    simp only [List.mapM_cons, Sem.run_bind, h1, Result.andThen_ok, ih, Sem.run_pure]
theorem fm_ (tmps : Array Value) : results fn tmps = (do
    let vs ← fn.results.mapM (resV tmps)
    pure (if h : vs.size = 1 then vs[0] else .tuple vs)) := by
  have hr : (fun (r : ResultVar) => (match r with
      | .tmp t => pure (tmps.getD t undef)
      | .cell a t => do loadVar t (← asAddr (tmps.getD a undef)) : Sem Value)) = resV tmps := by
    funext r
    cases r <;> rfl
  unfold results
  rw [← hr]
  rfl
theorem RV.results {rs : List ResultVar} {vs : List Value} (hr : fn.results = rs.toArray) (h : RV P l C rs vs) {a : Act} (hf : Fr n a l) {w : World} (hw : C w) : (results fn a.tmps).run P w = .ok (retOf vs) w := by
  have h1 := h.run hf hw
  rw [fm_, hr, Array.mapM_eq_mapM_toList, Sem.run_bind, Sem.run_map]
  dsimp only
  rw [h1]
  match vs with
  | [] => rfl
  | [v] => rfl
  | v :: u :: vs => simp [retOf, Result.andThen]
theorem SE.retn {rs : List ResultVar} {vs : List Value} (hr : fn.results = rs.toArray) (h : RV P l C rs vs) (k : ∀ w, C w → R (.returned (retOf vs)) w) : SE n .ret l C (bodyPost P fn R) := fun _ w hf hw =>
  ⟨hf.defers, _, h.results hr hf hw, k w hw⟩
theorem SE.done {rs : List ResultVar} {vs : List Value} (hr : fn.results = rs.toArray) (h : RV P l C rs vs) (k : ∀ w, C w → R (.returned (retOf vs)) w) : SE n .normal l C (bodyPost P fn R) := fun _ w hf hw =>
  ⟨hf.defers, _, h.results hr hf hw, k w hw⟩
theorem Z_ {t : Nat} {v : Value} (hr : fn.results = #[.tmp t]) (h : slot l t = some v) (k : ∀ w, C w → R (.returned v) w) : SE n .ret l C (bodyPost P fn R) := SE.retn (rs := [.tmp t]) hr (.tmp h .nil) k
variable {Q : Exit → Act → World → Prop} {x y : Code}
theorem cu_ {p : Prop} (h : p → SC P n x l C Q) : SC P n x l (fun w => p ∧ C w) Q := fun a w hf hw => h hw.1 a w hf hw.2
theorem lv_ {ι : Type} (L : ι → Slots) (K : ι → World → Prop) (h : SC P n x l C (Exit.then (fun a w => ∃ z, Fr n a (L z) ∧ K z w) Q)) (k : ∀ z, SC P n y (L z) (K z) Q) : SC P n (.seq x y) l C Q := fun a w hf hw =>
  wp_seq (wp_mono (h a w hf hw) fun e a' w' he => by
    cases e with
    | normal => obtain ⟨z, h1, h2⟩ := he; exact k z a' w' h1 h2
    | _ => exact he)
theorem aw_ {ι : Type} {L : ι → Slots} {K : ι → World → Prop} (z : ι) (hs : Subs l (L z)) (hK : ∀ w, C w → K z w) : SE n .normal l C (Exit.then (fun a w => ∃ z, Fr n a (L z) ∧ K z w) Q) := fun _ w hf hw => ⟨z, hf.sub hs, hK w hw⟩
theorem I_ {ι : Type} {L : ι → Slots} {K : ι → World → Prop} {m : ι → Nat} {z : ι} (u : ι) (hm : m u < m z) (hs : Subs l (L u)) (hK : ∀ w, C w → K u w) : SE n .normal l C (Exit.then (fun a w => ∃ u, m u < m z ∧ Fr n a (L u) ∧ K u w) Q) := fun _ w hf hw => ⟨u, hm, hf.sub hs, hK w hw⟩
end
abbrev zt0 : TI := ⟨1, .one, [.nilFunc]⟩
abbrev zt1 : TI := ⟨1, .one, [(.int .i64 0)]⟩
abbrev zt2 : TI := ⟨4, (.struct [(0, 2), (1, 3), (2, 4), (3, 6)]), [(.int .i64 0), (.int .i64 0), (.bool false), (.int .u8 0)]⟩
abbrev zt3 : TI := ⟨1, .one, [(.slice none 0 0)]⟩
abbrev zt4 : TI := ⟨3, (.struct [(0, 3), (1, 22), (2, 3)]), [(.int .i64 0), (.slice none 0 0), (.int .i64 0)]⟩
abbrev zt5 : TI := ⟨7, (.struct [(0, 3), (1, 2), (2, 3), (3, 9), (4, 2), (5, 2), (6, 9)]), [(.int .i64 0), (.int .i64 0), (.int .i64 0), (.string ⟨#[]⟩), (.int .i64 0), (.int .i64 0), (.string ⟨#[]⟩)]⟩
abbrev zt6 : TI := ⟨1, .one, [(.pointer none)]⟩
abbrev zt7 : TI := ⟨4, (.struct [(0, 3), (1, 3), (2, 39), (3, 40)]), [(.int .i64 0), (.int .i64 0), (.slice none 0 0), (.slice none 0 0)]⟩
abbrev zt8 : TI := ⟨17, (.struct [(0, 3), (1, 3), (2, 3), (3, 3), (4, 26), (11, 22), (12, 38), (13, 42)]), [(.int .i64 0), (.int .i64 0), (.int .i64 0), (.int .i64 0), (.int .i64 0), (.int .i64 0), (.int .i64 0), (.string ⟨#[]⟩), (.int .i64 0), (.int .i64 0), (.string ⟨#[]⟩), (.slice none 0 0), (.int .u32 0), (.int .i64 0), (.int .i64 0), (.slice none 0 0), (.slice none 0 0)]⟩
abbrev zt9 : TI := ⟨32, (.array 32 5), (List.replicate 32 (.int .u8 0))⟩
abbrev zt10 : TI := ⟨1, .one, [(.map none)]⟩
abbrev zt11 : TI := ⟨8, (.struct [(0, 68), (1, 3), (2, 3), (3, 69), (4, 70), (5, 71), (6, 72), (7, 51)]), [.nilIface, (.int .i64 0), (.int .i64 0), (.map none), (.map none), (.pointer none), (.map none), (.slice none 0 0)]⟩
abbrev zt12 : TI := ⟨2, (.struct [(0, 82), (1, 83)]), [(.map none), (.map none)]⟩
abbrev zt13 : TI := ⟨13, (.struct [(0, 24), (3, 3), (4, 26), (11, 27), (12, 22)]), [(.int .i64 0), (.slice none 0 0), (.int .i64 0), (.int .i64 0), (.int .i64 0), (.int .i64 0), (.int .i64 0), (.string ⟨#[]⟩), (.int .i64 0), (.int .i64 0), (.string ⟨#[]⟩), (.int .u64 0), (.slice none 0 0)]⟩
abbrev zt14 : TI := ⟨1, (.struct [(0, 95)]), [(.slice none 0 0)]⟩
abbrev zt15 : TI := ⟨19, (.struct [(0, 68), (1, 3), (2, 3), (3, 2), (4, 4), (5, 2), (6, 114), (7, 115), (8, 2), (9, 99), (10, 101), (11, 103), (12, 105), (13, 107), (14, 109), (15, 111), (16, 113), (17, 3), (18, 116)]), [.nilIface, (.int .i64 0), (.int .i64 0), (.int .i64 0), (.bool false), (.int .i64 0), (.slice none 0 0), (.slice none 0 0), (.int .i64 0), (.pointer none), (.pointer none), (.pointer none), (.pointer none), (.pointer none), (.pointer none), (.pointer none), (.map none), (.int .i64 0), (.slice none 0 0)]⟩
abbrev zt16 : TI := ⟨6, (.struct [(0, 68), (1, 3), (2, 3), (3, 2), (4, 123), (5, 124)]), [.nilIface, (.int .i64 0), (.int .i64 0), (.int .i64 0), (.pointer none), (.slice none 0 0)]⟩
abbrev zt17 : TI := ⟨8, (.struct [(0, 26), (7, 132)]), [(.int .i64 0), (.int .i64 0), (.int .i64 0), (.string ⟨#[]⟩), (.int .i64 0), (.int .i64 0), (.string ⟨#[]⟩), (.slice none 0 0)]⟩
abbrev zt18 : TI := ⟨5, (.struct [(0, 3), (1, 42)]), [(.int .i64 0), (.int .i64 0), (.int .i64 0), (.slice none 0 0), (.slice none 0 0)]⟩
abbrev zt19 : TI := ⟨6, (.struct [(0, 3), (1, 141)]), [(.int .i64 0), (.int .i64 0), (.int .i64 0), (.int .i64 0), (.slice none 0 0), (.slice none 0 0)]⟩
abbrev zt20 : TI := ⟨3, (.struct [(0, 3), (1, 2), (2, 151)]), [(.int .i64 0), (.int .i64 0), (.map none)]⟩
abbrev zt21 : TI := ⟨4, (.struct [(0, 3), (1, 3), (2, 154), (3, 155)]), [(.int .i64 0), (.int .i64 0), (.map none), (.slice none 0 0)]⟩
abbrev zt22 : TI := ⟨2, (.struct [(0, 3), (1, 158)]), [(.int .i64 0), (.map none)]⟩
abbrev zt23 : TI := ⟨2, (.struct [(0, 161), (1, 161)]), [(.slice none 0 0), (.slice none 0 0)]⟩
abbrev zt24 : TI := ⟨4, (.struct [(0, 68), (1, 3), (2, 164), (3, 165)]), [.nilIface, (.int .i64 0), (.map none), (.slice none 0 0)]⟩
abbrev zt25 : TI := ⟨33, (.struct [(0, 2), (1, 121)]), [(.int .i64 0), (.int .u8 0), (.int .u8 0), (.int .u8 0), (.int .u8 0), (.int .u8 0), (.int .u8 0), (.int .u8 0), (.int .u8 0), (.int .u8 0), (.int .u8 0), (.int .u8 0), (.int .u8 0), (.int .u8 0), (.int .u8 0), (.int .u8 0), (.int .u8 0), (.int .u8 0), (.int .u8 0), (.int .u8 0), (.int .u8 0), (.int .u8 0), (.int .u8 0), (.int .u8 0), (.int .u8 0), (.int .u8 0), (.int .u8 0), (.int .u8 0), (.int .u8 0), (.int .u8 0), (.int .u8 0), (.int .u8 0), (.int .u8 0)]⟩
abbrev zt26 : TI := ⟨2, (.struct [(0, 3), (1, 3)]), [(.int .i64 0), (.int .i64 0)]⟩
abbrev zt27 : TI := ⟨4, (.struct [(0, 2), (1, 2), (2, 174), (3, 124)]), [(.int .i64 0), (.int .i64 0), (.slice none 0 0), (.slice none 0 0)]⟩
abbrev zt28 : TI := ⟨6, (.struct [(0, 3), (1, 176), (5, 177)]), [(.int .i64 0), (.int .i64 0), (.int .i64 0), (.slice none 0 0), (.slice none 0 0), (.slice none 0 0)]⟩
abbrev zt29 : TI := ⟨33, (.struct [(0, 121), (32, 39)]), [(.int .u8 0), (.int .u8 0), (.int .u8 0), (.int .u8 0), (.int .u8 0), (.int .u8 0), (.int .u8 0), (.int .u8 0), (.int .u8 0), (.int .u8 0), (.int .u8 0), (.int .u8 0), (.int .u8 0), (.int .u8 0), (.int .u8 0), (.int .u8 0), (.int .u8 0), (.int .u8 0), (.int .u8 0), (.int .u8 0), (.int .u8 0), (.int .u8 0), (.int .u8 0), (.int .u8 0), (.int .u8 0), (.int .u8 0), (.int .u8 0), (.int .u8 0), (.int .u8 0), (.int .u8 0), (.int .u8 0), (.int .u8 0), (.slice none 0 0)]⟩
abbrev zt30 : TI := ⟨8, (.struct [(0, 26), (7, 38)]), [(.int .i64 0), (.int .i64 0), (.int .i64 0), (.string ⟨#[]⟩), (.int .i64 0), (.int .i64 0), (.string ⟨#[]⟩), (.int .u32 0)]⟩
abbrev zt31 : TI := ⟨3, (.struct [(0, 2), (1, 2), (2, 184)]), [(.int .i64 0), (.int .i64 0), (.slice none 0 0)]⟩
abbrev zt32 : TI := ⟨34, (.struct [(0, 2), (1, 2), (2, 121)]), [(.int .i64 0), (.int .i64 0), (.int .u8 0), (.int .u8 0), (.int .u8 0), (.int .u8 0), (.int .u8 0), (.int .u8 0), (.int .u8 0), (.int .u8 0), (.int .u8 0), (.int .u8 0), (.int .u8 0), (.int .u8 0), (.int .u8 0), (.int .u8 0), (.int .u8 0), (.int .u8 0), (.int .u8 0), (.int .u8 0), (.int .u8 0), (.int .u8 0), (.int .u8 0), (.int .u8 0), (.int .u8 0), (.int .u8 0), (.int .u8 0), (.int .u8 0), (.int .u8 0), (.int .u8 0), (.int .u8 0), (.int .u8 0), (.int .u8 0), (.int .u8 0)]⟩
abbrev zt33 : TI := ⟨35, (.struct [(0, 3), (1, 2), (2, 121), (34, 38)]), [(.int .i64 0), (.int .i64 0), (.int .u8 0), (.int .u8 0), (.int .u8 0), (.int .u8 0), (.int .u8 0), (.int .u8 0), (.int .u8 0), (.int .u8 0), (.int .u8 0), (.int .u8 0), (.int .u8 0), (.int .u8 0), (.int .u8 0), (.int .u8 0), (.int .u8 0), (.int .u8 0), (.int .u8 0), (.int .u8 0), (.int .u8 0), (.int .u8 0), (.int .u8 0), (.int .u8 0), (.int .u8 0), (.int .u8 0), (.int .u8 0), (.int .u8 0), (.int .u8 0), (.int .u8 0), (.int .u8 0), (.int .u8 0), (.int .u8 0), (.int .u8 0), (.int .u32 0)]⟩
abbrev zt34 : TI := ⟨5, (.struct [(0, 2), (1, 2), (2, 199), (3, 161), (4, 161)]), [(.int .i64 0), (.int .i64 0), (.slice none 0 0), (.slice none 0 0), (.slice none 0 0)]⟩
abbrev zt35 : TI := ⟨12, (.struct [(0, 26), (7, 42), (11, 208)]), [(.int .i64 0), (.int .i64 0), (.int .i64 0), (.string ⟨#[]⟩), (.int .i64 0), (.int .i64 0), (.string ⟨#[]⟩), (.int .i64 0), (.int .i64 0), (.slice none 0 0), (.slice none 0 0), (.pointer none)]⟩
abbrev zt36 : TI := ⟨2, (.struct [(0, 3), (1, 40)]), [(.int .i64 0), (.slice none 0 0)]⟩
abbrev zt37 : TI := ⟨2, (.struct [(0, 3), (1, 9)]), [(.int .i64 0), (.string ⟨#[]⟩)]⟩
abbrev zt38 : TI := ⟨2, (.struct [(0, 228), (1, 229)]), [(.map none), (.map none)]⟩
abbrev zt39 : TI := ⟨6, (.struct [(0, 9), (1, 3), (2, 2), (3, 2), (4, 9), (5, 9)]), [(.string ⟨#[]⟩), (.int .i64 0), (.int .i64 0), (.int .i64 0), (.string ⟨#[]⟩), (.string ⟨#[]⟩)]⟩
abbrev zt40 : TI := ⟨3, (.struct [(0, 3), (1, 2), (2, 31)]), [(.int .i64 0), (.int .i64 0), (.int .i64 0)]⟩
abbrev zt41 : TI := ⟨2, (.struct [(0, 242), (1, 243)]), [(.map none), (.map none)]⟩
abbrev zt42 : TI := ⟨37, (.struct [(0, 201), (5, 121)]), [(.int .i64 0), (.int .i64 0), (.slice none 0 0), (.slice none 0 0), (.slice none 0 0), (.int .u8 0), (.int .u8 0), (.int .u8 0), (.int .u8 0), (.int .u8 0), (.int .u8 0), (.int .u8 0), (.int .u8 0), (.int .u8 0), (.int .u8 0), (.int .u8 0), (.int .u8 0), (.int .u8 0), (.int .u8 0), (.int .u8 0), (.int .u8 0), (.int .u8 0), (.int .u8 0), (.int .u8 0), (.int .u8 0), (.int .u8 0), (.int .u8 0), (.int .u8 0), (.int .u8 0), (.int .u8 0), (.int .u8 0), (.int .u8 0), (.int .u8 0), (.int .u8 0), (.int .u8 0), (.int .u8 0), (.int .u8 0)]⟩
abbrev zt43 : TI := ⟨34, (.struct [(0, 203), (33, 114)]), [(.int .i64 0), (.int .u8 0), (.int .u8 0), (.int .u8 0), (.int .u8 0), (.int .u8 0), (.int .u8 0), (.int .u8 0), (.int .u8 0), (.int .u8 0), (.int .u8 0), (.int .u8 0), (.int .u8 0), (.int .u8 0), (.int .u8 0), (.int .u8 0), (.int .u8 0), (.int .u8 0), (.int .u8 0), (.int .u8 0), (.int .u8 0), (.int .u8 0), (.int .u8 0), (.int .u8 0), (.int .u8 0), (.int .u8 0), (.int .u8 0), (.int .u8 0), (.int .u8 0), (.int .u8 0), (.int .u8 0), (.int .u8 0), (.int .u8 0), (.slice none 0 0)]⟩
abbrev zt44 : TI := ⟨4, (.struct [(0, 3), (1, 369), (2, 370), (3, 370)]), [(.int .i64 0), (.pointer none), (.pointer none), (.pointer none)]⟩
abbrev zt45 : TI := ⟨33, (.struct [(0, 121), (32, 184)]), [(.int .u8 0), (.int .u8 0), (.int .u8 0), (.int .u8 0), (.int .u8 0), (.int .u8 0), (.int .u8 0), (.int .u8 0), (.int .u8 0), (.int .u8 0), (.int .u8 0), (.int .u8 0), (.int .u8 0), (.int .u8 0), (.int .u8 0), (.int .u8 0), (.int .u8 0), (.int .u8 0), (.int .u8 0), (.int .u8 0), (.int .u8 0), (.int .u8 0), (.int .u8 0), (.int .u8 0), (.int .u8 0), (.int .u8 0), (.int .u8 0), (.int .u8 0), (.int .u8 0), (.int .u8 0), (.int .u8 0), (.int .u8 0), (.slice none 0 0)]⟩
abbrev zt46 : TI := ⟨3, (.struct [(0, 2), (1, 184), (2, 4)]), [(.int .i64 0), (.slice none 0 0), (.bool false)]⟩
abbrev zt47 : TI := ⟨6, (.struct [(0, 3), (1, 201)]), [(.int .i64 0), (.int .i64 0), (.int .i64 0), (.slice none 0 0), (.slice none 0 0), (.slice none 0 0)]⟩
abbrev zt48 : TI := ⟨2, (.struct [(0, 39), (1, 31)]), [(.slice none 0 0), (.int .i64 0)]⟩
abbrev zt49 : TI := ⟨2, (.struct [(0, 444), (1, 445)]), [(.map none), (.map none)]⟩
abbrev zt50 : TI := ⟨2, (.struct [(0, 5), (1, 9)]), [(.int .u8 0), (.string ⟨#[]⟩)]⟩
abbrev zt51 : TI := ⟨3, (.struct [(0, 3), (1, 3), (2, 9)]), [(.int .i64 0), (.int .i64 0), (.string ⟨#[]⟩)]⟩
def tab : List (Nat × TI) := [
  (1, zt0), (2, zt1), (3, zt1),
  (4, ⟨1, .one, [(.bool false)]⟩),
  (5, ⟨1, .one, [(.int .u8 0)]⟩),
  (6, ⟨1, .one, [(.int .u8 0)]⟩), (7, zt2), (8, zt2),
  (9, ⟨1, .one, [(.string ⟨#[]⟩)]⟩),
  (21, ⟨1, .one, [(.int .i32 0)]⟩), (22, zt3), (23, zt4), (24, zt4), (25, zt5), (26, zt5),
  (27, ⟨1, .one, [(.int .u64 0)]⟩), (30, zt3), (31, zt1), (34, zt6),
  (38, ⟨1, .one, [(.int .u32 0)]⟩), (39, zt3), (40, zt3), (41, zt7), (42, zt7), (43, zt8), (44, zt8), (50, zt0), (51, zt3), (54, zt6), (56, zt6), (63, zt9), (64, zt9),
  (65, ⟨7, (.array 7 9), [(.string ⟨#[]⟩), (.string ⟨#[]⟩), (.string ⟨#[]⟩), (.string ⟨#[]⟩), (.string ⟨#[]⟩), (.string ⟨#[]⟩), (.string ⟨#[]⟩)]⟩),
  (67, ⟨1, .one, [.nilIface]⟩),
  (68, ⟨1, .one, [.nilIface]⟩), (69, zt10), (70, zt10), (71, zt6), (72, zt10), (73, zt11), (74, zt11), (78, zt6), (80, zt6), (82, zt10), (83, zt10), (84, zt12), (85, zt12), (86, zt13), (87, zt13), (90, zt0),
  (91, ⟨7, (.array 7 90), [.nilFunc, .nilFunc, .nilFunc, .nilFunc, .nilFunc, .nilFunc, .nilFunc]⟩), (94, zt10), (95, zt3), (96, zt14), (97, zt14), (99, zt6), (101, zt6), (103, zt6), (105, zt6), (107, zt6), (109, zt6), (111, zt6), (113, zt10), (114, zt3), (115, zt3), (116, zt3), (117, zt15), (118, zt15), (121, zt9), (122, zt0), (123, zt6), (124, zt3), (125, zt16), (126, zt16),
  (127, ⟨1, .one, [(.int .u64 0)]⟩), (132, zt3), (133, zt17), (134, zt17), (139, zt0), (140, zt18), (141, zt18), (142, zt19), (143, zt19), (151, zt10), (152, zt20), (153, zt20), (154, zt10), (155, zt3), (156, zt21), (157, zt21), (158, zt10), (159, zt22), (160, zt22), (161, zt3), (162, zt23), (163, zt23), (164, zt10), (165, zt3), (166, zt24), (167, zt24), (168, zt6), (170, zt25), (171, zt25), (172, zt26), (173, zt26), (174, zt3), (175, zt27), (176, zt27), (177, zt3), (178, zt28), (179, zt28), (182, zt29), (183, zt29), (184, zt3), (186, zt30), (187, zt30), (190, zt31), (191, zt31), (193, zt32), (194, zt32), (197, zt33), (198, zt33), (199, zt3), (200, zt34), (201, zt34), (202, zt25), (203, zt25), (204, zt31), (205, zt31), (208, zt6), (210, zt35), (211, zt35), (212, zt36), (213, zt36), (215, zt37), (216, zt37), (227, zt0), (228, zt10), (229, zt10), (230, zt38), (231, zt38), (233, zt0), (234, zt39), (235, zt39), (236, zt40), (237, zt40), (242, zt10), (243, zt10), (244, zt41), (245, zt41), (249, zt0), (257, zt3), (260, zt0),
  (264, ⟨8, (.array 8 5), [(.int .u8 0), (.int .u8 0), (.int .u8 0), (.int .u8 0), (.int .u8 0), (.int .u8 0), (.int .u8 0), (.int .u8 0)]⟩),
  (265, ⟨2, (.array 2 2), [(.int .i64 0), (.int .i64 0)]⟩), (274, zt0), (275, zt0), (277, zt0), (279, zt0), (281, zt0), (282, zt3), (283, zt0), (291, zt42), (292, zt42), (302, zt0), (304, zt6), (314, zt43), (315, zt43), (322, zt26), (323, zt26), (332, zt0), (340, zt0), (341, zt0), (351, zt6), (369, zt6), (370, zt6), (371, zt44), (372, zt44), (374, zt45), (375, zt45), (385, zt46), (386, zt46), (393, zt47), (394, zt47), (401, zt0), (407, zt0), (408, zt0), (419, zt0), (434, zt48), (435, zt48), (444, zt10), (445, zt10), (446, zt49), (447, zt49), (453, zt0), (454, zt0), (466, zt3), (476, zt0), (513, zt0), (517, zt0), (678, zt50), (679, zt50), (681, zt51), (682, zt51)]
theorem tabOk : TabOk Tryz.prog tab := h7_ (by kernel_rfl)
theorem Ext.tr {a b c : World} (h : Ext [] a b) (k : Ext [] b c) : Ext [] a c := h.trans k (by simp)
theorem Ext.new (a : World) (o : Obj) : Ext [] a (a.alloc o) := (Ext.refl a).alloc o
theorem d7_ {P : Program} {m : Nat} (hm : m ≤ 10000) {t : TypeId} (hk : P.keyTypeAt m t = true) {xs ys : Array Value} {L1 L2 : List Lit} {D D' : Nat}
    (fx : (Value.agg xs).formed P t = true) (fy : (Value.agg ys).formed P t = true) (h1 : P.keyLits D t xs.toList = some L1) (h2 : P.keyLits D' t ys.toList = some L2) (b : Bool) (hb : b = true ↔ L1 = L2) (w : World) :
    (binOp .eql t (.agg xs) (.agg ys)).run P w = .ok (.bool b) w := by
  obtain ⟨r, hr, hiff⟩ := run_equalIn_deep (10000 - m) m t hk w D D' (.agg xs) (.agg ys) L1 L2 fx fy h1 h2
  rw [show 10000 - m + m = 10000 by omega] at hr
  simp only [binOp]
  simp only [Op.equal, Op.maxDepth, Sem.run_bind, hr, Result.andThen_ok, Sem.run_pure]
  congr 2
  rw [Bool.eq_iff_iff]; exact hiff.trans hb.symm
theorem gr_ {P : Program} {m : Nat} (hm : m ≤ 10000) {t : TypeId} (hk : P.keyTypeAt m t = true) {xs ys : Array Value} {L1 L2 : List Lit} {D D' : Nat}
    (fx : (Value.agg xs).formed P t = true) (fy : (Value.agg ys).formed P t = true) (h1 : P.keyLits D t xs.toList = some L1) (h2 : P.keyLits D' t ys.toList = some L2) (b : Bool) (hb : b = true ↔ L1 ≠ L2) (w : World) :
    (binOp .neq t (.agg xs) (.agg ys)).run P w = .ok (.bool b) w := by
  obtain ⟨r, hr, hiff⟩ := run_equalIn_deep (10000 - m) m t hk w D D' (.agg xs) (.agg ys) L1 L2 fx fy h1 h2
  rw [show 10000 - m + m = 10000 by omega] at hr
  simp only [binOp]
  simp only [Op.equal, Op.maxDepth, Sem.run_bind, hr, Result.andThen_ok, Sem.run_pure]
  congr 2
  cases r <;> cases b <;> simp_all
theorem eT_ {α β : Type} {f : α → List β} {sz : Nat} (hf : ∀ a, (f a).length = sz) : ∀ (xs : List α) (k j : Nat) (hk : k < xs.length), j < sz → (xs.flatMap f)[k * sz + j]? = (f xs[k])[j]? := by
  intro xs
  induction xs with
  | nil => intro k j hk; simp at hk
  | cons x xs ih =>
    intro k j hk hj
    rw [List.flatMap_cons, List.getElem?_append]
    cases k with
    | zero => rw [if_pos (by rw [hf]; omega)]; simp
    | succ k =>
      have hk' : k < xs.length := by simpa using hk
      rw [if_neg (by rw [hf, Nat.succ_mul]; omega), hf]
      rw [show (k + 1) * sz + j - sz = k * sz + j by rw [Nat.succ_mul]; omega, ih k j hk' hj]
      simp
theorem fe_ {α β : Type} {f : α → List β} {sz : Nat} (hf : ∀ a, (f a).length = sz) (xs : List α) : (xs.flatMap f).length = xs.length * sz := by
  induction xs with
  | nil => simp
  | cons x xs ih => rw [List.flatMap_cons, List.length_append, ih, hf, List.length_cons, Nat.succ_mul, Nat.add_comm]
theorem Row.elem {α : Type} {f : α → List Value} {sz : Nat} (hf : ∀ a, (f a).length = sz) (hsz : 0 < sz) {w : World} {A : Option Addr} {xs : List α} (h : Row w A (xs.flatMap f)) {k : Nat} (hk : k < xs.length) :
    ∃ b off : Nat, A = some ⟨b, off, none⟩ ∧ ∀ j u, (f xs[k])[j]? = some u → w.cell? ⟨b, off + k * sz + j, none⟩ = some u := by
  obtain ⟨b, off, rfl, hc⟩ := h (by
    intro h0
    have := fe_ hf xs
    rw [h0] at this
    have h1 : 0 < xs.length * sz := Nat.mul_pos (by omega) hsz
    simp at this
    omega)
  refine ⟨b, off, rfl, fun j u hu => ?_⟩
  have hj : j < sz := by rw [← hf xs[k]]; exact (List.getElem?_eq_some_iff.1 hu).1
  rw [Nat.add_assoc]
  exact hc _ u (by rw [eT_ hf xs k j hk hj]; exact hu)
end Go.Proofs.YtjclgkddfjbdiaaGreatDoor
