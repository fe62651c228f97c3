/-
  Packed out of the texts: Rd, A6, Names, Cores, ACor, A8, Tg, Maps, A9, A15.
-/
import Derived.Test.YtbhjchlflkgjbaaM13
import Derived.Maps.Keyed
import Derived.Maps.OwnSet
/-
  Readers, in plain Lean: what is read turns on the bytes alone.
-/
set_option maxRecDepth 100000
namespace Go.Proofs.Ytbhjchlflkgjbaa
open Go.RowKit

/-- Two readers of the same bytes. -/
def Rd.as (s t : Rd) : Prop := s.l = t.l ∧ s.e = t.e
section
variable {s t : Rd}
theorem Rd.as.bad (h : s.as t) (n : Int) : s.bad n ↔ t.bad n := by unfold Rd.bad; rw [h.1]
theorem Rd.as.fixed (h : s.as t) (n : Int) : (s.fixed n).as (t.fixed n) := by
  unfold Rd.fixed Rd.as
  by_cases he : t.e = 0
  · have he' : s.e = 0 := by rw [h.2, he]
    by_cases hb : t.bad n
    · simp [he, he', hb, (h.bad n).2 hb, h.1]
    · have hb' : ¬ s.bad n := fun x => hb ((h.bad n).1 x)
      simp [he, he', hb, hb', h.1]
  · have he' : s.e ≠ 0 := by rw [h.2]; exact he
    simp [he, h.1, h.2]
theorem Rd.as.out (h : s.as t) (n : Int) : s.out n = t.out n := by
  unfold Rd.out
  rw [h.1, h.2]
  by_cases hb : t.bad n
  · simp [hb, (h.bad n).2 hb]
  · have hb' : ¬ s.bad n := fun x => hb ((h.bad n).1 x)
    simp [hb, hb']
theorem Rd.as.num (h : s.as t) (n : Int) : s.num n = t.num n := by unfold Rd.num; rw [h.out]
theorem Rd.as.row (h : s.as t) (most : Int) : (s.row most).as (t.row most) := by
  have h1 := h.fixed 4
  unfold Rd.row
  rw [h1.2, h.num 4]
  split
  · exact h1
  · split
    · exact ⟨h1.1, rfl⟩
    · exact h1.fixed _
theorem Rd.as.rowOut (h : s.as t) (most : Int) : s.rowOut most = t.rowOut most := by
  have h1 := h.fixed 4
  unfold Rd.rowOut
  rw [h1.2, h.num 4, h1.out]
theorem Rd.as.end_ (h : s.as t) : s.end_ = t.end_ := by unfold Rd.end_; rw [h.1, h.2]
end
def Rd.of (l : List UInt8) : Rd := ⟨.slice none 0 0, l, 0⟩
theorem of_as (z : Value) (l : List UInt8) : (⟨z, l, 0⟩ : Rd).as (Rd.of l) := ⟨rfl, rfl⟩
theorem Rd.rowOut_length (s : Rd) (most : Int) : (s.rowOut most).length ≤ s.l.length := by
  have h1 := s.fixed_length 4
  unfold Rd.rowOut
  split
  · simp
  · split
    · simp
    · unfold Rd.out
      split
      · simp
      · split
        · simp
        · simp; omega
section
variable {P : Program} {n : Nat} {l : Slots} {D : World → Prop} {x y : Operand} {d : Option Nat} {ty t t' : TypeId} {pos : String} {aft : Array Edge} {g : Option (Nat × Bool)}
theorem Val.minN {k : IntKind} {i j : Nat} {b : Int} (hx : look l x = some (.int k i)) (hy : look l y = some (.int k b)) (hb : b = (j : Nat)) : Val P n l D ⟨d, .call { callee := .builtin .min, args := #[x, y], argTypes := #[t, t'] }, ty, pos, aft, g⟩ (.int k ((min i j : Nat) : Int)) := by
  subst hb
  have := Val.minI (P := P) (n := n) (D := D) (d := d) (t := t) (t' := t') (ty := ty) (pos := pos) (aft := aft) (g := g) hx hy
  rw [show (min (i : Int) (j : Int)) = ((min i j : Nat) : Int) by omega] at this
  exact this
end
end Go.Proofs.Ytbhjchlflkgjbaa
/-
  The second engine: the contracts of octets, as they stand.
-/
set_option maxRecDepth 100000
set_option linter.unusedSimpArgs false
set_option linter.unusedVariables false
namespace Go.Proofs.Ytbhjchlflkgjbaa.A
open Go.RowKit

abbrev int (x : Int) : Abs := .v (.int .i64 x)
abbrev wrd (x : Nat) : Abs := .v (.int .u64 (x : Nat))
abbrev boo (b : Bool) : Abs := .v (.bool b)
abbrev ptr (b : Nat) : Abs := .v (.pointer (some ⟨b, 0, none⟩))
/-- A reader in a block. -/
abbrev rdA (T : TypeId) (p : Nat) (s : Rd) : It := .blk p T [byt s.l, int s.e]
section
variable {P : Program} {f : FuncId}
/-- Rows of elements of plain cells. -/
abbrev flat {α : Type} (s : Nat) (c : α → List Value) (xs : List α) : Abs := .sl s (xs.map fun a => (c a).map .v)
theorem reps_plain {K : List Nat} {w : World} : ∀ {us vs : List Value}, reps K w (us.map .v) vs ↔ vs = us
  | [], vs => Iff.rfl
  | u :: us, vs => by
    constructor
    · rintro ⟨u', us', h1, h2, h3⟩
      have h2 : u' = u := h2
      rw [h1, h2, reps_plain.1 h3]
    · rintro rfl; exact ⟨u, us, rfl, rfl, reps_plain.2 rfl⟩
theorem repss_flat {K : List Nat} {w : World} {α : Type} {s : Nat} {c : α → List Value} (hc : ∀ a, (c a).length = s) : ∀ {xs : List α} {us : List Value}, repss K w s (xs.map fun a => (c a).map .v) us ↔ us = xs.flatMap c
  | [], us => Iff.rfl
  | x :: xs, us => by
    constructor
    · rintro ⟨u1, u2, h1, h2, h3, h4⟩
      rw [h1, reps_plain.1 h3, (repss_flat hc).1 h4, List.flatMap_cons]
    · rintro rfl
      exact ⟨c x, _, rfl, hc x, reps_plain.2 rfl, (repss_flat hc).2 rfl⟩
theorem rep_flat {K : List Nat} {w : World} {α : Type} {s : Nat} {c : α → List Value} (hc : ∀ a, (c a).length = s) {xs : List α} {x : Value} : rep K w (flat s c xs) x ↔ IsRow K w x xs.length (xs.flatMap c) := by
  constructor
  · rintro ⟨us, h1, h2⟩
    have := (repss_flat hc).1 h2
    subst this
    simpa using h1
  · intro h
    exact ⟨_, by simpa using h, (repss_flat hc).2 rfl⟩
/-- A function of readers, in general: what it answers turns on rows that are read. -/
theorem Spec.ofRdG {T p : Nat} {s t : Rd} {vals : List Value} {res : Abs} (h : ∀ (S : List (World × List Nat)) (σ2 : Proofs.Ytbhjchlflkgjbaa.Blks) (ρ : List Dt) (w : World) (v : Value), Proofs.Ytbhjchlflkgjbaa.Mem S (rdI T p ⟨v, s.l, s.e⟩ :: σ2) ρ w → bytesD v s.l ∈ ρ →
    Calls P f vals.toArray w fun e w' => ∃ r v' ρ', e = .returned r ∧ Proofs.Ytbhjchlflkgjbaa.Mem S (rdI T p ⟨v', t.l, t.e⟩ :: σ2) ρ' w' ∧ bytesD v' t.l ∈ ρ' ∧ ∀ K', (∀ x n cs, rowD x n cs ∈ ρ' → IsRow K' w' x n cs) → rep K' w' res r) : Spec P f (vals.map .v) [rdA T p s] (fun _ : Unit => [rdA T p t]) (fun _ => res) := fun G w vs hm hv => by
  have := reps_plain.1 hv
  subst this
  obtain ⟨us, hb, v, us', h1, h2, e, us2, h3, h4, h5⟩ := hm.hold (rdA T p s) (by simp)
  have h4 : e = .int .i64 s.e := h4
  have h5 : us2 = [] := h5
  subst h5 h4 h3 h1
  have h2 := rep_byt.1 h2
  have hpG : p ∉ G := hm.sep p (by simp [mids, It.mids])
  have hw2 : Proofs.Ytbhjchlflkgjbaa.Mem [(w, p :: G)] (rdI T p ⟨v, s.l, s.e⟩ :: [old2 w G]) [bytesD v s.l] w := by
    refine ⟨fun s hs => ?_, fun x hx k hk s hs => ?_, ?_, fun x hx => ?_, fun z hz => ?_⟩
    · rw [List.mem_singleton] at hs; subst hs; exact Ext.refl w
    · rw [List.mem_singleton] at hs
      subst hs
      rcases List.mem_cons.1 hx with rfl | hx
      · simp only [Proofs.Ytbhjchlflkgjbaa.It.ids, List.mem_singleton] at hk; exact .inl (by simp [hk])
      · rw [List.mem_singleton] at hx; subst hx
        exact .inl (List.mem_cons_of_mem _ (old2_ids.1 hk).2)
    · simp only [List.flatMap_cons, List.flatMap_nil, List.append_nil, List.nodup_append]
      refine ⟨by simp [Proofs.Ytbhjchlflkgjbaa.It.ids], List.Nodup.sublist List.filter_sublist List.nodup_range, fun a ha b hb he => ?_⟩
      simp only [Proofs.Ytbhjchlflkgjbaa.It.ids, List.mem_singleton] at ha
      subst ha he
      exact hpG (old2_ids.1 hb).2
    · rcases List.mem_cons.1 hx with rfl | hx
      · exact hb
      · rw [List.mem_singleton] at hx; subst hx; exact ⟨Nat.le_refl _, fun _ _ _ => rfl⟩
    · rw [List.mem_singleton] at hz; subst hz
      refine h2.grow fun k hk => .inl ?_
      simp only [List.flatMap_cons, List.flatMap_nil, List.append_nil, List.mem_append] at hk
      rcases hk with hk | hk
      · simp only [Proofs.Ytbhjchlflkgjbaa.It.ids, List.mem_singleton] at hk
        simp [mids, It.mids, hk]
      · simp [(old2_ids.1 hk).2]
  refine (h _ _ _ _ v hw2 (by simp)).mono fun e w' ⟨r, v', ρ', he, hm', hd, hd2⟩ => ?_
  have hx := hm'.ext (w, p :: G) (by simp)
  have ho : _ ∧ _ := hm'.hold (old2 w G) (by simp)
  have hx2 : Ext (mids [rdA T p s]) w w' := ⟨hx.os, hx.tape, hx.output, hx.size, fun k hk hn => by
    by_cases hK : k ∈ G
    · exact ho.2 k hk hK
    · exact hx.block k hk (by simp only [List.mem_cons, not_or]; exact ⟨by simpa [mids, It.mids] using hn, hK⟩)⟩
  have hb' : w'.heap[p]? = some (row T [v', .int .i64 t.e]) := hm'.holds (by simp)
  have hgrow : ∀ (x : Value) (m : Nat) (cs : List Value), rowD x m cs ∈ ρ' → IsRow (mids [rdA T p t] ++ G) w' x m cs := fun _ _ _ hd => (hm'.data hd).grow fun k hk => by
    simp only [List.mem_append] at hk
    refine .inl ?_
    simp only [List.flatMap_cons, List.flatMap_nil, List.append_nil, List.mem_append]
    rcases hk with hk | hk
    · exact .inl (by simpa [mids, It.mids, Proofs.Ytbhjchlflkgjbaa.It.ids] using hk)
    · exact .inr (old2_ids.2 ⟨hm.old k hk, hk⟩)
  refine ⟨(), r, he, by simp [It.rids], ⟨hx2, fun k hk => .inl hk, fun k hk hg => hpG (by simp [mids, It.mids] at hk; subst hk; exact hg), fun k hk => Nat.lt_of_lt_of_le (hm.old k hk) hx.size, by simp [It.rids], by simp [mids, It.mids], fun x hx => ?_⟩, hd2 _ hgrow⟩
  rw [List.mem_singleton] at hx; subst hx
  exact ⟨_, hb', _, _, rfl, rep_byt.2 (hgrow _ _ _ hd), _, _, rfl, rfl, rfl⟩
/-- A function of readers that answers a plain value. -/
theorem Spec.ofRd {T p : Nat} {s t : Rd} {vals : List Value} {u : Value} (h : ∀ (S : List (World × List Nat)) (σ2 : Proofs.Ytbhjchlflkgjbaa.Blks) (ρ : List Dt) (w : World) (v : Value), Proofs.Ytbhjchlflkgjbaa.Mem S (rdI T p ⟨v, s.l, s.e⟩ :: σ2) ρ w → bytesD v s.l ∈ ρ →
    Calls P f vals.toArray w fun e w' => ∃ v' ρ', e = .returned u ∧ Proofs.Ytbhjchlflkgjbaa.Mem S (rdI T p ⟨v', t.l, t.e⟩ :: σ2) ρ' w' ∧ bytesD v' t.l ∈ ρ') : Spec P f (vals.map .v) [rdA T p s] (fun _ : Unit => [rdA T p t]) (fun _ => .v u) :=
  Spec.ofRdG fun S σ2 ρ w v hw hd => (h S σ2 ρ w v hw hd).mono fun _ _ ⟨v', ρ', h1, h2, h3⟩ => ⟨u, v', ρ', h1, h2, h3, fun _ _ => rfl⟩
/-- A function of readers that answers bytes. -/
theorem Spec.ofRdB {T p : Nat} {s t : Rd} {vals : List Value} {out : List UInt8} (h : ∀ (S : List (World × List Nat)) (σ2 : Proofs.Ytbhjchlflkgjbaa.Blks) (ρ : List Dt) (w : World) (v : Value), Proofs.Ytbhjchlflkgjbaa.Mem S (rdI T p ⟨v, s.l, s.e⟩ :: σ2) ρ w → bytesD v s.l ∈ ρ →
    Calls P f vals.toArray w fun e w' => ∃ r v' ρ', e = .returned r ∧ Proofs.Ytbhjchlflkgjbaa.Mem S (rdI T p ⟨v', t.l, t.e⟩ :: σ2) ρ' w' ∧ bytesD v' t.l ∈ ρ' ∧ bytesD r out ∈ ρ') : Spec P f (vals.map .v) [rdA T p s] (fun _ : Unit => [rdA T p t]) (fun _ => byt out) :=
  Spec.ofRdG fun S σ2 ρ w v hw hd => (h S σ2 ρ w v hw hd).mono fun _ _ ⟨r, v', ρ', h1, h2, h3, h4⟩ => ⟨r, v', ρ', h1, h2, h3, fun _ hK => rep_byt.2 (hK _ _ _ h4)⟩
/-- A pure function of bytes. -/
theorem Pure.ofB {l out : List UInt8} {rest : List Value} (h : ∀ (S : List (World × List Nat)) (σ2 : Proofs.Ytbhjchlflkgjbaa.Blks) (ρ : List Dt) (w : World) (v : Value), Proofs.Ytbhjchlflkgjbaa.Mem S σ2 ρ w → bytesD v l ∈ ρ →
    Calls P f (v :: rest).toArray w fun e w' => ∃ r ρ', e = .returned r ∧ Proofs.Ytbhjchlflkgjbaa.Mem S σ2 ρ' w' ∧ bytesD r out ∈ ρ') : Pure P f (byt l :: rest.map .v) (byt out) := Pure.of2 fun K w vals hK hv => by
  obtain ⟨v, us', rfl, h1, h2⟩ := hv
  have := reps_plain.1 h2
  subst this
  refine (h _ _ _ _ v ((enter2 w K).add (z := bytesD v l) (row2 (rep_byt.1 h1))) (by simp)).mono fun e w' ⟨r, ρ', he, hm, hd⟩ => ⟨r, he, leave2 hm (by simp), rep_byt.2 (row3 hK ?_ (hm.data hd))⟩
  intro k hk hkK
  simp only [List.flatMap_cons, List.flatMap_nil, List.append_nil]
  exact old2_ids.2 ⟨hk, hkK⟩
theorem Pure.ofBB {l m out : List UInt8} (h : ∀ (S : List (World × List Nat)) (σ2 : Proofs.Ytbhjchlflkgjbaa.Blks) (ρ : List Dt) (w : World) (v r : Value), Proofs.Ytbhjchlflkgjbaa.Mem S σ2 ρ w → bytesD v l ∈ ρ → bytesD r m ∈ ρ →
    Calls P f #[v, r] w fun e w' => ∃ r ρ', e = .returned r ∧ Proofs.Ytbhjchlflkgjbaa.Mem S σ2 ρ' w' ∧ bytesD r out ∈ ρ') : Pure P f [byt l, byt m] (byt out) := Pure.of2 fun K w vals hK hv => by
  obtain ⟨v, us', rfl, h1, r, us2, rfl, h2, h3⟩ := hv
  have h3 : us2 = [] := h3
  subst h3
  refine (h _ _ _ _ v r (((enter2 w K).add (z := bytesD v l) (row2 (rep_byt.1 h1))).add (z := bytesD r m) (row2 (rep_byt.1 h2))) (by simp) (by simp)).mono fun e w' ⟨r, ρ', he, hm, hd⟩ => ⟨r, he, leave2 hm (by simp), rep_byt.2 (row3 hK ?_ (hm.data hd))⟩
  intro k hk hkK
  simp only [List.flatMap_cons, List.flatMap_nil, List.append_nil]
  exact old2_ids.2 ⟨hk, hkK⟩
end
section
variable {l m : List UInt8} {p : Nat} {s : Rd}
theorem put_s {x : Nat} {n : Int} (hl : l.length ≤ lots) (hx : x < 18446744073709551616) (hn : sizeB n = true) : Pure Try.prog 39 [byt l, wrd x, int n] (byt (l ++ beBytes x n.toNat)) :=
  Pure.ofB (rest := [_, _]) fun _ _ _ _ _ hw hd => (put_c hw (hw.bytes hd) hl hx hn).mono fun _ _ ⟨r, h1, h2⟩ => ⟨r, _, h1, h2, by simp⟩
theorem rput_s {x n : Nat} (hl : l.length + 8 ≤ lots) (hn : sizeB n = true) : Pure Try.prog 45 [byt l, wrd x, int n] (byt (l ++ beBytes x n)) :=
  Pure.ofB (rest := [_, _]) fun _ _ _ _ _ hw hd => (rput_c hw hd hl hn).mono fun _ _ ⟨r, h1, h2⟩ => ⟨r, _, h1, h2, by simp⟩
theorem row_s (hl : l.length + m.length + 4 ≤ lots) (hm : m.length < 4294967296) : Pure Try.prog 40 [byt l, byt m] (byt (l ++ beBytes m.length 4 ++ m)) :=
  Pure.ofBB fun _ _ _ _ _ _ hw hd hd2 => (oct_Row hw hd hd2 hl hm).mono fun _ _ ⟨r, h1, h2⟩ => ⟨r, _, h1, h2, by simp⟩
theorem rrow_s (hl : l.length + m.length + 8 ≤ lots) (hm : m.length < 4294967296) : Pure Try.prog 46 [byt l, byt m] (byt (l ++ beBytes m.length 4 ++ m)) :=
  Pure.ofBB fun _ _ _ _ _ _ hw hd hd2 => (roct_Row hw hd hd2 hl hm).mono fun _ _ ⟨r, h1, h2⟩ => ⟨r, _, h1, h2, by simp⟩
abbrev pv (p : Nat) : Value := .pointer (some ⟨p, 0, none⟩)
theorem as_mk (v : Value) (s : Rd) : (⟨v, s.l, s.e⟩ : Rd).as s := ⟨rfl, rfl⟩
/-- The reader's slice in sight or not. -/
theorem rdI_as {T : Nat} {s t : Rd} (h : s.as t) : rdI T p s = rdI T p ⟨s.v, t.l, t.e⟩ := by rw [rdI, rdI, h.2]
theorem _root_.Go.Proofs.Ytbhjchlflkgjbaa.Rd.as.count {s t : Rd} (h : s.as t) (most : Int) : (s.count most).as (t.count most) := by
  unfold Rd.count
  rw [(h.fixed 2).2, h.num]
  split
  · exact ⟨(h.fixed 2).1, rfl⟩
  · exact h.fixed 2
theorem _root_.Go.Proofs.Ytbhjchlflkgjbaa.Rd.as.countN {s t : Rd} (h : s.as t) (most : Int) : s.countN most = t.countN most := by
  unfold Rd.countN
  rw [(h.fixed 2).2, h.num]
end
end Go.Proofs.Ytbhjchlflkgjbaa.A
/-
  Names of letters, and cores that may be: the program's and the document's, over the engine.
-/
set_option maxRecDepth 100000
namespace Go.Proofs.Ytbhjchlflkgjbaa
open Go.RowKit

/-- A letter of a name. -/
def nameC (c : Nat) : Bool := (decide (97 ≤ c) && decide (c ≤ 122)) || (decide (48 ≤ c) && decide (c ≤ 57)) || decide (c = 45)
def nameB (s : ByteArray) : Bool := s.data.toList.all (fun c => nameC c.toNat) && decide (1 ≤ s.size) && decide (s.size ≤ 16)
section
variable {S : List (World × List Nat)} {σ τ : Blks} {ρ : List Dt} {w : World}
theorem all_at {s : ByteArray} {k : Nat} (h : k < s.size) (hb : nameC (s[k]'h).toNat = false) : s.data.toList.all (fun c => nameC c.toNat) = false := by
  rw [List.all_eq_false]
  refine ⟨s[k]'h, ?_, by rw [hb]; decide⟩
  have : s[k]'h = s.data.toList[k]'(by simpa using h) := rfl
  rw [this]
  exact List.getElem_mem _
theorem all_all {s : ByteArray} (hp : ∀ j (hj : j < s.size), nameC (s[j]'hj).toNat = true) : s.data.toList.all (fun c => nameC c.toNat) = true := by
  rw [List.all_eq_true]
  intro c hc
  obtain ⟨j, hj, rfl⟩ := List.getElem_of_mem hc
  exact hp j (by simpa using hj)

end
end Go.Proofs.Ytbhjchlflkgjbaa
/-
  Cores: whether they may be, and their bytes: the program's and the document's, over the engine.
-/
set_option maxRecDepth 100000
namespace Go.Proofs.Ytbhjchlflkgjbaa
open Go.RowKit

structure Core where
  client : Int
  stamp : Int
  op : Int
  letter : ByteArray
  a : Int
  b : Int
  text : ByteArray
def Core.cells (c : Core) : List Value := [.int .i64 c.client, .int .i64 c.stamp, .int .i64 c.op, .string c.letter, .int .i64 c.a, .int .i64 c.b, .string c.text]
def Core.check (c : Core) (n : Int) : Int :=
  if n < 1 ∨ 7 < n then 1 else if c.client < n ∨ n + 4 ≤ c.client then 17 else if c.stamp < 1 ∨ 1099511627776 < c.stamp ∨ c.op < 1 ∨ 9 < c.op then 5 else if nameB c.letter = false then 7 else if 200 < c.text.size then 3 else 0
def rowB (m : List UInt8) : List UInt8 := beBytes m.length 4 ++ m
def Core.bytes (c : Core) : List UInt8 :=
  beBytes (u64 c.client) 1 ++ beBytes (u64 c.stamp) 8 ++ beBytes (u64 c.op) 1 ++ rowB c.letter.data.toList ++ beBytes (u64 c.a) 8 ++ beBytes (u64 c.b) 8 ++ rowB c.text.data.toList
theorem u64_lt (x : Int) : u64 x < 18446744073709551616 := by unfold u64; omega
section
variable {S : List (World × List Nat)} {σ τ : Blks} {ρ : List Dt} {w : World} {P : Program} {n : Nat} {l : Slots} {D : World → Prop} {x y : Operand} {d : Option Nat} {ty t : TypeId} {pos : String} {aft : Array Edge} {g : Option (Nat × Bool)} {v : Value}
/-- An element of an array's value. -/
theorem Val.indexAr1 {tab : List (Nat × TI)} (hT : TabOk P tab) {sz m e sz' : Nat} {zs zs' L : List Value} {k : IntKind} {r : Int} {q : Nat} (ht : ti tab t = some ⟨sz, .array m e, zs⟩) (hj : ti tab e = some ⟨sz', .one, zs'⟩) (hs : Nat.beq sz' 1 = true) (hx : look l x = some (.agg L.toArray)) (hy : look l y = some (.int k r)) (hr : r = (q : Nat)) (hq : q < m) (hv : L[q]? = some v) :
    Val P n l D ⟨d, .index t x y, ty, pos, aft, g⟩ v := fun A w hf hD => by
  obtain ⟨dd, hu, hk⟩ := (hT t _ ht).und
  cases dd <;> simp [kindOk] at hk
  obtain ⟨rfl, rfl⟩ := hk
  have h1 := (hT _ _ hj).sizeOf (w := w)
  have h2 := (hT _ _ hj).isAgg (w := w)
  rw [show sz' = 1 from Nat.eq_of_beq_eq_true hs] at h1
  subst hr
  simp [execOp, Instr.index, asIntOf, hf.eval hx, hf.eval hy, run_underlying hu, Sem.run_bind, Result.andThen, hq, h1, part, h2, hv]

set_option maxHeartbeats 1000000 in
theorem coreBytes_c {c : Core} (hw : Mem S σ ρ w) (h1 : c.letter.size ≤ 1000000) (h2 : c.text.size ≤ 1000000) : Calls Try.prog 22 #[.agg c.cells.toArray] w fun e w' => ∃ r, e = .returned r ∧ Mem S σ (bytesD r c.bytes :: ρ) w' := by
  have h3 : c.letter.size ≤ lots := by unfold lots; omega
  have h4 : c.text.size ≤ lots := by unfold lots; omega
  have hL : c.letter.data.toList.length ≤ 1000000 := h1
  have hT : c.text.data.toList.length ≤ 1000000 := h2
  refine calls_of [.agg c.cells.toArray] Try.func22 rfl Try.ntmps22 rfl (Mem S σ ρ) hw ?_
  refine SC.seq (SC.region ?_)
  refine SL.eff (Eff.boxA rfl) rfl rfl ?_
  rintro _ _ ⟨b1, rfl, rfl⟩
  refine SL.val (Val.assign rfl) rfl rfl ?_
  refine SL.nil (SE.seq ?_)
  refine SC.seq (SC.region ?_)
  refine SL.val (Val.fieldAddr tabOk rfl rfl rfl rfl rfl) rfl rfl ?_
  first
    | refine SL.val (Val.load1 tabOk rfl rfl (by repeat (first | assumption | exact List.mem_cons_self | exact hmem _ | apply List.mem_cons_of_mem)) (by rfl)) rfl rfl ?_
    | refine SL.val (Val.load1C tabOk rfl rfl (by assumption)) rfl rfl ?_
  first
    | refine SL.val (Val.convI rfl Try.underlying85 (by kernel_rfl) (by simp only [InR, lo, hi]; omega)) rfl rfl ?_
    | refine SL.val (Val.convU rfl Try.underlying85 (by kernel_rfl)) rfl rfl ?_
  refine SL.call (by kernel_rfl) rfl rfl rfl ?_
  intro w hw
  refine (put_c (l := []) (x := u64 c.client) (n := 1) hw (BytesV.nil _) (by first | exact Nat.zero_le _ | (simp only [List.length_append, beBytes_length, List.length_nil]; unfold lots; omega)) (u64_lt _) rfl).mono ?_; rintro _ _ ⟨r, rfl, hm⟩; refine ⟨_, _, rfl, hm, ?_⟩; clear hm hw w
  refine SL.val (Val.assign rfl) rfl rfl ?_
  refine SL.nil (SE.seq ?_)
  refine SC.seq (SC.region ?_)
  refine SL.val (Val.move rfl) rfl rfl ?_
  refine SL.val (Val.fieldAddr tabOk rfl rfl rfl rfl rfl) rfl rfl ?_
  first
    | refine SL.val (Val.load1 tabOk rfl rfl (by repeat (first | assumption | exact List.mem_cons_self | exact hmem _ | apply List.mem_cons_of_mem)) (by rfl)) rfl rfl ?_
    | refine SL.val (Val.load1C tabOk rfl rfl (by assumption)) rfl rfl ?_
  first
    | refine SL.val (Val.convI rfl Try.underlying85 (by kernel_rfl) (by simp only [InR, lo, hi]; omega)) rfl rfl ?_
    | refine SL.val (Val.convU rfl Try.underlying85 (by kernel_rfl)) rfl rfl ?_
  refine SL.call (by kernel_rfl) rfl rfl rfl ?_
  intro w hw
  refine (put_c (l := ([] ++ beBytes (u64 c.client) (Int.toNat 1))) (x := u64 c.stamp) (n := 8) hw (hw.bytes (by repeat (first | assumption | exact List.mem_cons_self | exact hmem _ | apply List.mem_cons_of_mem))) (by first | exact Nat.zero_le _ | (simp only [List.length_append, beBytes_length, List.length_nil]; unfold lots; omega)) (u64_lt _) rfl).mono ?_; rintro _ _ ⟨r, rfl, hm⟩; refine ⟨_, _, rfl, hm, ?_⟩; clear hm hw w
  refine SL.val (Val.assign rfl) rfl rfl ?_
  refine SL.nil (SE.seq ?_)
  refine SC.seq ?_
  refine SC.draw _ (.q 0 (.q 1 (.q 2 (.q 3 (.q 5 (.q 6 (.two 4 7 (.e 7 (.e 8 (.q 9 .nil))) (.e 4 (.e 8 (.q 9 .nil)))))))))) (by kernel_rfl) (by kernel_rfl) (fun _ h => h) (fun _ h => h.drew) ?_
  refine SX.val rfl (Val.move rfl) rfl rfl ?_
  refine SX.val rfl (Val.fieldAddr tabOk rfl rfl rfl rfl rfl) rfl rfl ?_
  first
    | refine SX.val rfl (Val.load1 tabOk rfl rfl (by repeat (first | assumption | exact List.mem_cons_self | exact hmem _ | apply List.mem_cons_of_mem)) (by rfl)) rfl rfl ?_
    | refine SX.val rfl (Val.load1C tabOk rfl rfl (by assumption)) rfl rfl ?_
  first
    | refine SX.val rfl (Val.convI rfl Try.underlying85 (by kernel_rfl) (by simp only [InR, lo, hi]; omega)) rfl rfl ?_
    | refine SX.val rfl (Val.convU rfl Try.underlying85 (by kernel_rfl)) rfl rfl ?_
  refine SX.val rfl (Val.fieldAddr tabOk rfl rfl rfl rfl rfl) rfl rfl ?_
  first
    | refine SX.val rfl (Val.load1 tabOk rfl rfl (by repeat (first | assumption | exact List.mem_cons_self | exact hmem _ | apply List.mem_cons_of_mem)) (by rfl)) rfl rfl ?_
    | refine SX.val rfl (Val.load1C tabOk rfl rfl (by assumption)) rfl rfl ?_
  refine SX.two ?_ ?_
  · skip
    refine SX.call rfl (by kernel_rfl) rfl rfl rfl ?_
    intro w hw
    refine (put_c (l := (([] ++ beBytes (u64 c.client) (Int.toNat 1)) ++ beBytes (u64 c.stamp) (Int.toNat 8))) (x := u64 c.op) (n := 1) hw (hw.bytes (by repeat (first | assumption | exact List.mem_cons_self | exact hmem _ | apply List.mem_cons_of_mem))) (by first | exact Nat.zero_le _ | (simp only [List.length_append, beBytes_length, List.length_nil]; unfold lots; omega)) (u64_lt _) rfl).mono ?_; rintro _ _ ⟨r, rfl, hm⟩; refine ⟨_, _, rfl, hm, _, fun _ h => h.less (fun _ hx => List.mem_cons_of_mem _ hx), fun _ h => h, ?_⟩; clear hm hw w
    refine SX.eff rfl (Eff.strBytes rfl Try.underlying9 Try.underlying40 (by first | assumption | omega)) rfl rfl ?_
    rintro sb22 _ rfl
    refine ⟨_, fun _ h => h.less (fun _ hx => List.mem_cons_of_mem _ hx), fun _ h => h, ?_⟩
    refine SX.call rfl (by kernel_rfl) rfl rfl rfl ?_
    intro w hw
    refine (oct_Row (l := ((([] ++ beBytes (u64 c.client) (Int.toNat 1)) ++ beBytes (u64 c.stamp) (Int.toNat 8)) ++ beBytes (u64 c.op) (Int.toNat 1))) (m := c.letter.data.toList) hw (by repeat (first | assumption | exact List.mem_cons_self | exact hmem _ | apply List.mem_cons_of_mem)) (by repeat (first | assumption | exact List.mem_cons_self | exact hmem _ | apply List.mem_cons_of_mem)) (by simp only [List.length_append, beBytes_length, List.length_nil]; unfold lots; omega) (by omega)).mono ?_; rintro _ _ ⟨r, rfl, hm⟩; refine ⟨_, _, rfl, hm, _, fun _ h => h.less (fun _ hx => List.mem_cons_of_mem _ hx), fun _ h => h, ?_⟩; clear hm hw w
    refine SX.val rfl (Val.assign rfl) rfl rfl ?_
    refine SX.nil (SE.seq ?_)
    refine SC.seq ?_
    refine SC.seq (SC.region ?_)
    refine SL.val (Val.fieldAddr tabOk rfl rfl rfl rfl rfl) rfl rfl ?_
    first
      | refine SL.val (Val.load1 tabOk rfl rfl (by repeat (first | assumption | exact List.mem_cons_self | exact hmem _ | apply List.mem_cons_of_mem)) (by rfl)) rfl rfl ?_
      | refine SL.val (Val.load1C tabOk rfl rfl (by assumption)) rfl rfl ?_
    refine SL.val (Val.fieldAddr tabOk rfl rfl rfl rfl rfl) rfl rfl ?_
    first
      | refine SL.val (Val.load1 tabOk rfl rfl (by repeat (first | assumption | exact List.mem_cons_self | exact hmem _ | apply List.mem_cons_of_mem)) (by rfl)) rfl rfl ?_
      | refine SL.val (Val.load1C tabOk rfl rfl (by assumption)) rfl rfl ?_
    refine SL.val (Val.buildA tabOk rfl rfl rfl rfl) rfl rfl ?_
    refine SL.val (Val.move rfl) rfl rfl ?_
    refine SL.nil (SE.seq ?_)
    refine SC.block ?_
    refine SC.loop (ι := Nat × Value) (fun z => [(1, .pointer (some ⟨b1, 0, none⟩)), (3, z.2), (28, .agg [.int .i64 c.a, .int .i64 c.b].toArray), (29, .int .i64 (z.1 : Nat))]) (fun z w' => z.1 ≤ 2 ∧ Mem S (.blk b1 (row 23 c.cells) :: σ) (bytesD z.2 ((((([] ++ beBytes (u64 c.client) (Int.toNat 1)) ++ beBytes (u64 c.stamp) (Int.toNat 8)) ++ beBytes (u64 c.op) (Int.toNat 1)) ++ beBytes c.letter.data.toList.length 4 ++ c.letter.data.toList) ++ (([c.a, c.b].take z.1).flatMap fun x => beBytes (u64 x) (Int.toNat 8))) :: ρ) w') (fun z => 2 - z.1) (0, _) (by exact ⟨rfl, rfl, rfl, rfl, trivial⟩) (fun w' hw' => ⟨by omega, hw'.less (by intro x hx; simp only [List.take_zero, List.flatMap_nil, List.append_nil] at hx; rcases List.mem_cons.1 hx with rfl | hx <;> simp [*])⟩) ?_
    intro z
    refine SC.facts ?_
    intro hz
    have hlen : ((((([] ++ beBytes (u64 c.client) (Int.toNat 1)) ++ beBytes (u64 c.stamp) (Int.toNat 8)) ++ beBytes (u64 c.op) (Int.toNat 1)) ++ beBytes c.letter.data.toList.length 4 ++ c.letter.data.toList) ++ (([c.a, c.b].take z.1).flatMap fun x => beBytes (u64 x) (Int.toNat 8))).length ≤ 10 + (4 + c.letter.data.toList.length) + 16 := by
      simp only [List.length_append, beBytes_length, List.length_nil]
      have : ((([c.a, c.b].take z.1).flatMap fun x => beBytes (u64 x) (Int.toNat 8))).length ≤ 16 := by
        rcases (by omega : z.1 = 0 ∨ z.1 = 1 ∨ z.1 = 2) with h | h | h <;> rw [h] <;> simp [beBytes_length]
      omega
    refine SC.seq (SC.region ?_)
    refine SL.val (Val.ltI rfl rfl) rfl rfl ?_
    refine SL.nil (SE.seq ?_)
    refine SC.seq ?_
    refine SC.condP rfl ?_ ?_
    rotate_left
    · intro hc30
      have e2 : ((((([] ++ beBytes (u64 c.client) (Int.toNat 1)) ++ beBytes (u64 c.stamp) (Int.toNat 8)) ++ beBytes (u64 c.op) (Int.toNat 1)) ++ beBytes c.letter.data.toList.length 4 ++ c.letter.data.toList) ++ (([c.a, c.b].take z.1).flatMap fun x => beBytes (u64 x) (Int.toNat 8))) = (((([] ++ beBytes (u64 c.client) (Int.toNat 1)) ++ beBytes (u64 c.stamp) (Int.toNat 8)) ++ beBytes (u64 c.op) (Int.toNat 1)) ++ beBytes c.letter.data.toList.length 4 ++ c.letter.data.toList) ++ (beBytes (u64 c.a) (Int.toNat 8) ++ beBytes (u64 c.b) (Int.toNat 8)) := by
        have h : z.1 = 2 := by omega
        rw [h]
        simp
      rw [e2] at *
      refine SC.exit ?_
      refine SE.then_ (by intro h; cases h) ?_
      refine SE.then_ (by intro h; cases h) ?_
      refine SE.exit ?_
      refine SE.seq ?_
      refine SC.seq (SC.region ?_)
      refine SL.val (Val.move rfl) rfl rfl ?_
      refine SL.val (Val.fieldAddr tabOk rfl rfl rfl rfl rfl) rfl rfl ?_
      first
        | refine SL.val (Val.load1 tabOk rfl rfl (by repeat (first | assumption | exact List.mem_cons_self | exact hmem _ | apply List.mem_cons_of_mem)) (by rfl)) rfl rfl ?_
        | refine SL.val (Val.load1C tabOk rfl rfl (by assumption)) rfl rfl ?_
      refine SL.eff (Eff.strBytes rfl Try.underlying9 Try.underlying40 (by first | assumption | omega)) rfl rfl ?_
      rintro sb40 _ rfl
      refine SL.call (by kernel_rfl) rfl rfl rfl ?_
      intro w hw
      refine (oct_Row (l := ((((([] ++ beBytes (u64 c.client) (Int.toNat 1)) ++ beBytes (u64 c.stamp) (Int.toNat 8)) ++ beBytes (u64 c.op) (Int.toNat 1)) ++ beBytes c.letter.data.toList.length 4 ++ c.letter.data.toList) ++ (beBytes (u64 c.a) (Int.toNat 8) ++ beBytes (u64 c.b) (Int.toNat 8)))) (m := c.text.data.toList) hw (by repeat (first | assumption | exact List.mem_cons_self | exact hmem _ | apply List.mem_cons_of_mem)) (by repeat (first | assumption | exact List.mem_cons_self | exact hmem _ | apply List.mem_cons_of_mem)) (by simp only [List.length_append, beBytes_length, List.length_nil]; unfold lots; omega) (by omega)).mono ?_; rintro _ _ ⟨r, rfl, hm⟩; refine ⟨_, _, rfl, hm, ?_⟩; clear hm hw w
      refine SL.val (Val.assign rfl) rfl rfl ?_
      refine SL.nil (SE.seq ?_)
      refine SC.ret ?_
      refine SE.ret1 rfl rfl ?_
      intro w' hw'
      refine ⟨_, rfl, (hw'.sub (fun _ h => h) (List.sublist_cons_self _ _)).less (fun x hx => ?_)⟩
      rcases List.mem_cons.1 hx with rfl | hx
      · have e3 : c.bytes = (((([] ++ beBytes (u64 c.client) (Int.toNat 1)) ++ beBytes (u64 c.stamp) (Int.toNat 8)) ++ beBytes (u64 c.op) (Int.toNat 1)) ++ beBytes c.letter.data.toList.length 4 ++ c.letter.data.toList) ++ (beBytes (u64 c.a) (Int.toNat 8) ++ beBytes (u64 c.b) (Int.toNat 8)) ++ beBytes c.text.data.toList.length 4 ++ c.text.data.toList := by simp [Core.bytes, rowB]
        rw [e3]; simp
      · simp [*]
    intro hc30
    have hlt : z.1 < [c.a, c.b].length := by show z.1 < 2; omega
    have helt : [Value.int .i64 c.a, Value.int .i64 c.b][z.1]? = some (.int .i64 ([c.a, c.b][z.1]'hlt)) := by
      rcases (by omega : z.1 = 0 ∨ z.1 = 1) with h | h <;> simp only [h] <;> rfl
    refine SC.skip ?_
    refine SE.seq ?_
    refine SC.seq ?_
    refine SC.block ?_
    refine SC.seq (SC.region ?_)
    refine SL.val (Val.indexAr1 (L := [.int .i64 c.a, .int .i64 c.b]) (v := .int .i64 ([c.a, c.b][z.1]'hlt)) (q := z.1) tabOk rfl rfl rfl rfl rfl rfl hlt helt) rfl rfl ?_
    refine SL.val (Val.assign rfl) rfl rfl ?_
    refine SL.nil (SE.seq ?_)
    refine SC.region ?_
    refine SL.val (Val.move rfl) rfl rfl ?_
    refine SL.val (Val.move rfl) rfl rfl ?_
    first
      | refine SL.val (Val.convI rfl Try.underlying85 (by kernel_rfl) (by simp only [InR, lo, hi]; omega)) rfl rfl ?_
      | refine SL.val (Val.convU rfl Try.underlying85 (by kernel_rfl)) rfl rfl ?_
    refine SL.call (by kernel_rfl) rfl rfl rfl ?_
    intro w hw
    refine (put_c (l := ((((([] ++ beBytes (u64 c.client) (Int.toNat 1)) ++ beBytes (u64 c.stamp) (Int.toNat 8)) ++ beBytes (u64 c.op) (Int.toNat 1)) ++ beBytes c.letter.data.toList.length 4 ++ c.letter.data.toList) ++ (([c.a, c.b].take z.1).flatMap fun x => beBytes (u64 x) (Int.toNat 8)))) (x := u64 ([c.a, c.b][z.1]'hlt)) (n := 8) hw (hw.bytes (by repeat (first | assumption | exact List.mem_cons_self | exact hmem _ | apply List.mem_cons_of_mem))) (by unfold lots; omega) (u64_lt _) rfl).mono ?_; rintro _ _ ⟨r, rfl, hm⟩; refine ⟨_, _, rfl, hm, ?_⟩; clear hm hw w
    refine SL.val (Val.assign rfl) rfl rfl ?_
    refine SL.nil ?_
    refine SE.inBlock ?_
    refine SE.seq ?_
    refine SC.region ?_
    first
      | refine SL.val (Val.addI rfl rfl (by simp only [InR, lo, hi]; omega)) rfl rfl ?_
      | refine SL.val (Val.addW rfl rfl) rfl rfl ?_
    refine SL.val (Val.move rfl) rfl rfl ?_
    refine SL.nil ?_
    refine SE.round (z.1 + 1, r) (by show 2 - (z.1 + 1) < 2 - z.1; omega) (by exact ⟨rfl, rfl, rfl, rfl, trivial⟩) (fun w' hw' => ⟨by show z.1 + 1 ≤ 2; omega, ?_⟩)
    have e1 : ((((([] ++ beBytes (u64 c.client) (Int.toNat 1)) ++ beBytes (u64 c.stamp) (Int.toNat 8)) ++ beBytes (u64 c.op) (Int.toNat 1)) ++ beBytes c.letter.data.toList.length 4 ++ c.letter.data.toList) ++ (([c.a, c.b].take (z.1 + 1)).flatMap fun x => beBytes (u64 x) (Int.toNat 8))) = ((((([] ++ beBytes (u64 c.client) (Int.toNat 1)) ++ beBytes (u64 c.stamp) (Int.toNat 8)) ++ beBytes (u64 c.op) (Int.toNat 1)) ++ beBytes c.letter.data.toList.length 4 ++ c.letter.data.toList) ++ (([c.a, c.b].take z.1).flatMap fun x => beBytes (u64 x) (Int.toNat 8))) ++ beBytes (u64 ([c.a, c.b][z.1]'hlt)) (Int.toNat 8) := by
      rw [List.take_succ_eq_append_getElem hlt, List.flatMap_append, ← List.append_assoc]
      simp
    show Mem S _ (bytesD r ((((([] ++ beBytes (u64 c.client) (Int.toNat 1)) ++ beBytes (u64 c.stamp) (Int.toNat 8)) ++ beBytes (u64 c.op) (Int.toNat 1)) ++ beBytes c.letter.data.toList.length 4 ++ c.letter.data.toList) ++ (([c.a, c.b].take (z.1 + 1)).flatMap fun x => beBytes (u64 x) (Int.toNat 8))) :: ρ) w'
    rw [e1]
    exact hw'.less (fun x hx => by rcases List.mem_cons.1 hx with rfl | hx <;> simp [*])
  · skip
    refine SX.eff rfl (Eff.strBytes rfl Try.underlying9 Try.underlying40 (by first | assumption | omega)) rfl rfl ?_
    rintro sb22 _ rfl
    refine ⟨_, fun _ h => h.less (fun _ hx => List.mem_cons_of_mem _ hx), fun _ h => h, ?_⟩
    refine SX.call rfl (by kernel_rfl) rfl rfl rfl ?_
    intro w hw
    refine (put_c (l := (([] ++ beBytes (u64 c.client) (Int.toNat 1)) ++ beBytes (u64 c.stamp) (Int.toNat 8))) (x := u64 c.op) (n := 1) hw (hw.bytes (by repeat (first | assumption | exact List.mem_cons_self | exact hmem _ | apply List.mem_cons_of_mem))) (by first | exact Nat.zero_le _ | (simp only [List.length_append, beBytes_length, List.length_nil]; unfold lots; omega)) (u64_lt _) rfl).mono ?_; rintro _ _ ⟨r, rfl, hm⟩; refine ⟨_, _, rfl, hm, _, fun _ h => h.less (fun _ hx => List.mem_cons_of_mem _ hx), fun _ h => h, ?_⟩; clear hm hw w
    refine SX.call rfl (by kernel_rfl) rfl rfl rfl ?_
    intro w hw
    refine (oct_Row (l := ((([] ++ beBytes (u64 c.client) (Int.toNat 1)) ++ beBytes (u64 c.stamp) (Int.toNat 8)) ++ beBytes (u64 c.op) (Int.toNat 1))) (m := c.letter.data.toList) hw (by repeat (first | assumption | exact List.mem_cons_self | exact hmem _ | apply List.mem_cons_of_mem)) (by repeat (first | assumption | exact List.mem_cons_self | exact hmem _ | apply List.mem_cons_of_mem)) (by simp only [List.length_append, beBytes_length, List.length_nil]; unfold lots; omega) (by omega)).mono ?_; rintro _ _ ⟨r, rfl, hm⟩; refine ⟨_, _, rfl, hm, _, fun _ h => h.less (fun _ hx => List.mem_cons_of_mem _ hx), fun _ h => h, ?_⟩; clear hm hw w
    refine SX.val rfl (Val.assign rfl) rfl rfl ?_
    refine SX.nil (SE.seq ?_)
    refine SC.seq ?_
    refine SC.seq (SC.region ?_)
    refine SL.val (Val.fieldAddr tabOk rfl rfl rfl rfl rfl) rfl rfl ?_
    first
      | refine SL.val (Val.load1 tabOk rfl rfl (by repeat (first | assumption | exact List.mem_cons_self | exact hmem _ | apply List.mem_cons_of_mem)) (by rfl)) rfl rfl ?_
      | refine SL.val (Val.load1C tabOk rfl rfl (by assumption)) rfl rfl ?_
    refine SL.val (Val.fieldAddr tabOk rfl rfl rfl rfl rfl) rfl rfl ?_
    first
      | refine SL.val (Val.load1 tabOk rfl rfl (by repeat (first | assumption | exact List.mem_cons_self | exact hmem _ | apply List.mem_cons_of_mem)) (by rfl)) rfl rfl ?_
      | refine SL.val (Val.load1C tabOk rfl rfl (by assumption)) rfl rfl ?_
    refine SL.val (Val.buildA tabOk rfl rfl rfl rfl) rfl rfl ?_
    refine SL.val (Val.move rfl) rfl rfl ?_
    refine SL.nil (SE.seq ?_)
    refine SC.block ?_
    refine SC.loop (ι := Nat × Value) (fun z => [(1, .pointer (some ⟨b1, 0, none⟩)), (3, z.2), (28, .agg [.int .i64 c.a, .int .i64 c.b].toArray), (29, .int .i64 (z.1 : Nat))]) (fun z w' => z.1 ≤ 2 ∧ Mem S (.blk b1 (row 23 c.cells) :: σ) (bytesD z.2 ((((([] ++ beBytes (u64 c.client) (Int.toNat 1)) ++ beBytes (u64 c.stamp) (Int.toNat 8)) ++ beBytes (u64 c.op) (Int.toNat 1)) ++ beBytes c.letter.data.toList.length 4 ++ c.letter.data.toList) ++ (([c.a, c.b].take z.1).flatMap fun x => beBytes (u64 x) (Int.toNat 8))) :: ρ) w') (fun z => 2 - z.1) (0, _) (by exact ⟨rfl, rfl, rfl, rfl, trivial⟩) (fun w' hw' => ⟨by omega, hw'.less (by intro x hx; simp only [List.take_zero, List.flatMap_nil, List.append_nil] at hx; rcases List.mem_cons.1 hx with rfl | hx <;> simp [*])⟩) ?_
    intro z
    refine SC.facts ?_
    intro hz
    have hlen : ((((([] ++ beBytes (u64 c.client) (Int.toNat 1)) ++ beBytes (u64 c.stamp) (Int.toNat 8)) ++ beBytes (u64 c.op) (Int.toNat 1)) ++ beBytes c.letter.data.toList.length 4 ++ c.letter.data.toList) ++ (([c.a, c.b].take z.1).flatMap fun x => beBytes (u64 x) (Int.toNat 8))).length ≤ 10 + (4 + c.letter.data.toList.length) + 16 := by
      simp only [List.length_append, beBytes_length, List.length_nil]
      have : ((([c.a, c.b].take z.1).flatMap fun x => beBytes (u64 x) (Int.toNat 8))).length ≤ 16 := by
        rcases (by omega : z.1 = 0 ∨ z.1 = 1 ∨ z.1 = 2) with h | h | h <;> rw [h] <;> simp [beBytes_length]
      omega
    refine SC.seq (SC.region ?_)
    refine SL.val (Val.ltI rfl rfl) rfl rfl ?_
    refine SL.nil (SE.seq ?_)
    refine SC.seq ?_
    refine SC.condP rfl ?_ ?_
    rotate_left
    · intro hc30
      have e2 : ((((([] ++ beBytes (u64 c.client) (Int.toNat 1)) ++ beBytes (u64 c.stamp) (Int.toNat 8)) ++ beBytes (u64 c.op) (Int.toNat 1)) ++ beBytes c.letter.data.toList.length 4 ++ c.letter.data.toList) ++ (([c.a, c.b].take z.1).flatMap fun x => beBytes (u64 x) (Int.toNat 8))) = (((([] ++ beBytes (u64 c.client) (Int.toNat 1)) ++ beBytes (u64 c.stamp) (Int.toNat 8)) ++ beBytes (u64 c.op) (Int.toNat 1)) ++ beBytes c.letter.data.toList.length 4 ++ c.letter.data.toList) ++ (beBytes (u64 c.a) (Int.toNat 8) ++ beBytes (u64 c.b) (Int.toNat 8)) := by
        have h : z.1 = 2 := by omega
        rw [h]
        simp
      rw [e2] at *
      refine SC.exit ?_
      refine SE.then_ (by intro h; cases h) ?_
      refine SE.then_ (by intro h; cases h) ?_
      refine SE.exit ?_
      refine SE.seq ?_
      refine SC.seq (SC.region ?_)
      refine SL.val (Val.move rfl) rfl rfl ?_
      refine SL.val (Val.fieldAddr tabOk rfl rfl rfl rfl rfl) rfl rfl ?_
      first
        | refine SL.val (Val.load1 tabOk rfl rfl (by repeat (first | assumption | exact List.mem_cons_self | exact hmem _ | apply List.mem_cons_of_mem)) (by rfl)) rfl rfl ?_
        | refine SL.val (Val.load1C tabOk rfl rfl (by assumption)) rfl rfl ?_
      refine SL.eff (Eff.strBytes rfl Try.underlying9 Try.underlying40 (by first | assumption | omega)) rfl rfl ?_
      rintro sb40 _ rfl
      refine SL.call (by kernel_rfl) rfl rfl rfl ?_
      intro w hw
      refine (oct_Row (l := ((((([] ++ beBytes (u64 c.client) (Int.toNat 1)) ++ beBytes (u64 c.stamp) (Int.toNat 8)) ++ beBytes (u64 c.op) (Int.toNat 1)) ++ beBytes c.letter.data.toList.length 4 ++ c.letter.data.toList) ++ (beBytes (u64 c.a) (Int.toNat 8) ++ beBytes (u64 c.b) (Int.toNat 8)))) (m := c.text.data.toList) hw (by repeat (first | assumption | exact List.mem_cons_self | exact hmem _ | apply List.mem_cons_of_mem)) (by repeat (first | assumption | exact List.mem_cons_self | exact hmem _ | apply List.mem_cons_of_mem)) (by simp only [List.length_append, beBytes_length, List.length_nil]; unfold lots; omega) (by omega)).mono ?_; rintro _ _ ⟨r, rfl, hm⟩; refine ⟨_, _, rfl, hm, ?_⟩; clear hm hw w
      refine SL.val (Val.assign rfl) rfl rfl ?_
      refine SL.nil (SE.seq ?_)
      refine SC.ret ?_
      refine SE.ret1 rfl rfl ?_
      intro w' hw'
      refine ⟨_, rfl, (hw'.sub (fun _ h => h) (List.sublist_cons_self _ _)).less (fun x hx => ?_)⟩
      rcases List.mem_cons.1 hx with rfl | hx
      · have e3 : c.bytes = (((([] ++ beBytes (u64 c.client) (Int.toNat 1)) ++ beBytes (u64 c.stamp) (Int.toNat 8)) ++ beBytes (u64 c.op) (Int.toNat 1)) ++ beBytes c.letter.data.toList.length 4 ++ c.letter.data.toList) ++ (beBytes (u64 c.a) (Int.toNat 8) ++ beBytes (u64 c.b) (Int.toNat 8)) ++ beBytes c.text.data.toList.length 4 ++ c.text.data.toList := by simp [Core.bytes, rowB]
        rw [e3]; simp
      · simp [*]
    intro hc30
    have hlt : z.1 < [c.a, c.b].length := by show z.1 < 2; omega
    have helt : [Value.int .i64 c.a, Value.int .i64 c.b][z.1]? = some (.int .i64 ([c.a, c.b][z.1]'hlt)) := by
      rcases (by omega : z.1 = 0 ∨ z.1 = 1) with h | h <;> simp only [h] <;> rfl
    refine SC.skip ?_
    refine SE.seq ?_
    refine SC.seq ?_
    refine SC.block ?_
    refine SC.seq (SC.region ?_)
    refine SL.val (Val.indexAr1 (L := [.int .i64 c.a, .int .i64 c.b]) (v := .int .i64 ([c.a, c.b][z.1]'hlt)) (q := z.1) tabOk rfl rfl rfl rfl rfl rfl hlt helt) rfl rfl ?_
    refine SL.val (Val.assign rfl) rfl rfl ?_
    refine SL.nil (SE.seq ?_)
    refine SC.region ?_
    refine SL.val (Val.move rfl) rfl rfl ?_
    refine SL.val (Val.move rfl) rfl rfl ?_
    first
      | refine SL.val (Val.convI rfl Try.underlying85 (by kernel_rfl) (by simp only [InR, lo, hi]; omega)) rfl rfl ?_
      | refine SL.val (Val.convU rfl Try.underlying85 (by kernel_rfl)) rfl rfl ?_
    refine SL.call (by kernel_rfl) rfl rfl rfl ?_
    intro w hw
    refine (put_c (l := ((((([] ++ beBytes (u64 c.client) (Int.toNat 1)) ++ beBytes (u64 c.stamp) (Int.toNat 8)) ++ beBytes (u64 c.op) (Int.toNat 1)) ++ beBytes c.letter.data.toList.length 4 ++ c.letter.data.toList) ++ (([c.a, c.b].take z.1).flatMap fun x => beBytes (u64 x) (Int.toNat 8)))) (x := u64 ([c.a, c.b][z.1]'hlt)) (n := 8) hw (hw.bytes (by repeat (first | assumption | exact List.mem_cons_self | exact hmem _ | apply List.mem_cons_of_mem))) (by unfold lots; omega) (u64_lt _) rfl).mono ?_; rintro _ _ ⟨r, rfl, hm⟩; refine ⟨_, _, rfl, hm, ?_⟩; clear hm hw w
    refine SL.val (Val.assign rfl) rfl rfl ?_
    refine SL.nil ?_
    refine SE.inBlock ?_
    refine SE.seq ?_
    refine SC.region ?_
    first
      | refine SL.val (Val.addI rfl rfl (by simp only [InR, lo, hi]; omega)) rfl rfl ?_
      | refine SL.val (Val.addW rfl rfl) rfl rfl ?_
    refine SL.val (Val.move rfl) rfl rfl ?_
    refine SL.nil ?_
    refine SE.round (z.1 + 1, r) (by show 2 - (z.1 + 1) < 2 - z.1; omega) (by exact ⟨rfl, rfl, rfl, rfl, trivial⟩) (fun w' hw' => ⟨by show z.1 + 1 ≤ 2; omega, ?_⟩)
    have e1 : ((((([] ++ beBytes (u64 c.client) (Int.toNat 1)) ++ beBytes (u64 c.stamp) (Int.toNat 8)) ++ beBytes (u64 c.op) (Int.toNat 1)) ++ beBytes c.letter.data.toList.length 4 ++ c.letter.data.toList) ++ (([c.a, c.b].take (z.1 + 1)).flatMap fun x => beBytes (u64 x) (Int.toNat 8))) = ((((([] ++ beBytes (u64 c.client) (Int.toNat 1)) ++ beBytes (u64 c.stamp) (Int.toNat 8)) ++ beBytes (u64 c.op) (Int.toNat 1)) ++ beBytes c.letter.data.toList.length 4 ++ c.letter.data.toList) ++ (([c.a, c.b].take z.1).flatMap fun x => beBytes (u64 x) (Int.toNat 8))) ++ beBytes (u64 ([c.a, c.b][z.1]'hlt)) (Int.toNat 8) := by
      rw [List.take_succ_eq_append_getElem hlt, List.flatMap_append, ← List.append_assoc]
      simp
    show Mem S _ (bytesD r ((((([] ++ beBytes (u64 c.client) (Int.toNat 1)) ++ beBytes (u64 c.stamp) (Int.toNat 8)) ++ beBytes (u64 c.op) (Int.toNat 1)) ++ beBytes c.letter.data.toList.length 4 ++ c.letter.data.toList) ++ (([c.a, c.b].take (z.1 + 1)).flatMap fun x => beBytes (u64 x) (Int.toNat 8))) :: ρ) w'
    rw [e1]
    exact hw'.less (fun x hx => by rcases List.mem_cons.1 hx with rfl | hx <;> simp [*])

theorem rput0_c {x n : Nat} (hw : Mem S σ ρ w) (hn : sizeB n = true) : Calls Try.prog 45 #[.slice none 0 0, .int .u64 x, .int .i64 n] w fun e w' => ∃ r, e = .returned r ∧ Mem S σ (bytesD r ([] ++ beBytes x n) :: ρ) w' :=
  (rput_c (hw.add (z := bytesD (.slice none 0 0) []) (IsRow.nil rfl)) List.mem_cons_self (by decide) hn).mono fun _ _ ⟨r, h1, h2⟩ => ⟨r, h1, h2.less (fun x hx => by rcases List.mem_cons.1 hx with h | h <;> simp [h])⟩
set_option maxHeartbeats 1000000 in
theorem rcoreBytes_c {c : Core} (hw : Mem S σ ρ w) (h1 : c.letter.size ≤ 1000000) (h2 : c.text.size ≤ 1000000) : Calls Try.prog 33 #[.agg c.cells.toArray] w fun e w' => ∃ r, e = .returned r ∧ Mem S σ (bytesD r c.bytes :: ρ) w' := by
  have h3 : c.letter.size ≤ lots := by unfold lots; omega
  have h4 : c.text.size ≤ lots := by unfold lots; omega
  have hL : c.letter.data.toList.length ≤ 1000000 := h1
  have hT : c.text.data.toList.length ≤ 1000000 := h2
  refine calls_of [.agg c.cells.toArray] Try.func33 rfl Try.ntmps33 rfl (Mem S σ ρ) hw ?_
  refine SC.seq (SC.region ?_)
  refine SL.eff (Eff.boxA rfl) rfl rfl ?_
  rintro _ _ ⟨b1, rfl, rfl⟩
  refine SL.val (Val.assign rfl) rfl rfl ?_
  refine SL.nil (SE.seq ?_)
  refine SC.seq ?_
  refine SC.draw _ (.q 0 (.q 1 (.q 2 (.q 4 (.q 5 (.q 6 (.q 8 (.q 9 (.q 10 (.e 3 (.e 7 (.e 11 (.q 12 .nil))))))))))))) (by kernel_rfl) (by kernel_rfl) (fun _ h => h) (fun _ h => h.drew) ?_
  refine SX.val rfl (Val.fieldAddr tabOk rfl rfl rfl rfl rfl) rfl rfl ?_
  first
    | refine SX.val rfl (Val.load1 tabOk rfl rfl (by repeat (first | assumption | exact List.mem_cons_self | exact hmem _ | apply List.mem_cons_of_mem)) (by rfl)) rfl rfl ?_
    | refine SX.val rfl (Val.load1C tabOk rfl rfl (by assumption)) rfl rfl ?_
  first
    | refine SX.val rfl (Val.convI rfl Try.underlying85 (by kernel_rfl) (by simp only [InR, lo, hi]; omega)) rfl rfl ?_
    | refine SX.val rfl (Val.convU rfl Try.underlying85 (by kernel_rfl)) rfl rfl ?_
  refine SX.val rfl (Val.fieldAddr tabOk rfl rfl rfl rfl rfl) rfl rfl ?_
  first
    | refine SX.val rfl (Val.load1 tabOk rfl rfl (by repeat (first | assumption | exact List.mem_cons_self | exact hmem _ | apply List.mem_cons_of_mem)) (by rfl)) rfl rfl ?_
    | refine SX.val rfl (Val.load1C tabOk rfl rfl (by assumption)) rfl rfl ?_
  first
    | refine SX.val rfl (Val.convI rfl Try.underlying85 (by kernel_rfl) (by simp only [InR, lo, hi]; omega)) rfl rfl ?_
    | refine SX.val rfl (Val.convU rfl Try.underlying85 (by kernel_rfl)) rfl rfl ?_
  refine SX.val rfl (Val.fieldAddr tabOk rfl rfl rfl rfl rfl) rfl rfl ?_
  first
    | refine SX.val rfl (Val.load1 tabOk rfl rfl (by repeat (first | assumption | exact List.mem_cons_self | exact hmem _ | apply List.mem_cons_of_mem)) (by rfl)) rfl rfl ?_
    | refine SX.val rfl (Val.load1C tabOk rfl rfl (by assumption)) rfl rfl ?_
  first
    | refine SX.val rfl (Val.convI rfl Try.underlying85 (by kernel_rfl) (by simp only [InR, lo, hi]; omega)) rfl rfl ?_
    | refine SX.val rfl (Val.convU rfl Try.underlying85 (by kernel_rfl)) rfl rfl ?_
  refine SX.call rfl (by kernel_rfl) rfl rfl rfl ?_
  intro w hw
  refine (rput0_c (x := u64 c.client) (n := 1) hw rfl).mono ?_; rintro _ _ ⟨r, rfl, hm⟩; refine ⟨_, _, rfl, hm, _, fun _ h => h.less (fun _ hx => List.mem_cons_of_mem _ hx), fun _ h => h, ?_⟩; clear hm hw w
  refine SX.call rfl (by kernel_rfl) rfl rfl rfl ?_
  intro w hw
  refine (rput_c (l := ([] ++ beBytes (u64 c.client) 1)) (x := u64 c.stamp) (n := 8) hw (by repeat (first | assumption | exact List.mem_cons_self | exact hmem _ | apply List.mem_cons_of_mem)) (by simp only [List.length_append, beBytes_length, List.length_nil]; unfold lots; omega) rfl).mono ?_; rintro _ _ ⟨r, rfl, hm⟩; refine ⟨_, _, rfl, hm, _, fun _ h => h.less (fun _ hx => List.mem_cons_of_mem _ hx), fun _ h => h, ?_⟩; clear hm hw w
  refine SX.call rfl (by kernel_rfl) rfl rfl rfl ?_
  intro w hw
  refine (rput_c (l := (([] ++ beBytes (u64 c.client) 1) ++ beBytes (u64 c.stamp) 8)) (x := u64 c.op) (n := 1) hw (by repeat (first | assumption | exact List.mem_cons_self | exact hmem _ | apply List.mem_cons_of_mem)) (by simp only [List.length_append, beBytes_length, List.length_nil]; unfold lots; omega) rfl).mono ?_; rintro _ _ ⟨r, rfl, hm⟩; refine ⟨_, _, rfl, hm, _, fun _ h => h.less (fun _ hx => List.mem_cons_of_mem _ hx), fun _ h => h, ?_⟩; clear hm hw w
  refine SX.val rfl (Val.assign rfl) rfl rfl ?_
  refine SX.nil (SE.seq ?_)
  refine SC.seq (SC.region ?_)
  refine SL.val (Val.move rfl) rfl rfl ?_
  refine SL.val (Val.fieldAddr tabOk rfl rfl rfl rfl rfl) rfl rfl ?_
  first
    | refine SL.val (Val.load1 tabOk rfl rfl (by repeat (first | assumption | exact List.mem_cons_self | exact hmem _ | apply List.mem_cons_of_mem)) (by rfl)) rfl rfl ?_
    | refine SL.val (Val.load1C tabOk rfl rfl (by assumption)) rfl rfl ?_
  refine SL.eff (Eff.strBytes rfl Try.underlying9 Try.underlying40 (by first | assumption | omega)) rfl rfl ?_
  rintro sb19 _ rfl
  refine SL.call (by kernel_rfl) rfl rfl rfl ?_
  intro w hw
  refine (roct_Row (l := ((([] ++ beBytes (u64 c.client) 1) ++ beBytes (u64 c.stamp) 8) ++ beBytes (u64 c.op) 1)) (m := c.letter.data.toList) hw (by repeat (first | assumption | exact List.mem_cons_self | exact hmem _ | apply List.mem_cons_of_mem)) (by repeat (first | assumption | exact List.mem_cons_self | exact hmem _ | apply List.mem_cons_of_mem)) (by simp only [List.length_append, beBytes_length, List.length_nil]; unfold lots; omega) (by omega)).mono ?_; rintro _ _ ⟨r, rfl, hm⟩; refine ⟨_, _, rfl, hm, ?_⟩; clear hm hw w
  refine SL.val (Val.assign rfl) rfl rfl ?_
  refine SL.nil (SE.seq ?_)
  refine SC.seq ?_
  refine SC.draw _ (.q 0 (.q 1 (.q 2 (.q 3 (.q 5 (.q 6 (.q 7 (.e 4 (.e 8 (.q 9 .nil)))))))))) (by kernel_rfl) (by kernel_rfl) (fun _ h => h) (fun _ h => h.drew) ?_
  refine SX.val rfl (Val.move rfl) rfl rfl ?_
  refine SX.val rfl (Val.fieldAddr tabOk rfl rfl rfl rfl rfl) rfl rfl ?_
  first
    | refine SX.val rfl (Val.load1 tabOk rfl rfl (by repeat (first | assumption | exact List.mem_cons_self | exact hmem _ | apply List.mem_cons_of_mem)) (by rfl)) rfl rfl ?_
    | refine SX.val rfl (Val.load1C tabOk rfl rfl (by assumption)) rfl rfl ?_
  first
    | refine SX.val rfl (Val.convI rfl Try.underlying85 (by kernel_rfl) (by simp only [InR, lo, hi]; omega)) rfl rfl ?_
    | refine SX.val rfl (Val.convU rfl Try.underlying85 (by kernel_rfl)) rfl rfl ?_
  refine SX.val rfl (Val.fieldAddr tabOk rfl rfl rfl rfl rfl) rfl rfl ?_
  first
    | refine SX.val rfl (Val.load1 tabOk rfl rfl (by repeat (first | assumption | exact List.mem_cons_self | exact hmem _ | apply List.mem_cons_of_mem)) (by rfl)) rfl rfl ?_
    | refine SX.val rfl (Val.load1C tabOk rfl rfl (by assumption)) rfl rfl ?_
  first
    | refine SX.val rfl (Val.convI rfl Try.underlying85 (by kernel_rfl) (by simp only [InR, lo, hi]; omega)) rfl rfl ?_
    | refine SX.val rfl (Val.convU rfl Try.underlying85 (by kernel_rfl)) rfl rfl ?_
  refine SX.call rfl (by kernel_rfl) rfl rfl rfl ?_
  intro w hw
  refine (rput_c (l := (((([] ++ beBytes (u64 c.client) 1) ++ beBytes (u64 c.stamp) 8) ++ beBytes (u64 c.op) 1) ++ beBytes c.letter.data.toList.length 4 ++ c.letter.data.toList)) (x := u64 c.a) (n := 8) hw (by repeat (first | assumption | exact List.mem_cons_self | exact hmem _ | apply List.mem_cons_of_mem)) (by simp only [List.length_append, beBytes_length, List.length_nil]; unfold lots; omega) rfl).mono ?_; rintro _ _ ⟨r, rfl, hm⟩; refine ⟨_, _, rfl, hm, _, fun _ h => h.less (fun _ hx => List.mem_cons_of_mem _ hx), fun _ h => h, ?_⟩; clear hm hw w
  refine SX.call rfl (by kernel_rfl) rfl rfl rfl ?_
  intro w hw
  refine (rput_c (l := ((((([] ++ beBytes (u64 c.client) 1) ++ beBytes (u64 c.stamp) 8) ++ beBytes (u64 c.op) 1) ++ beBytes c.letter.data.toList.length 4 ++ c.letter.data.toList) ++ beBytes (u64 c.a) 8)) (x := u64 c.b) (n := 8) hw (by repeat (first | assumption | exact List.mem_cons_self | exact hmem _ | apply List.mem_cons_of_mem)) (by simp only [List.length_append, beBytes_length, List.length_nil]; unfold lots; omega) rfl).mono ?_; rintro _ _ ⟨r, rfl, hm⟩; refine ⟨_, _, rfl, hm, _, fun _ h => h.less (fun _ hx => List.mem_cons_of_mem _ hx), fun _ h => h, ?_⟩; clear hm hw w
  refine SX.val rfl (Val.assign rfl) rfl rfl ?_
  refine SX.nil (SE.seq ?_)
  refine SC.seq (SC.region ?_)
  refine SL.val (Val.move rfl) rfl rfl ?_
  refine SL.val (Val.fieldAddr tabOk rfl rfl rfl rfl rfl) rfl rfl ?_
  first
    | refine SL.val (Val.load1 tabOk rfl rfl (by repeat (first | assumption | exact List.mem_cons_self | exact hmem _ | apply List.mem_cons_of_mem)) (by rfl)) rfl rfl ?_
    | refine SL.val (Val.load1C tabOk rfl rfl (by assumption)) rfl rfl ?_
  refine SL.eff (Eff.strBytes rfl Try.underlying9 Try.underlying40 (by first | assumption | omega)) rfl rfl ?_
  rintro sb33 _ rfl
  refine SL.call (by kernel_rfl) rfl rfl rfl ?_
  intro w hw
  refine (roct_Row (l := (((((([] ++ beBytes (u64 c.client) 1) ++ beBytes (u64 c.stamp) 8) ++ beBytes (u64 c.op) 1) ++ beBytes c.letter.data.toList.length 4 ++ c.letter.data.toList) ++ beBytes (u64 c.a) 8) ++ beBytes (u64 c.b) 8)) (m := c.text.data.toList) hw (by repeat (first | assumption | exact List.mem_cons_self | exact hmem _ | apply List.mem_cons_of_mem)) (by repeat (first | assumption | exact List.mem_cons_self | exact hmem _ | apply List.mem_cons_of_mem)) (by simp only [List.length_append, beBytes_length, List.length_nil]; unfold lots; omega) (by omega)).mono ?_; rintro _ _ ⟨r, rfl, hm⟩; refine ⟨_, _, rfl, hm, ?_⟩; clear hm hw w
  refine SL.val (Val.assign rfl) rfl rfl ?_
  refine SL.nil (SE.seq ?_)
  refine SC.ret ?_
  refine SE.ret1 rfl rfl ?_
  intro w' hw'
  refine ⟨_, rfl, (hw'.sub (fun _ h => h) (List.sublist_cons_self _ _)).less (fun x hx => ?_)⟩
  rcases List.mem_cons.1 hx with rfl | hx
  · have e3 : c.bytes = (((((([] ++ beBytes (u64 c.client) 1) ++ beBytes (u64 c.stamp) 8) ++ beBytes (u64 c.op) 1) ++ beBytes c.letter.data.toList.length 4 ++ c.letter.data.toList) ++ beBytes (u64 c.a) 8) ++ beBytes (u64 c.b) 8) ++ beBytes c.text.data.toList.length 4 ++ c.text.data.toList := by simp [Core.bytes, rowB]
    rw [e3]; simp
  · simp [*]
end
end Go.Proofs.Ytbhjchlflkgjbaa
/-
  The second engine: the bytes of cores.
-/
set_option maxRecDepth 100000
set_option linter.unusedSimpArgs false
set_option linter.unusedVariables false
namespace Go.Proofs.Ytbhjchlflkgjbaa.A
open Go.RowKit

abbrev coreA (c : Core) : Abs := .agg (c.cells.map .v)
section
variable {c : Core} {n : Int}
theorem enter_ids {K : List Nat} {w w' : World} {ρ : List Dt} (h : Proofs.Ytbhjchlflkgjbaa.Mem [(w, K)] [old2 w K] ρ w') : ∀ k, k < w.heap.size → k ∈ K → k ∈ [old2 w K].flatMap Proofs.Ytbhjchlflkgjbaa.It.ids := fun k hk hm => by
  simp only [List.flatMap_cons, List.flatMap_nil, List.append_nil]
  exact old2_ids.2 ⟨hk, hm⟩
theorem core_val {K : List Nat} {w : World} {vals : List Value} (hv : reps K w [coreA c] vals) : vals = [.agg c.cells.toArray] := by
  obtain ⟨v, us', rfl, ⟨us, rfl, h1⟩, h2⟩ := hv
  have h2 : us' = [] := h2
  have h1 := (reps_plain (us := c.cells)).1 h1
  rw [h2, h1]
theorem core_val2 {K : List Nat} {w : World} {vals : List Value} (hv : reps K w [coreA c, int n] vals) : vals = [.agg c.cells.toArray, .int .i64 n] := by
  obtain ⟨v, us', rfl, ⟨us, rfl, h1⟩, h2⟩ := hv
  have h1 := (reps_plain (us := c.cells)).1 h1
  have h2 := (reps_plain (us := [.int .i64 n])).1 h2
  rw [h2, h1]
theorem cbytes_s (h1 : c.letter.size ≤ 1000000) (h2 : c.text.size ≤ 1000000) : Pure Try.prog 22 [coreA c] (byt c.bytes) := Pure.of2 fun K w vals hK hv => by
  rw [core_val hv]
  exact (coreBytes_c (enter2 w K) h1 h2).mono fun e w' ⟨r, he, hm⟩ => ⟨r, he, leave2 hm (by simp), rep_byt.2 (row3 hK (enter_ids hm) (hm.data (z := bytesD r _) (by simp)))⟩
theorem rcbytes_s (h1 : c.letter.size ≤ 1000000) (h2 : c.text.size ≤ 1000000) : Pure Try.prog 33 [coreA c] (byt c.bytes) := Pure.of2 fun K w vals hK hv => by
  rw [core_val hv]
  exact (rcoreBytes_c (enter2 w K) h1 h2).mono fun e w' ⟨r, he, hm⟩ => ⟨r, he, leave2 hm (by simp), rep_byt.2 (row3 hK (enter_ids hm) (hm.data (z := bytesD r _) (by simp)))⟩
end
end Go.Proofs.Ytbhjchlflkgjbaa.A
/-
  The second engine: arrays, copies, blocks that are only read from then on.
-/
set_option maxRecDepth 100000
set_option linter.unusedSimpArgs false
set_option linter.unusedVariables false
namespace Go.Proofs.Ytbhjchlflkgjbaa.A
open Go.RowKit

section
variable {P : Program} {n : Nat} {W : Wd} {σ τ : Blks} {l : Slots} {X : List Nat} {x y z : Operand} {d : Option Nat} {ty t t' e : TypeId} {pos : String} {aft : Array Edge} {g : Option (Nat × Bool)} {v u : Value} {k k' : IntKind} {a b : Nat} {o : Oper} {A B : Abs} {tab : List (Nat × TI)} {ops : Array Oper} {rest : List Oper} {Q : Exit → Act → World → Prop} {ix : Plan} {xs ys : List (List Abs)} {s q : Nat} {cs : List Abs}
theorem upd_self {x : It} {σ τ : Blks} (h : Upd x x σ τ) : τ = σ := by
  induction h with
  | here => rfl
  | there _ ih => rw [ih]
/-- A block is only read from then on: its address is one of cells that are read. -/
theorem St.freezeB {a : Act} {w : World} {pre post : Blks} {i : Nat} (h : St n W (pre ++ .blk b t cs :: post) l a w) (hs : slot l i = some (.v (.pointer (some ⟨b, 0, none⟩)))) : St n W (pre ++ post) ((i, .rp cs) :: l) a w := by
  have hsub : (pre ++ post).Sublist (pre ++ .blk b t cs :: post) := List.Sublist.append (List.Sublist.refl _) (List.sublist_cons_self _ _)
  obtain ⟨us, hb, hr⟩ := h.mem.hold (.blk b t cs) (by simp)
  have hc := (h.mem.sub hsub).2
  refine (h.less hsub).cast hs fun u hu => ?_
  have : u = .pointer (some ⟨b, 0, none⟩) := hu
  subst this
  refine ⟨b, 0, us, rfl, fun hm => ?_, heap_lt hb, fun j u hu => by rw [Nat.zero_add, mem_cell hb]; exact hu, reps_carry hc _ _ hr⟩
  have hnd := h.mem.nodup
  simp only [mids_append, mids_cons, List.nodup_append, It.mids] at hnd hm
  obtain ⟨n1, ⟨n2, n3, n4⟩, n5⟩ := hnd
  rcases List.mem_append.1 hm with hm | hm
  · rcases List.mem_append.1 hm with hm | hm
    · exact n5 b hm b (by simp) rfl
    · exact n4 b (by simp) b hm rfl
  · exact h.mem.sep b (by simp [mids_append, mids_cons, It.mids]) hm
theorem SC.freezeB {c : Code} (pre : Blks) {post : Blks} (i : Nat) (hσ : σ = pre ++ .blk b t cs :: post) (hs : slot l i = some (.v (.pointer (some ⟨b, 0, none⟩)))) (k : SC P c (St n W (pre ++ post) ((i, .rp cs) :: l)) Q) : SC P c (St n W σ l) Q := by
  subst hσ; exact fun a w h => k a w (h.freezeB hs)
theorem SL.freezeB (pre : Blks) {post : Blks} (i : Nat) (hσ : σ = pre ++ .blk b t cs :: post) (hs : slot l i = some (.v (.pointer (some ⟨b, 0, none⟩)))) (k : SL P ops rest (St n W (pre ++ post) ((i, .rp cs) :: l)) Q) : SL P ops rest (St n W σ l) Q := by
  subst hσ; exact fun a w h => k a w (h.freezeB hs)
theorem SC.known {c : Code} {p : Prop} {T : Act → World → Prop} (h : ∀ a w, T a w → p) (k : p → SC P c T Q) : SC P c T Q := fun a w ha => k (h a w ha) a w ha
theorem SL.known {p : Prop} {T : Act → World → Prop} (h : ∀ a w, T a w → p) (k : p → SL P ops rest T Q) : SL P ops rest T Q := fun a w ha => k (h a w ha) a w ha
theorem reps_set {K : List Nat} {w : World} {z : Abs} : ∀ {ps : List Abs} {us : List Value} {o : Nat} {u : Value}, reps K w ps us → us[o]? = some u → rep K w z u → reps K w (putL ps o [z]) us
  | [], us, o, u, h, hu, _ => by have : us = [] := h; subst this; simp at hu
  | a :: ps, _, 0, u, ⟨x, us', h1, h2, h3⟩, hu, hz => by
    subst h1
    simp at hu
    subst hu
    exact ⟨x, us', rfl, hz, h3⟩
  | a :: ps, _, o + 1, u, ⟨x, us', h1, h2, h3⟩, hu, hz => by
    subst h1
    exact ⟨x, us', rfl, h2, reps_set h3 (by simpa using hu) hz⟩
/-- A row of the call's own, that a block's cell holds, is only read from then on. -/
theorem St.freezeC {a : Act} {w : World} {pre post : Blks} {o : Nat} (h : St n W (pre ++ own e s v xs :: post) l a w) (hu : Upd (.blk b t cs) (.blk b t (putL cs o [.sl s xs])) (pre ++ post) τ) (hv : cs[o]? = some (.v v)) : St n W τ l a w := by
  have hsub : (pre ++ post).Sublist (pre ++ own e s v xs :: post) := List.Sublist.append (List.Sublist.refl _) (List.sublist_cons_self _ _)
  have h1 := own_sl h.mem
  have h2 := h.less hsub
  obtain ⟨us, hb, hr⟩ := h2.mem.hold _ hu.mem
  obtain ⟨u, h3, h4⟩ := reps_get hr hv
  have h4 : u = v := h4
  subst h4
  have hm := h2.mem.upd hu (Ext.refl w) (by simp [It.mids]) (by simp [It.mids]) rfl fun hc => ⟨us, hb, reps_carry hc _ _ (reps_set hr h3 h1)⟩
  exact h2.to hm.1 hm.2
theorem SC.freezeC {c : Code} (pre : Blks) {post : Blks} (o : Nat) (hσ : σ = pre ++ own e s v xs :: post) (hu : Upd (.blk b t cs) (.blk b t (putL cs o [.sl s xs])) (pre ++ post) τ) (hv : cs[o]? = some (.v v)) (k : SC P c (St n W τ l) Q) : SC P c (St n W σ l) Q := by
  subst hσ; exact fun a w h => k a w (h.freezeC hu hv)
theorem SL.freezeC (pre : Blks) {post : Blks} (o : Nat) (hσ : σ = pre ++ own e s v xs :: post) (hu : Upd (.blk b t cs) (.blk b t (putL cs o [.sl s xs])) (pre ++ post) τ) (hv : cs[o]? = some (.v v)) (k : SL P ops rest (St n W τ l) Q) : SL P ops rest (St n W σ l) Q := by
  subst hσ; exact fun a w h => k a w (h.freezeC hu hv)
theorem repss_cells {K : List Nat} {w : World} : ∀ {ys : List Abs} {us : List Value}, reps K w ys us → repss K w 1 (ys.map fun a => [a]) us
  | [], us, h => h
  | a :: ys, _, ⟨u, us', h1, h2, h3⟩ => ⟨[u], us', h1, rfl, ⟨u, [], rfl, h2, rfl⟩, repss_cells h3⟩
/-- 's[:]' of an array that is read, of single cells. -/
theorem Val.sliceArrR (hT : TabOk P tab) {i : TI} {m : Nat} (hu : P.underlying t = some (.array m e)) (hi : ti tab e = some i) (_h1 : Nat.beq i.size 1 = true) (hx : look l x = some (.rp cs)) (hm : Nat.ble m maxLen = true) (hxs : (cs.take m).map (fun a => [a]) = xs) (hl : m ≤ cs.length) :
    Val P n W σ l X ⟨d, .slice t x none none none, ty, pos, aft, g⟩ (.sl 1 xs) := fun a w hs hX => by
  obtain ⟨b, off, us, h1, h2, h3, h4, h5⟩ := hs.eval hx
  have hlen := reps_length h5
  subst hxs
  have hl2 : ((cs.take m).map fun a => [a]).length = m := by simp; omega
  refine ⟨.slice (some ⟨b, off, none⟩) m m, ⟨us.take m, ⟨⟨_, m, by rw [hl2], by omega, Nat.le_of_ble_eq_true hm, by simp⟩, fun hn => ⟨b, off, m, m, rfl, h2, fun j u hu => ?_⟩⟩, repss_cells (reps_take h5 m)⟩, fun w' _ => ?_⟩
  · rw [List.getElem?_take] at hu
    split at hu
    · exact h4 j u hu
    · cases hu
  · have h6 := (hT _ _ hi).sizeOf (w := w')
    simp [execOp, Instr.sliceAt, Instr.sureAddr, Instr.sliceBounds, h1, run_underlying hu, Sem.run_bind, Result.andThen, h6, Addr.add]
/-- 's[:]' of an array in a block of the call's own. -/
theorem Val.sliceArr (hT : TabOk P tab) {i : TI} {m off : Nat} (hu : P.underlying t = some (.array m e)) (hi : ti tab e = some i) (hx : look l x = some (.v (.pointer (some ⟨b, off, none⟩)))) :
    Val P n W σ l X ⟨d, .slice t x none none none, ty, pos, aft, g⟩ (.v (.slice (some ⟨b, off, none⟩) m m)) := fun a w hs _ => ⟨_, rfl, fun w' _ => by
  have h6 := (hT _ _ hi).sizeOf (w := w')
  simp [execOp, Instr.sliceAt, Instr.sureAddr, Instr.sliceBounds, hs.plain hx, run_underlying hu, Sem.run_bind, Result.andThen, h6, Addr.add]⟩
/-- The address of an element of an array in a block. -/
theorem Val.indexArP (hT : TabOk P tab) {i : TI} {m off : Nat} {r : Int} (hu : P.underlying t = some (.array m e)) (hi : ti tab e = some i) (hx : look l x = some (.v (.pointer (some ⟨b, off, none⟩)))) (hy : look l y = some (.v (.int k r))) (hr : r = (q : Nat)) (hq : q < m) (hm : Nat.ble m 1 = false) :
    Val P n W σ l X ⟨d, .indexAddr t x y, ty, pos, aft, g⟩ (.v (.pointer (some ⟨b, off + q * i.size, none⟩))) := fun a w hs _ => ⟨_, rfl, fun w' _ => by
  subst hr
  have h6 := (hT _ _ hi).sizeOf (w := w')
  have hq' : (q : Int) < (m : Nat) := by omega
  simp [execOp, Instr.indexAt, Instr.sureAddr, asIntOf, hs.plain hx, hs.plain hy, run_underlying hu, Sem.run_bind, Result.andThen, h6, hq, Addr.add_none]⟩
/-- An element of an array's value, of one cell. -/
theorem Val.indexAr (hT : TabOk P tab) {sz m : Nat} {zs : List Value} {r : Int} (hu : P.underlying t = some (.array m e)) (hj : ti tab e = some ⟨sz, .one, zs⟩) (hs1 : Nat.beq sz 1 = true) (hx : look l x = some (.agg cs)) (hy : look l y = some (.v (.int k r))) (hr : r = (q : Nat)) (hq : q < m) (hv : cs[q]? = some A) :
    Val P n W σ l X ⟨d, .index t x y, ty, pos, aft, g⟩ A := Val.mk' fun a w hs _ => by
  subst hr
  obtain ⟨us, h1, h2⟩ := hs.eval hx
  obtain ⟨u, h3, h4⟩ := reps_get h2 hv
  refine ⟨u, h4, fun w' _ => fun A2 w2 hf e => ?_⟩
  subst e
  have h5 := (hT _ _ hj).sizeOf (w := w2)
  have h6 := (hT _ _ hj).isAgg (w := w2)
  have hs1 := Nat.eq_of_beq_eq_true hs1
  subst hs1
  have hq' : (q : Int) < (m : Nat) := by omega
  have e1 : A2.eval x = .agg us.toArray := by rw [hf.eval (hs.at2 hx), h1]
  have e2 : A2.eval y = .int k (q : Nat) := by rw [hf.eval (hs.at2 hy), hs.plain hy]
  simp [execOp, Instr.index, asIntOf, e1, e2, run_underlying hu, Sem.run_bind, Result.andThen, h5, Go.part, h6, h3, hq]
/-- 'copy(dst, src)' into a block of the call's own, of single cells. -/
theorem Eff.copy {off m c : Nat} {L' : List Abs} (hu : P.underlying t = some (.slice e)) (hi : (P.info? e).map (·.size) = some 1) (hx : look l x = some (.v (.slice (some ⟨b, off, none⟩) m c))) (hy : look l y = some (.sl 1 xs)) (hup : Upd (.blk b t' cs) (.blk b t' L') σ τ) (hl : off + min xs.length m ≤ cs.length) (h1 : ∀ c ∈ xs, ones c = true) (hL : putL cs off (xs.take m).flatten = L') :
    Eff P n W σ l [b] ⟨d, .call { callee := .builtin .copy, args := #[x, y], argTypes := #[t, t] }, ty, pos, aft, g⟩ fun r τ' => r = .v (.int .i64 (min xs.length m : Nat)) ∧ τ' = τ := fun a w hs => by
  obtain ⟨us, hb, hr⟩ := hs.mem.hold _ hup.mem
  obtain ⟨news, hrow, hr2⟩ := hs.eval hy
  obtain ⟨A', c', hsh, _⟩ := hrow.shape
  have hlen := reps_length hr
  have hlen2 := repss_length hr2
  rw [Nat.mul_one] at hlen2
  have hreps : ∀ (xs : List (List Abs)) (news : List Value), repss (mids σ ++ W.G) w 1 xs news → reps (mids σ ++ W.G) w xs.flatten news := by
    intro xs
    induction xs with
    | nil => intro news h; exact h
    | cons y ys ih =>
      rintro news ⟨u1, u2, rfl, _, h3, h4⟩
      rw [List.flatten_cons]; exact reps_append h3 (ih u2 h4)
  have htk : ∀ (m : Nat), repss (mids σ ++ W.G) w 1 (xs.take m) (news.take m) := fun m => by
    rcases Nat.le_total m xs.length with h | h
    · have := (repss_drop hr2 m h).2; rwa [Nat.mul_one] at this
    · rw [List.take_of_length_le h, List.take_of_length_le (by omega)]; exact hr2
  have hone : ∀ u ∈ news.take m, u.oneCell' = true := ones_reps (hreps _ _ (htk m)) (by
    rw [ones_iff]; intro a ha
    obtain ⟨c, hc, hac⟩ := List.mem_flatten.1 ha
    exact ones_iff.1 (h1 c (List.mem_of_mem_take hc)) a hac)
  have htl : (news.take m).length = Nat.min xs.length m := by rw [List.length_take, hlen2]; exact Nat.min_comm _ _
  have hmn : (news.take m).length = min xs.length m := htl
  by_cases hn : news = []
  · subst hn
    have h0 : xs.length = 0 := by simpa using hlen2.symm
    have hxn : xs = [] := List.length_eq_zero_iff.1 h0
    subst hxn
    have hLc : L' = cs := by rw [← hL, putL_eq _ _ _ (by omega)]; simp
    subst hLc
    have hτ := upd_self hup
    subst hτ
    refine ⟨_, w, _, _, ⟨rfl, rfl⟩, Ext.refl w, rfl, hs.mem, Carry.refl, .inl ?_⟩
    obtain ⟨I, hI, hIs⟩ : ∃ I, P.info? e = some I ∧ I.size = 1 := by
      cases hq : P.info? e with
      | none => simp [hq] at hi
      | some i => exact ⟨i, rfl, by simpa [hq] using hi⟩
    cases A' <;> simp [execOp, resolve, invoke, builtin, Builtin.copy_, hs.plain hx, hsh, run_underlying hu, Builtin.lenOf, Builtin.firstCells, sizeOf, typeInfo, hI, hIs, storeCells, Sem.run_bind, Result.andThen, loadCells, loadCellsFrom, goInt]
  · obtain ⟨bb, o2, n2, c2, hv, hbb, hcc⟩ := hrow.cells hn
    rw [hsh] at hv
    simp at hv
    obtain ⟨rfl, rfl, rfl⟩ := hv
    have hrun := run_copy_row (P := P) w t t ty e b off m c ⟨bb, o2, none⟩ xs.length c' us.toArray t' (news.take m) hu hi hb htl (fun j u hu => by
      rw [Addr.add_none]
      rw [List.getElem?_take] at hu
      split at hu
      · exact hcc j u hu
      · cases hu) (by simp; omega) hone
    have hE : (us.toArray.toList.take off ++ news.take m ++ us.toArray.toList.drop (off + (news.take m).length)).toArray = (putAt us off (news.take m)).toArray := by
      rw [putAt_eq us off _ (by omega)]
    rw [hE, hmn] at hrun
    have hxx : Ext [b] w (w.setRow b (putAt us off (news.take m)).toArray) := (Ext.refl w).setRow (.inl (by simp)) _
    have hm := hs.mem.upd hup hxx (by simp [It.mids]) (by simp [It.mids]) rfl fun hc => ⟨_, heap_setRow hb, reps_carry hc _ _ (hL ▸ reps_put hr (hreps _ _ (htk m)) (by omega))⟩
    refine ⟨_, _, _, _, ⟨rfl, rfl⟩, hxx, rfl, hm.1, hm.2, .inl ?_⟩
    simp [execOp, resolve, invoke, builtin, hs.plain hx, hsh, hrun, Result.andThen, goInt]
/-- A function that makes a row of bytes of its own. -/
theorem Spec.ofOwnB {f : FuncId} {args : List Abs} {out : List UInt8} {e : TypeId} (h : ∀ (K : List Nat) (w : World) (vals : List Value), (∀ k ∈ K, k < w.heap.size) → reps K w args vals →
    Calls P f vals.toArray w fun en w' => ∃ r ρ, en = .returned r ∧ Proofs.Ytbhjchlflkgjbaa.Mem [(w, K)] [.pc (Proofs.Ytbhjchlflkgjbaa.ownPc e 1 r out.length (out.map bc)), old2 w K] ρ w') : Spec P f args [] (fun r : Value => [own e 1 r (out.map fun b => [.v (bc b)])]) (fun r => .v r) := fun G w vals hm hv =>
  (h G w vals hm.old hv).mono fun en w' ⟨r, ρ, he, hm2⟩ => by
    have hx := leave2 hm2 (by simp)
    have how : w'.ownsRow 0 e 1 r out.length (out.map bc) := hm2.hold (.pc (Proofs.Ytbhjchlflkgjbaa.ownPc e 1 r out.length (out.map bc))) (by simp)
    have hnew : ∀ k ∈ r.ownBlock.toList, w.heap.size ≤ k := fun k hk => by
      have h3 := hm2.out _ (List.mem_cons_self) k (by simpa [Proofs.Ytbhjchlflkgjbaa.It.ids, Proofs.Ytbhjchlflkgjbaa.ownPc] using hk) (w, G) (by simp)
      rcases h3 with h3 | h3
      · have h4 := hm2.nodup
        simp only [List.flatMap_cons, List.flatMap_nil, List.append_nil, List.nodup_append] at h4
        exact absurd rfl (h4.2.2 k (by simpa [Proofs.Ytbhjchlflkgjbaa.It.ids, Proofs.Ytbhjchlflkgjbaa.ownPc] using hk) k (old2_ids.2 ⟨hm.old k h3, h3⟩))
      · exact h3
    refine ⟨r, r, he, by simp [It.rids], ⟨hx, fun k hk => .inr (hnew k ?_), fun k hk hg => ?_, fun k hk => Nat.lt_of_lt_of_le (hm.old k hk) hx.size, by simp [It.rids], ?_, fun x hxm => ?_⟩, rfl⟩
    · simpa [mids, It.mids, ownPc] using hk
    · have := hnew k (by simpa [mids, It.mids, ownPc] using hk)
      have := hm.old k hg
      omega
    · simp only [mids, List.flatMap_cons, List.flatMap_nil, List.append_nil]; exact own_nodup
    · rw [List.mem_singleton] at hxm; subst hxm
      refine ⟨out.map bc, by simpa using how, ?_⟩
      rw [byt_map]; exact repss_ones
end
/-- An array of bytes as cells. -/
def digA (d : List UInt8) : List Abs := d.map fun b => .v (bc b)
abbrev ints (xs : List Int) : Abs := .sl 1 (xs.map fun x => [int x])
theorem elems_one {s i : Nat} {cs : List Abs} (h : cs.length = s) : elems s [(i, .agg cs)] = some [cs] := by simp [elems, cellsA, h]
end Go.Proofs.Ytbhjchlflkgjbaa.A
/-
  Tags and messages, as trees.
-/
set_option maxRecDepth 100000
set_option linter.unusedSimpArgs false
set_option linter.unusedVariables false
namespace Go.Proofs.Ytbhjchlflkgjbaa.A
open Go.RowKit

/-- A tag. -/
structure Tg where
  d : List UInt8
  len : d.length = 32
def Tg.abs (t : Tg) : List Abs := digA t.d
theorem Tg.size (t : Tg) : t.abs.length = 32 := by simp [Tg.abs, digA, t.len]
theorem Tg.same {s t : Tg} (h : s.d = t.d) : s = t := by
  obtain ⟨a, _⟩ := s
  obtain ⟨b, _⟩ := t
  dsimp only at h
  subst h
  rfl
/-- A message. -/
structure Msg where
  kind : Int
  from_ : Int
  body : List UInt8
  tags : List Tg
def Msg.abs (m : Msg) : List Abs := [int m.kind, int m.from_, byt m.body, .sl 32 (m.tags.map Tg.abs)]
end Go.Proofs.Ytbhjchlflkgjbaa.A
/-
  Maps of the program's own, as lists of pairs: look up, store, delete, length.
-/
set_option maxRecDepth 100000
namespace Go.Proofs.Ytbhjchlflkgjbaa
open Go.RowKit

section
variable {α β : Type} [DecidableEq α]
def aget (m : List (α × β)) (a : α) : Option β := (m.find? fun p => decide (p.1 = a)).map (·.2)
def aput (m : List (α × β)) (a : α) (b : β) : List (α × β) := if (aget m a).isSome then m.map fun p => if p.1 = a then (a, b) else p else m ++ [(a, b)]
def adel (m : List (α × β)) (a : α) : List (α × β) := m.filter fun p => decide (p.1 ≠ a)
theorem aget_nil (a : α) : aget ([] : List (α × β)) a = none := rfl
theorem aget_isSome (m : List (α × β)) (a : α) : (aget m a).isSome = true ↔ a ∈ m.map (·.1) := by
  unfold aget
  rw [Option.isSome_map, List.find?_isSome]
  simp
theorem aget_none (m : List (α × β)) (a : α) : aget m a = none ↔ a ∉ m.map (·.1) := by
  rw [← aget_isSome]
  cases aget m a <;> simp
theorem aput_keys (m : List (α × β)) (a : α) (b : β) : (aput m a b).map (·.1) = if a ∈ m.map (·.1) then m.map (·.1) else m.map (·.1) ++ [a] := by
  unfold aput
  by_cases h : a ∈ m.map (·.1)
  · rw [if_pos ((aget_isSome m a).2 h), if_pos h, List.map_map]
    apply List.map_congr_left
    intro p _
    simp only [Function.comp]
    split
    · rename_i h1; exact h1.symm
    · rfl
  · rw [if_neg (fun hc => h ((aget_isSome m a).1 hc)), if_neg h]
    simp
theorem aput_nodup {m : List (α × β)} (hm : (m.map (·.1)).Nodup) (a : α) (b : β) : ((aput m a b).map (·.1)).Nodup := by
  rw [aput_keys]
  split
  · exact hm
  · rename_i h
    rw [List.nodup_append]
    exact ⟨hm, by simp, by intro x hx y hy; simp at hy; subst hy; rintro rfl; exact h hx⟩
theorem aget_aput (m : List (α × β)) (a c : α) (b : β) : aget (aput m a b) c = if c = a then some b else aget m c := by
  unfold aput
  by_cases h : (aget m a).isSome = true
  · rw [if_pos h]
    have hmap : ∀ (m : List (α × β)), ((m.map fun p => if p.1 = a then (a, b) else p).find? fun p => decide (p.1 = c)).map (·.2) = if c = a then (if a ∈ m.map (·.1) then some b else none) else aget m c := by
      intro m
      induction m with
      | nil => simp [aget]
      | cons p m ih =>
        simp only [List.map_cons, List.find?_cons]
        by_cases hp : p.1 = a
        · rw [if_pos hp]
          by_cases hc : c = a
          · subst hc; simp [hp]
          · have hac : ¬ a = c := fun h => hc h.symm
            simp only [hac, decide_false, if_neg hc]
            rw [ih, if_neg hc]
            unfold aget
            simp [hp, hac]
        · rw [if_neg hp]
          by_cases hpc : p.1 = c
          · have hca : ¬ c = a := fun h => hp (hpc.trans h)
            simp [hpc, hca, aget]
          · simp only [hpc, decide_false]
            rw [ih]
            by_cases hca : c = a
            · subst hca
              rw [if_pos rfl, if_pos rfl]
              have : (c ∈ p.1 :: m.map (·.1)) ↔ c ∈ m.map (·.1) := by
                simp only [List.mem_cons]
                constructor
                · rintro (h1 | h1)
                  · exact absurd h1.symm hp
                  · exact h1
                · exact Or.inr
              by_cases hin : c ∈ m.map (·.1)
              · rw [if_pos hin, if_pos (this.2 hin)]
              · rw [if_neg hin, if_neg (fun hh => hin (this.1 hh))]
            · rw [if_neg hca, if_neg hca]
              unfold aget
              simp [hpc]
    have h0 := hmap m
    rw [if_pos ((aget_isSome m a).1 h)] at h0
    exact h0
  · rw [if_neg h]
    unfold aget
    rw [List.find?_append]
    by_cases hc : c = a
    · subst hc
      have hn : aget m c = none := by cases hg : aget m c <;> simp_all
      have hf : (m.find? fun p => decide (p.1 = c)) = none := by
        unfold aget at hn
        simpa using hn
      rw [hf]
      simp
    · have hac : ¬ a = c := fun h => hc h.symm
      simp [hac, hc]
theorem aput_length (m : List (α × β)) (a : α) (b : β) : (aput m a b).length = if (aget m a).isSome then m.length else m.length + 1 := by
  unfold aput
  split <;> simp
theorem adel_nodup {m : List (α × β)} (hm : (m.map (·.1)).Nodup) (a : α) : ((adel m a).map (·.1)).Nodup :=
  hm.sublist ((List.filter_sublist).map _)
theorem aget_adel (m : List (α × β)) (a c : α) : aget (adel m a) c = if c = a then none else aget m c := by
  unfold aget adel
  induction m with
  | nil => simp
  | cons p m ih =>
    rw [List.filter_cons]
    by_cases hp : p.1 = a
    · simp only [hp, ne_eq, not_true_eq_false, decide_false, Bool.false_eq_true, if_false]
      rw [ih]
      by_cases hc : c = a
      · simp [hc]
      · rw [if_neg hc, if_neg hc]
        have : ¬ p.1 = c := fun h => hc (h.symm.trans hp)
        simp [this]
    · simp only [hp, ne_eq, not_false_eq_true, decide_true, if_true]
      rw [List.find?_cons, List.find?_cons]
      by_cases hpc : p.1 = c
      · have : ¬ c = a := fun h => hp (hpc.trans h)
        simp [hpc, this]
      · simp only [hpc, decide_false]
        exact ih
end

/-- What the laws ask of a key type and of how keys stand in it. -/
structure KeyFit {α : Type} (P : Program) (k : TypeId) (K : α → Value) (Good : α → Prop) : Prop where
  keyed : Maps.Keyed P k
  lit : ∀ a, Good a → ∃ l, keyOf P k (K a) = some l
  inj : ∀ a b, Good a → Good b → K a = K b → a = b

/-- Block b is a map that holds the pairs m. -/
def MapOf {α β : Type} (w : World) (b : Nat) (K : α → Value) (V : β → Value) (Good : α → Prop) (m : List (α × β)) : Prop :=
  ∃ es clock, w.heap[b]? = some (.map es clock) ∧ es.toList.map (fun e => (e.key, e.val)) = m.map (fun p => (K p.1, V p.2)) ∧ (m.map (·.1)).Nodup ∧ (∀ p ∈ m, Good p.1) ∧
    (∀ e ∈ es.toList, e.born < clock) ∧ (es.toList.map (·.born)).Nodup

section
variable {α β : Type} {P : Program} {w w' : World} {b : Nat} {k e t : TypeId} {K : α → Value} {V : β → Value} {Good : α → Prop} {m : List (α × β)}

theorem MapOf.lt (h : MapOf w b K V Good m) : b < w.heap.size := by
  obtain ⟨es, clock, hb, _⟩ := h
  rcases Nat.lt_or_ge b w.heap.size with hlt | hge
  · exact hlt
  · rw [Array.getElem?_eq_none hge] at hb; cases hb
theorem MapOf.ext {F : List Nat} (h : MapOf w b K V Good m) (hx : Ext F w w') (hb : b ∉ F) : MapOf w' b K V Good m := by
  have hl := h.lt
  obtain ⟨es, clock, h1, h2⟩ := h
  exact ⟨es, clock, (hx.block b hl hb).trans h1, h2⟩
theorem MapOf.new (w : World) : MapOf (w.alloc (.map #[] 0)) w.heap.size K V Good [] :=
  ⟨#[], 0, heap_alloc_new w _, rfl, by simp, by simp, by simp, by simp⟩
theorem MapOf.alloc (h : MapOf w b K V Good m) (o : Obj) : MapOf (w.alloc o) b K V Good m := h.ext ((Ext.refl (F := []) _).alloc _) (by simp)
theorem MapOf.nodup (h : MapOf w b K V Good m) : (m.map (·.1)).Nodup := by obtain ⟨_, _, _, _, h, _⟩ := h; exact h
theorem MapOf.good (h : MapOf w b K V Good m) : ∀ p ∈ m, Good p.1 := by obtain ⟨_, _, _, _, _, h, _⟩ := h; exact h

theorem map_entry {es : List MapEntry} (he : es.map (fun e => (e.key, e.val)) = m.map (fun p => (K p.1, V p.2))) {j : Nat} {x : MapEntry} (hx : es[j]? = some x) : ∃ p, m[j]? = some p ∧ x.key = K p.1 ∧ x.val = V p.2 := by
  have h1 : (es.map (fun e => (e.key, e.val)))[j]? = some (x.key, x.val) := by rw [List.getElem?_map, hx]; rfl
  rw [he, List.getElem?_map] at h1
  cases hm : m[j]? with
  | none => rw [hm] at h1; cases h1
  | some p =>
    rw [hm] at h1
    simp at h1
    exact ⟨p, rfl, h1.1.symm, h1.2.symm⟩

variable [DecidableEq α]
/-- Where the key is found. -/
theorem find_run (kf : KeyFit P k K Good) {es : List MapEntry} (he : es.map (fun e => (e.key, e.val)) = m.map (fun p => (K p.1, V p.2))) (hg : ∀ p ∈ m, Good p.1) (hnd : (m.map (·.1)).Nodup) {a : α} (ha : Good a) (w : World) :
    (aget m a = none ∧ (Instr.findKey k (K a) es).run P w = .ok none w) ∨
    ∃ j v, m[j]? = some (a, v) ∧ aget m a = some v ∧ (Instr.findKey k (K a) es).run P w = .ok (some (j, V v)) w := by
  obtain ⟨l, hl⟩ := kf.lit a ha
  have hall : ∀ x ∈ es, ∃ l, keyOf P k x.key = some l := by
    intro x hx
    obtain ⟨j, hj⟩ := List.getElem?_of_mem hx
    obtain ⟨p, hp, hk, _⟩ := map_entry he hj
    rw [hk]
    exact kf.lit _ (hg p (List.mem_of_getElem? hp))
  rcases kf.keyed.find w hl es hall with ⟨hrun, hne⟩ | ⟨j, x, hrun, hj, hk⟩
  · refine .inl ⟨?_, hrun⟩
    rw [aget_none]
    intro hin
    simp only [List.mem_map] at hin
    obtain ⟨p, hp, rfl⟩ := hin
    obtain ⟨j, hj⟩ := List.getElem?_of_mem hp
    have h1 : (m.map (fun p => (K p.1, V p.2)))[j]? = some (K p.1, V p.2) := by rw [List.getElem?_map, hj]; rfl
    rw [← he, List.getElem?_map] at h1
    cases hx : es[j]? with
    | none => rw [hx] at h1; cases h1
    | some x =>
      rw [hx] at h1
      simp at h1
      exact hne x (List.mem_of_getElem? hx) h1.1
  · obtain ⟨p, hp, hk2, hv⟩ := map_entry he hj
    have hpa : p.1 = a := kf.inj _ _ (hg p (List.mem_of_getElem? hp)) ha (hk2.symm.trans hk)
    obtain ⟨pa, pv⟩ := p
    dsimp only at hpa hv
    subst hpa
    refine .inr ⟨j, pv, hp, ?_, by rw [← hv]; exact hrun⟩
    unfold aget
    have hfind : m.find? (fun p => decide (p.1 = pa)) = some (pa, pv) := by
      rw [List.find?_eq_some_iff_append]
      refine ⟨by simp, ?_⟩
      have hjl := (List.getElem?_eq_some_iff.1 hp)
      obtain ⟨hjl, hje⟩ := hjl
      refine ⟨m.take j, m.drop (j + 1), ?_, ?_⟩
      · rw [← hje, List.getElem_cons_drop, List.take_append_drop]
      · intro q hq
        simp only [Bool.not_eq_true', decide_eq_false_iff_not]
        intro hqa
        obtain ⟨i, hi⟩ := List.getElem?_of_mem hq
        rw [List.getElem?_take] at hi
        split at hi
        · rename_i hij
          have h1 : (m.map (·.1))[i]? = some pa := by rw [List.getElem?_map, hi]; simp [hqa]
          have h2 : (m.map (·.1))[j]? = some pa := by rw [List.getElem?_map, hp]; rfl
          have hil : i < (m.map (·.1)).length := (List.getElem?_eq_some_iff.1 h1).1
          have := (List.getElem?_inj hil hnd).1 (h1.trans h2.symm)
          omega
        · cases hi
    rw [hfind]
    rfl

theorem MapOf.look_run (h : MapOf w b K V Good m) (kf : KeyFit P k K Good) (ht : P.underlying t = some (.map k e)) {z : Value} (hz : (zeroValue e).run P w = .ok z w) {a : α} (ha : Good a) (c : Bool) :
    (Instr.lookup t (.map (some b)) (K a) c).run P w = .ok (if c then .tuple #[((aget m a).map V).getD z, .bool (aget m a).isSome] else ((aget m a).map V).getD z) w := by
  obtain ⟨es, clock, hb, he, hnd, hg, _⟩ := h
  obtain ⟨l, hl⟩ := kf.lit a ha
  have hgo : (getObj b).run P w = .ok (.map es clock) w := by simp [getObj, Sem.run, hb]
  simp only [Instr.lookup, Sem.run_bind, run_underlying ht, Result.andThen_ok, Sem.run_pure, hgo, kf.keyed.check w es.isEmpty hl]
  rcases find_run kf he hg hnd ha w with ⟨h1, h2⟩ | ⟨j, v, _, h1, h2⟩
  · rw [h1, h2]
    cases c <;> simp [hz]
  · rw [h1, h2]
    cases c <;> simp

theorem Ext.setMap {b : Nat} {es es' : Array MapEntry} {clock clock' : Nat} (_hb : w.heap[b]? = some (.map es clock)) : Ext [b] w { w with heap := w.heap.setIfInBounds b (.map es' clock') } :=
  ⟨rfl, rfl, rfl, by simp, fun k _ hn => by
    have : b ≠ k := fun h => hn (by simp [h])
    simp [this]⟩
theorem heap_setMap {b : Nat} {es es' : Array MapEntry} {clock clock' : Nat} (hb : w.heap[b]? = some (.map es clock)) : ({ w with heap := w.heap.setIfInBounds b (.map es' clock') } : World).heap[b]? = some (.map es' clock') := by
  have hlt : b < w.heap.size := by
    rcases Nat.lt_or_ge b w.heap.size with hlt | hge
    · exact hlt
    · rw [Array.getElem?_eq_none hge] at hb; cases hb
  simp [hlt]
theorem run_getMap {b : Nat} {es : Array MapEntry} {clock : Nat} (hb : w.heap[b]? = some (.map es clock)) : (getObj b).run P w = .ok (.map es clock) w := by simp [getObj, Sem.run, hb]
theorem run_setMap {b : Nat} {es es' : Array MapEntry} {clock clock' : Nat} (hb : w.heap[b]? = some (.map es clock)) : (setObj b (.map es' clock')).run P w = .ok () { w with heap := w.heap.setIfInBounds b (.map es' clock') } := by simp [setObj, Sem.run, hb]

theorem aput_at {m : List (α × β)} (hnd : (m.map (·.1)).Nodup) {j : Nat} {a : α} {v v' : β} (hj : m[j]? = some (a, v)) : aput m a v' = m.set j (a, v') := by
  have hin : (aget m a).isSome = true := (aget_isSome m a).2 (List.mem_map.2 ⟨_, List.mem_of_getElem? hj, rfl⟩)
  unfold aput
  rw [if_pos hin]
  apply List.ext_getElem?
  intro i
  rw [List.getElem?_map, List.getElem?_set]
  have hjl : j < m.length := (List.getElem?_eq_some_iff.1 hj).1
  by_cases hij : j = i
  · subst hij
    rw [if_pos rfl, if_pos hjl, hj]
    simp
  · rw [if_neg hij]
    cases hi : m[i]? with
    | none => rfl
    | some p =>
      simp only [Option.map_some, Option.some.injEq]
      rw [if_neg]
      intro hpa
      have h1 : (m.map (·.1))[i]? = some a := by rw [List.getElem?_map, hi]; simp [hpa]
      have h2 : (m.map (·.1))[j]? = some a := by rw [List.getElem?_map, hj]; rfl
      have hil : i < (m.map (·.1)).length := (List.getElem?_eq_some_iff.1 h1).1
      exact hij ((List.getElem?_inj hil hnd).1 (h1.trans h2.symm)).symm

theorem MapOf.put_run (h : MapOf w b K V Good m) (kf : KeyFit P k K Good) (ht : P.underlying t = some (.map k e)) {a : α} (ha : Good a) (v : β) :
    ∃ w', (Instr.mapUpdate t (.map (some b)) (K a) (V v)).run P w = .ok () w' ∧ MapOf w' b K V Good (aput m a v) ∧ Ext [b] w w' := by
  obtain ⟨es, clock, hb, he, hnd, hg, hborn, hbnd⟩ := h
  obtain ⟨l, hl⟩ := kf.lit a ha
  rcases find_run kf he hg hnd ha w with ⟨h1, h2⟩ | ⟨j, u, hj, h1, h2⟩
  · refine ⟨{ w with heap := w.heap.setIfInBounds b (.map (es.push { key := K a, val := V v, born := clock }) (clock + 1)) }, ?_, ⟨_, _, heap_setMap hb, ?_, aput_nodup hnd a v, ?_, ?_, ?_⟩, Ext.setMap hb⟩
    · simp only [Instr.mapUpdate, Sem.run_bind, run_underlying ht, Result.andThen_ok, run_getMap hb, kf.keyed.check w false hl, h2, run_setMap hb]
    · rw [Array.toList_push, List.map_append, he]
      unfold aput
      rw [if_neg (by rw [h1]; simp)]
      simp
    · intro p hp
      unfold aput at hp
      rw [if_neg (by rw [h1]; simp)] at hp
      simp only [List.mem_append, List.mem_singleton] at hp
      rcases hp with hp | rfl
      · exact hg p hp
      · exact ha
    · intro x hx
      rw [Array.toList_push, List.mem_append, List.mem_singleton] at hx
      rcases hx with hx | rfl
      · have := hborn x hx; omega
      · exact Nat.lt_succ_self _
    · rw [Array.toList_push, List.map_append, List.nodup_append]
      refine ⟨hbnd, by simp, ?_⟩
      intro x hx y hy
      simp at hy
      subst hy
      simp only [List.mem_map] at hx
      obtain ⟨z, hz, rfl⟩ := hx
      have := hborn z hz
      omega
  · have hjl : j < es.toList.length := by
      have h3 := congrArg List.length he
      simp only [List.length_map] at h3
      rw [h3]
      exact (List.getElem?_eq_some_iff.1 hj).1
    have hk : (es[j]?).map (·.key) = some (K a) := by
      rw [← Array.getElem?_toList]
      have h3 : (es.toList.map (fun e => (e.key, e.val)))[j]? = some (K a, V u) := by rw [he, List.getElem?_map, hj]; rfl
      rw [List.getElem?_map] at h3
      cases hx : es.toList[j]? with
      | none => rw [hx] at h3; cases h3
      | some x => rw [hx] at h3; simp at h3; simp [h3.1]
    have hmod : (es.modify j fun e => { e with key := K a, val := V v }).toList = es.toList.modify j fun e => { e with key := K a, val := V v } := by simp
    refine ⟨{ w with heap := w.heap.setIfInBounds b (.map (es.modify j fun e => { e with key := K a, val := V v }) clock) }, ?_, ⟨_, _, heap_setMap hb, ?_, aput_nodup hnd a v, ?_, ?_, ?_⟩, Ext.setMap hb⟩
    · simp only [Instr.mapUpdate, Sem.run_bind, run_underlying ht, Result.andThen_ok, run_getMap hb, kf.keyed.check w false hl, h2, hk, Option.getD_some, kf.keyed.stays w hl, run_setMap hb]
    · rw [hmod, aput_at hnd hj]
      apply List.ext_getElem?
      intro i
      have hei : (es.toList.map (fun e => (e.key, e.val)))[i]? = (m.map (fun p => (K p.1, V p.2)))[i]? := by rw [he]
      rw [List.getElem?_map, List.getElem?_map] at hei
      rw [List.getElem?_map, List.getElem?_map, List.getElem?_modify, List.getElem?_set]
      have hml : j < m.length := (List.getElem?_eq_some_iff.1 hj).1
      by_cases hij : j = i
      · subst hij
        rw [if_pos rfl, if_pos hml, List.getElem?_eq_getElem hjl]
        simp
      · rw [if_neg hij]
        simp only [if_neg hij]
        rw [← hei]
        cases es.toList[i]? <;> rfl
    · intro p hp
      have h4 : p.1 ∈ (aput m a v).map (·.1) := List.mem_map.2 ⟨p, hp, rfl⟩
      rw [aput_keys, if_pos (by rw [← aget_isSome, h1]; rfl)] at h4
      simp only [List.mem_map] at h4
      obtain ⟨q, hq, hqe⟩ := h4
      rw [← hqe]
      exact hg q hq
    · intro x hx
      rw [hmod] at hx
      obtain ⟨i, hi⟩ := List.getElem?_of_mem hx
      rw [List.getElem?_modify] at hi
      cases hx2 : es.toList[i]? with
      | none => rw [hx2] at hi; simp at hi
      | some y =>
        rw [hx2] at hi
        have := hborn y (List.mem_of_getElem? hx2)
        simp at hi
        rw [← hi]
        split <;> exact this
    · have hb2 : (es.toList.modify j fun e => { e with key := K a, val := V v }).map (·.born) = es.toList.map (·.born) := by
        apply List.ext_getElem?
        intro i
        rw [List.getElem?_map, List.getElem?_modify, List.getElem?_map]
        cases es.toList[i]? with
        | none => simp
        | some y => simp only [Option.map_eq_map, Option.map_some]; split <;> rfl
      rw [hmod, hb2]
      exact hbnd

omit [DecidableEq α] in
theorem MapOf.len_run (h : MapOf w b K V Good m) (ht : P.underlying t = some (.map k e)) (ty : TypeId) : (Builtin.len_ #[t] ty #[.map (some b)]).run P w = .ok (.int .i64 m.length) w := by
  obtain ⟨es, clock, hb, he, _⟩ := h
  have h3 := congrArg List.length he
  simp only [List.length_map, Array.length_toList] at h3
  simp [Builtin.len_, Sem.run_bind, run_underlying ht, Result.andThen_ok, run_getMap hb, goInt, h3]
end

section
variable {α β : Type} [DecidableEq α] {P : Program} {w : World} {b : Nat} {k e : TypeId} {K : α → Value} {V : β → Value} {Good : α → Prop} {m : List (α × β)}
variable {ops : Array Oper} {rest : List Oper} {o : Oper} {a : Act} {Q : Exit → Act → World → Prop}
/-- 'v, ok := m[k]'. -/
theorem wpList_mapGetOk (h : MapOf w b K V Good m) (kf : KeyFit P k K Good) (t : TypeId) (ht : P.underlying t = some (.map k e)) (z : Value) (hz : (zeroValue e).run P w = .ok z w) (c : α) (hc : Good c)
    (hg : o.guard = none) (x y : Operand) (ho : o.op = .lookup t x y true) (hx : a.eval x = .map (some b)) (hy : a.eval y = K c)
    (hk : wpList P ops Q rest (a.put o.dst (.tuple #[((aget m c).map V).getD z, .bool (aget m c).isSome])) w) : wpList P ops Q (o :: rest) a w := by
  refine wpList_plain hg fun K' hK' => ?_
  unfold Oper.wp
  simp only [execOp, ho, hx, hy, Sem.run_bind, h.look_run kf ht hz hc true, if_true, Result.andThen_ok, Sem.run_pure]
  exact hK' _ _ hk
/-- 'm[k]'. -/
theorem wpList_mapGet (h : MapOf w b K V Good m) (kf : KeyFit P k K Good) (t : TypeId) (ht : P.underlying t = some (.map k e)) (z : Value) (hz : (zeroValue e).run P w = .ok z w) (c : α) (hc : Good c)
    (hg : o.guard = none) (x y : Operand) (ho : o.op = .lookup t x y false) (hx : a.eval x = .map (some b)) (hy : a.eval y = K c)
    (hk : wpList P ops Q rest (a.put o.dst (((aget m c).map V).getD z)) w) : wpList P ops Q (o :: rest) a w := by
  refine wpList_plain hg fun K' hK' => ?_
  unfold Oper.wp
  simp only [execOp, ho, hx, hy, Sem.run_bind, h.look_run kf ht hz hc false, Bool.false_eq_true, if_false, Result.andThen_ok, Sem.run_pure]
  exact hK' _ _ hk
/-- 'm[k] = v'. -/
theorem wpList_mapPut (h : MapOf w b K V Good m) (kf : KeyFit P k K Good) (t : TypeId) (ht : P.underlying t = some (.map k e)) (c : α) (hc : Good c) (v : β)
    (hg : o.guard = none) (x y z : Operand) (ho : o.op = .mapUpdate t x y z) (hx : a.eval x = .map (some b)) (hy : a.eval y = K c) (hz : a.eval z = V v)
    (hk : ∀ w', MapOf w' b K V Good (aput m c v) → Ext [b] w w' → wpList P ops Q rest (a.put o.dst undef) w') : wpList P ops Q (o :: rest) a w := by
  refine wpList_plain hg fun K' hK' => ?_
  obtain ⟨w', hr, h1, h2⟩ := h.put_run kf ht hc v
  unfold Oper.wp
  simp only [execOp, ho, hx, hy, hz, Sem.run_bind, hr, Result.andThen_ok, Sem.run_pure]
  exact hK' _ _ (hk w' h1 h2)
omit [DecidableEq α] in
/-- Length. -/
theorem wpList_mapLen (h : MapOf w b K V Good m) (t : TypeId) (ht : P.underlying t = some (.map k e))
    (hg : o.guard = none) (x : Operand) (ho : o.op = .call { callee := .builtin .len, args := #[x], argTypes := #[t] }) (hx : a.eval x = .map (some b))
    (hk : wpList P ops Q rest (a.put o.dst (.int .i64 m.length)) w) : wpList P ops Q (o :: rest) a w := by
  refine wpList_plain hg fun K' hK' => ?_
  unfold Oper.wp
  simp [execOp, ho, resolve, invoke, builtin, hx, h.len_run ht o.type, Result.andThen]
  exact hK' _ _ hk
end
theorem laid : laidOutB Try.prog = true := by kernel_rfl
theorem types_pos : ∃ m, Try.prog.types.size = m + 1 := by
  exact Nat.exists_eq_succ_of_ne_zero (by simp)
def k8 (k : Int) : Nat := (k % 256).toNat
end Go.Proofs.Ytbhjchlflkgjbaa
/-
  The second engine: maps of plain keys and values as pieces of memory.
-/
set_option maxRecDepth 100000
set_option linter.unusedSimpArgs false
set_option linter.unusedVariables false
namespace Go.Proofs.Ytbhjchlflkgjbaa.A
open Go.RowKit

theorem map_same {α β : Type} {w w' : World} {b : Nat} {K : α → Value} {V : β → Value} {Good : α → Prop} {m : List (α × β)} (h : MapOf w b K V Good m) (hb : w'.heap[b]? = w.heap[b]?) : MapOf w' b K V Good m := by
  obtain ⟨es, clock, h1, h2⟩ := h
  exact ⟨es, clock, hb.trans h1, h2⟩
/-- A map as a piece of memory. -/
def mapPc {α β : Type} (b : Nat) (K : α → Value) (V : β → Value) (Good : α → Prop) (m : List (α × β)) : Pc where
  ids := [b]
  p := fun _ w => MapOf w b K V Good m
  carry := fun _ _ _ _ _ hs h => map_same h (hs b (by simp))
  lt := fun _ _ h k hk => by simp at hk; subst hk; exact h.lt
abbrev mapV (b : Nat) : Abs := .v (.map (some b))
section
variable {P : Program} {n : Nat} {W : Wd} {σ τ : Blks} {l : Slots} {X : List Nat} {x y z : Operand} {d : Option Nat} {ty t k e : TypeId} {pos : String} {aft : Array Edge} {g : Option (Nat × Bool)} {b : Nat} {A B C : Abs}
variable {α β : Type} [DecidableEq α] {K : α → Value} {V : β → Value} {Good : α → Prop} {m : List (α × β)} {a : α} {v : β} {zv : Value}
/-- The tree stands for just this value. -/
def Abs.is (A : Abs) (u : Value) : Prop := (∀ K w x, rep K w A x → x = u) ∧ ∀ K w, rep K w A u
theorem is_v {u : Value} : (Abs.v u).is u := ⟨fun _ _ _ h => h, fun _ _ => rfl⟩
theorem is_agg {us : List Value} : (Abs.agg (us.map .v)).is (.agg us.toArray) := ⟨fun _ _ _ ⟨vs, h1, h2⟩ => by rw [h1, reps_plain.1 h2], fun _ _ => ⟨us, rfl, reps_plain.2 rfl⟩⟩
omit [DecidableEq α] in
theorem mem_map {w0 w : World} {F G : List Nat} {σ : Blks} (h : Mem w0 F G σ w) (hb : It.pc (mapPc b K V Good m) ∈ σ ∨ It.rdpc (mapPc b K V Good m) ∈ σ) : MapOf w b K V Good m := by
  rcases hb with hb | hb
  · exact h.hold _ hb
  · exact h.hold _ hb
omit [DecidableEq α] in
theorem map_later {w w' : World} (h : MapOf w b K V Good m) (hx : Ext X w w') (hb : b ∉ X) : MapOf w' b K V Good m := h.ext hx hb
/-- 'v, ok := m[k]'. -/
theorem Val.mapGetOk (kf : KeyFit P k K Good) (ht : P.underlying t = some (.map k e)) (hz : ∀ w, (zeroValue e).run P w = .ok zv w) (hx : look l x = some (mapV b)) (hb : It.pc (mapPc b K V Good m) ∈ σ ∨ It.rdpc (mapPc b K V Good m) ∈ σ) (hbX : b ∉ X)
    (hy : look l y = some A) (hA : A.is (K a)) (ha : Good a) (hC : C.is (((aget m a).map V).getD zv)) : Val P n W σ l X ⟨d, .lookup t x y true, ty, pos, aft, g⟩ (.tup [C, .v (.bool (aget m a).isSome)]) := fun ac w hs _ => by
  have h1 := mem_map hs.mem hb
  have e1 := hs.plain hx
  have e2 := hA.1 _ _ _ (hs.eval hy)
  refine ⟨.tuple #[((aget m a).map V).getD zv, .bool (aget m a).isSome], ⟨_, rfl, _, _, rfl, hC.2 _ _, _, _, rfl, rfl, rfl⟩, fun w' hw' => ?_⟩
  simp only [execOp, e1, e2, Sem.run_bind, (h1.ext hw' hbX).look_run kf ht (hz w') ha true, if_true, Result.andThen_ok, Sem.run_pure]
/-- 'm[k]'. -/
theorem Val.mapGet (kf : KeyFit P k K Good) (ht : P.underlying t = some (.map k e)) (hz : ∀ w, (zeroValue e).run P w = .ok zv w) (hx : look l x = some (mapV b)) (hb : It.pc (mapPc b K V Good m) ∈ σ ∨ It.rdpc (mapPc b K V Good m) ∈ σ) (hbX : b ∉ X)
    (hy : look l y = some A) (hA : A.is (K a)) (ha : Good a) (hC : C.is (((aget m a).map V).getD zv)) : Val P n W σ l X ⟨d, .lookup t x y false, ty, pos, aft, g⟩ C := fun ac w hs _ => by
  have h1 := mem_map hs.mem hb
  have e1 := hs.plain hx
  have e2 := hA.1 _ _ _ (hs.eval hy)
  refine ⟨((aget m a).map V).getD zv, hC.2 _ _, fun w' hw' => ?_⟩
  simp only [execOp, e1, e2, Sem.run_bind, (h1.ext hw' hbX).look_run kf ht (hz w') ha false, Bool.false_eq_true, if_false, Result.andThen_ok, Sem.run_pure]
omit [DecidableEq α] in
theorem Val.lenMap (ht : P.underlying t = some (.map k e)) (hx : look l x = some (mapV b)) (hb : It.pc (mapPc b K V Good m) ∈ σ ∨ It.rdpc (mapPc b K V Good m) ∈ σ) (hbX : b ∉ X) : Val P n W σ l X ⟨d, .call { callee := .builtin .len, args := #[x], argTypes := #[t] }, ty, pos, aft, g⟩ (.v (.int .i64 m.length)) := fun ac w hs _ => by
  have h1 : MapOf w b K V Good m := by
    rcases hb with hb | hb
    · exact hs.mem.hold _ hb
    · exact hs.mem.hold _ hb
  refine ⟨_, rfl, fun w' hw' => ?_⟩
  simp [execOp, resolve, invoke, builtin, hs.plain hx, (h1.ext hw' hbX).len_run ht ty, Result.andThen]
/-- 'm[k] = v'. -/
theorem Eff.mapPut {m' : List (α × β)} (kf : KeyFit P k K Good) (ht : P.underlying t = some (.map k e)) (hx : look l x = some (mapV b)) (hu : Upd (.pc (mapPc b K V Good m)) (.pc (mapPc b K V Good m')) σ τ) (hy : look l y = some A) (hA : A.is (K a)) (ha : Good a) (hz : look l z = some B) (hB : B.is (V v)) (hm : aput m a v = m') :
    Eff P n W σ l [b] ⟨d, .mapUpdate t x y z, ty, pos, aft, g⟩ fun u τ' => u = .v undef ∧ τ' = τ := fun ac w hs => by
  subst hm
  have h1 : MapOf w b K V Good m := hs.mem.hold _ hu.mem
  obtain ⟨w', hr, h2, h3⟩ := h1.put_run kf ht ha v
  have h4 := hs.mem.upd hu (h3.mono (by simp [It.mids, mapPc])) (by simp [It.mids, mapPc]) (fun k hk => .inl hk) rfl (fun _ => h2)
  refine ⟨_, w', _, _, ⟨rfl, rfl⟩, h3, rfl, h4.1, h4.2, .inr ⟨rfl, ?_⟩⟩
  simp only [execOp, hs.plain hx, hA.1 _ _ _ (hs.eval hy), hB.1 _ _ _ (hs.eval hz), Sem.run_bind, hr, Result.andThen_ok, Sem.run_pure]
omit [DecidableEq α] in
/-- 'map[K]V{}', 'make(map[K]V)'. -/
theorem Eff.makeMap {o : Op} (K : α → Value) (V : β → Value) (Good : α → Prop) (hrun : ∀ (ac : Act) (w : World), (execOp ac.eval ⟨d, o, ty, pos, aft, g⟩).run P w = .ok (.value (.map (some w.heap.size))) (w.alloc (.map #[] 0))) :
    Eff P n W σ l [] ⟨d, o, ty, pos, aft, g⟩ fun u τ' => ∃ b, u = mapV b ∧ τ' = .pc (mapPc b K V Good []) :: σ := fun ac w hs => by
  have hx : Ext [] w (w.alloc (.map #[] 0)) := (Ext.refl w).alloc _
  have h4 := hs.mem.new (y := .pc (mapPc w.heap.size K V Good [])) hx (by simp [It.mids, mapPc]) (by simp [It.mids, mapPc]) rfl (fun _ => MapOf.new w)
  exact ⟨_, _, _, _, ⟨w.heap.size, rfl, rfl⟩, hx, rfl, h4.1, h4.2, .inl (hrun ac w)⟩
end
end Go.Proofs.Ytbhjchlflkgjbaa.A
/-
  Maps of the program's own: an entry struck; an entry found or made, and then stored into; as pieces of memory.
-/
set_option maxRecDepth 100000
set_option linter.unusedSimpArgs false
set_option linter.unusedVariables false
namespace Go.Proofs.Ytbhjchlflkgjbaa
open Go.RowKit
section
variable {α β : Type} [DecidableEq α] {P : Program} {w w' : World} {b : Nat} {k e t : TypeId} {K : α → Value} {V : β → Value} {Good : α → Prop} {m : List (α × β)}
theorem erase_map {γ δ : Type} (f : γ → δ) : ∀ (l : List γ) (j : Nat), (l.eraseIdx j).map f = (l.map f).eraseIdx j
  | [], _ => rfl
  | _ :: _, 0 => rfl
  | x :: l, j + 1 => by simp [erase_map f l j]
theorem erase_adel : ∀ {m : List (α × β)} {j : Nat} {a : α} {v : β}, (m.map (·.1)).Nodup → m[j]? = some (a, v) → m.eraseIdx j = adel m a
  | [], j, a, v, _, h => by simp at h
  | p :: m, 0, a, v, hn, h => by
    simp only [List.getElem?_cons_zero, Option.some.injEq] at h
    subst h
    rw [List.map_cons, List.nodup_cons] at hn
    unfold adel
    rw [List.eraseIdx_cons_zero, List.filter_cons, if_neg (by simp)]
    symm
    rw [List.filter_eq_self]
    intro q hq
    simp only [decide_eq_true_eq]
    intro e
    exact hn.1 (e ▸ List.mem_map.2 ⟨q, hq, rfl⟩)
  | p :: m, j + 1, a, v, hn, h => by
    rw [List.map_cons, List.nodup_cons] at hn
    simp only [List.getElem?_cons_succ] at h
    have h1 := erase_adel hn.2 h
    have hne : p.1 ≠ a := fun e => hn.1 (by rw [e]; exact List.mem_map.2 ⟨_, List.mem_of_getElem? h, rfl⟩)
    unfold adel at h1 ⊢
    rw [List.eraseIdx_cons_succ, h1, List.filter_cons, if_pos (by simpa using hne)]
theorem adel_none {m : List (α × β)} {a : α} (h : aget m a = none) : adel m a = m := by
  unfold adel
  rw [List.filter_eq_self]
  intro q hq
  simp only [decide_eq_true_eq]
  intro e
  rw [aget_none] at h
  exact h (e ▸ List.mem_map.2 ⟨q, hq, rfl⟩)
omit [DecidableEq α] in
theorem setMap_same {b : Nat} {es : Array MapEntry} {clock : Nat} (hb : w.heap[b]? = some (.map es clock)) : MapOf w b K V Good m → MapOf ({ w with heap := w.heap.setIfInBounds b (.map es clock) } : World) b K V Good m := fun ⟨es', clock', h1, h2⟩ => by
  rw [hb] at h1
  obtain ⟨rfl, rfl⟩ : es = es' ∧ clock = clock' := by simpa using h1
  exact ⟨_, _, heap_setMap hb, h2⟩
/-- 'delete(m, a)'. -/
theorem MapOf.del_run (h : MapOf w b K V Good m) (kf : KeyFit P k K Good) (ht : P.underlying t = some (.map k e)) {a : α} (ha : Good a) (ty : TypeId) :
    ∃ w', (Builtin.delete_ #[t, k] ty #[.map (some b), K a]).run P w = .ok (.tuple #[]) w' ∧ MapOf w' b K V Good (adel m a) ∧ Ext [b] w w' := by
  have hh := h
  obtain ⟨es, clock, hb, he, hnd, hg, hborn, hbnd⟩ := h
  obtain ⟨l, hl⟩ := kf.lit a ha
  rcases find_run kf he hg hnd ha w with ⟨h1, h2⟩ | ⟨j, u, hj, h1, h2⟩
  · refine ⟨{ w with heap := w.heap.setIfInBounds b (.map es clock) }, ?_, ?_, Ext.setMap hb⟩
    · simp [Builtin.delete_, Sem.run_bind, run_underlying ht, Result.andThen, run_getMap hb, kf.keyed.check w _ hl, h2, run_setMap hb]
    · rw [adel_none h1]
      exact setMap_same hb hh
  · refine ⟨{ w with heap := w.heap.setIfInBounds b (.map (es.eraseIdxIfInBounds j) clock) }, ?_, ⟨_, _, heap_setMap hb, ?_, adel_nodup hnd a, ?_, ?_, ?_⟩, Ext.setMap hb⟩
    · simp [Builtin.delete_, Sem.run_bind, run_underlying ht, Result.andThen, run_getMap hb, kf.keyed.check w _ hl, h2, run_setMap hb]
    · have e1 : (es.eraseIdxIfInBounds j).toList = es.toList.eraseIdx j := by simp
      rw [e1, erase_map, he, ← erase_map, erase_adel hnd hj]
    · exact fun p hp => hg p ((List.mem_filter.1 hp).1)
    · intro x hx
      have e1 : (es.eraseIdxIfInBounds j).toList = es.toList.eraseIdx j := by simp
      rw [e1] at hx
      exact hborn x (List.mem_of_mem_eraseIdx hx)
    · have e1 : (es.eraseIdxIfInBounds j).toList = es.toList.eraseIdx j := by simp
      rw [e1, erase_map]
      exact hbnd.sublist (List.eraseIdx_sublist _ _)
/-- Block b is a map that holds the pairs m; the entry of a was born at s. -/
def MapAt (w : World) (b : Nat) (K : α → Value) (V : β → Value) (Good : α → Prop) (m : List (α × β)) (a : α) (s : Nat) : Prop :=
  ∃ es clock, w.heap[b]? = some (.map es clock) ∧ es.toList.map (fun e => (e.key, e.val)) = m.map (fun p => (K p.1, V p.2)) ∧ (m.map (·.1)).Nodup ∧ (∀ p ∈ m, Good p.1) ∧
    (∀ e ∈ es.toList, e.born < clock) ∧ (es.toList.map (·.born)).Nodup ∧ ∃ j : Nat, (es.toList[j]?).map (fun x : MapEntry => x.born) = some s ∧ (m[j]?).map (fun p : α × β => p.1) = some a
/-- A map with an entry for a: the old one, or a new one. -/
def aent (m : List (α × β)) (a : α) (z : β) : List (α × β) := if (aget m a).isSome then m else aput m a z
theorem MapOf.entry_run (h : MapOf w b K V Good m) (kf : KeyFit P k K Good) (ht : P.underlying t = some (.map k e)) {z : β} (hz : (zeroValue e).run P w = .ok (V z) w) {a : α} (ha : Good a) :
    ∃ w' s, (Instr.mapEntry t (.map (some b)) (K a)).run P w = .ok (.tuple #[((aget m a).map V).getD (V z), .int .i64 (s : Nat)]) w' ∧ MapAt w' b K V Good (aent m a z) a s ∧ Ext [b] w w' := by
  obtain ⟨es, clock, hb, he, hnd, hg, hborn, hbnd⟩ := h
  obtain ⟨l, hl⟩ := kf.lit a ha
  have hlen : es.toList.length = m.length := by
    have h3 := congrArg List.length he
    simpa using h3
  rcases find_run kf he hg hnd ha w with ⟨h1, h2⟩ | ⟨j, u, hj, h1, h2⟩
  · have hen : aent m a z = m ++ [(a, z)] := by
      unfold aent aput
      rw [if_neg (by rw [h1]; simp), if_neg (by rw [h1]; simp)]
    refine ⟨{ w with heap := w.heap.setIfInBounds b (.map (es.push { key := K a, val := V z, born := clock }) (clock + 1)) }, clock, ?_, ⟨_, _, heap_setMap hb, ?_, ?_, ?_, ?_, ?_, m.length, ?_, ?_⟩, Ext.setMap hb⟩
    · simp only [Instr.mapEntry, Sem.run_bind, run_underlying ht, Result.andThen_ok, run_getMap hb, kf.keyed.check w false hl, h2, hz, run_setMap hb, Sem.run_pure, h1]
      try rfl
    · rw [Array.toList_push, List.map_append, he, hen, List.map_append]
      rfl
    · rw [hen, List.map_append, List.nodup_append]
      refine ⟨hnd, by simp, ?_⟩
      intro x hx y hy
      simp at hy
      subst hy
      intro e
      subst e
      rw [aget_none] at h1
      exact h1 hx
    · intro p hp
      rw [hen, List.mem_append, List.mem_singleton] at hp
      rcases hp with hp | rfl
      · exact hg p hp
      · exact ha
    · intro x hx
      rw [Array.toList_push, List.mem_append, List.mem_singleton] at hx
      rcases hx with hx | rfl
      · have := hborn x hx; omega
      · exact Nat.lt_succ_self _
    · rw [Array.toList_push, List.map_append, List.nodup_append]
      refine ⟨hbnd, by simp, ?_⟩
      intro x hx y hy
      simp at hy
      subst hy
      simp only [List.mem_map] at hx
      obtain ⟨q, hq, rfl⟩ := hx
      have := hborn q hq
      omega
    · rw [Array.toList_push, List.getElem?_append_right (by omega), hlen, Nat.sub_self]
      rfl
    · rw [hen, List.getElem?_append_right (by omega), Nat.sub_self]
      rfl
  · have hjl : j < es.toList.length := by rw [hlen]; exact (List.getElem?_eq_some_iff.1 hj).1
    have hk : (es[j]?).map (·.key) = some (K a) := by
      rw [← Array.getElem?_toList]
      have h3 : (es.toList.map (fun e => (e.key, e.val)))[j]? = some (K a, V u) := by rw [he, List.getElem?_map, hj]; rfl
      rw [List.getElem?_map] at h3
      cases hx : es.toList[j]? with
      | none => rw [hx] at h3; cases h3
      | some x => rw [hx] at h3; simp at h3; simp [h3.1]
    have hen : aent m a z = m := by
      unfold aent
      rw [if_pos (by rw [h1]; rfl)]
    obtain ⟨x, hx⟩ : ∃ x, es.toList[j]? = some x := ⟨_, List.getElem?_eq_getElem hjl⟩
    have hxk : x.key = K a := by
      rw [← Array.getElem?_toList, hx] at hk
      simpa using hk
    have hmod : (es.modify j fun e => { e with key := K a }).toList = es.toList := by
      rw [Array.toList_modify]
      apply List.ext_getElem?
      intro i
      rw [List.getElem?_modify]
      by_cases hij : j = i
      · subst hij
        rw [hx]
        simp [← hxk]
      · simp [hij]
    have hb2 : (es[j]?).map (fun x : MapEntry => ((x.born : Nat) : Int)) = some ((x.born : Nat) : Int) := by rw [← Array.getElem?_toList, hx]; rfl
    refine ⟨{ w with heap := w.heap.setIfInBounds b (.map (es.modify j fun e => { e with key := K a }) clock) }, x.born, ?_, ⟨_, _, heap_setMap hb, ?_, ?_, ?_, ?_, ?_, j, ?_, ?_⟩, Ext.setMap hb⟩
    · simp only [Instr.mapEntry, Sem.run_bind, run_underlying ht, Result.andThen_ok, run_getMap hb, kf.keyed.check w false hl, h2, hk, hb2, Option.getD_some, kf.keyed.stays w hl, run_setMap hb, Sem.run_pure, h1]
      rfl
    · rw [hmod, hen]; exact he
    · rw [hen]; exact hnd
    · rw [hen]; exact hg
    · rw [hmod]; exact hborn
    · rw [hmod]; exact hbnd
    · rw [hmod, hx]; rfl
    · rw [hen, hj]; rfl
theorem MapAt.store_run {a : α} {s : Nat} (h : MapAt w b K V Good m a s) (v : β) :
    ∃ w', (Instr.entryStore t (.map (some b)) (.int .i64 (s : Nat)) (V v)).run P w = .ok () w' ∧ MapOf w' b K V Good (aput m a v) ∧ Ext [b] w w' := by
  obtain ⟨es, clock, hb, he, hnd, hg, hborn, hbnd, j, hs, ha⟩ := h
  obtain ⟨x, hx, hxs⟩ : ∃ x, es.toList[j]? = some x ∧ x.born = s := by
    cases hx : es.toList[j]? with
    | none => rw [hx] at hs; cases hs
    | some x => rw [hx] at hs; exact ⟨x, rfl, by simpa using hs⟩
  obtain ⟨u, hj⟩ : ∃ u, m[j]? = some (a, u) := by
    cases hm : m[j]? with
    | none => rw [hm] at ha; cases ha
    | some p => rw [hm] at ha; exact ⟨p.2, by have h : p.1 = a := (by simpa using ha); subst h; rfl⟩
  have hjl : j < es.toList.length := (List.getElem?_eq_some_iff.1 hx).1
  have hfind : es.findIdx? (fun e => ((e.born : Nat) : Int) == ((s : Nat) : Int)) = some j := by
    rw [Array.findIdx?_eq_some_iff_getElem]
    refine ⟨by simpa using hjl, ?_, fun i hi => ?_⟩
    · have : es.toList[j] = x := (List.getElem?_eq_some_iff.1 hx).2
      rw [Array.getElem_toList] at this
      rw [this, hxs]
      simp
    · simp only [beq_iff_eq, Int.natCast_inj]
      intro e
      have h1 : (es.toList.map (·.born))[i]? = some s := by rw [List.getElem?_map, List.getElem?_eq_getElem (by omega), Array.getElem_toList]; simp [e]
      have h2 : (es.toList.map (·.born))[j]? = some s := by rw [List.getElem?_map, hx]; simp [hxs]
      have := (List.getElem?_inj (by rw [List.length_map]; omega) hbnd).1 (h1.trans h2.symm)
      omega
  have hmod : (es.modify j fun e => { e with val := V v }).toList = es.toList.modify j fun e => { e with val := V v } := by simp
  refine ⟨{ w with heap := w.heap.setIfInBounds b (.map (es.modify j fun e => { e with val := V v }) clock) }, ?_, ⟨_, _, heap_setMap hb, ?_, aput_nodup hnd a v, ?_, ?_, ?_⟩, Ext.setMap hb⟩
  · have hi : (asInt (.int .i64 ((s : Nat) : Int))).run P w = .ok ((s : Nat) : Int) w := by simp [asInt, asIntOf]
    simp only [Instr.entryStore, Sem.run_bind, Result.andThen_ok, run_getMap hb, hi, hfind, run_setMap hb]
  · rw [hmod, aput_at hnd hj]
    apply List.ext_getElem?
    intro i
    have hei : (es.toList.map (fun e => (e.key, e.val)))[i]? = (m.map (fun p => (K p.1, V p.2)))[i]? := by rw [he]
    rw [List.getElem?_map, List.getElem?_map] at hei
    rw [List.getElem?_map, List.getElem?_map, List.getElem?_modify, List.getElem?_set]
    have hml : j < m.length := (List.getElem?_eq_some_iff.1 hj).1
    by_cases hij : j = i
    · subst hij
      rw [if_pos rfl, if_pos hml, hx]
      rw [hx, hj] at hei
      simp at hei
      simp [hei.1]
    · rw [if_neg hij]
      simpa [hij] using hei
  · intro p hp
    rw [aput_at hnd hj] at hp
    rcases List.mem_or_eq_of_mem_set hp with hp | rfl
    · exact hg p hp
    · exact hg (a, u) (List.mem_of_getElem? hj)
  · intro y hy
    rw [hmod] at hy
    obtain ⟨i, hi⟩ := List.getElem?_of_mem hy
    rw [List.getElem?_modify] at hi
    cases he2 : es.toList[i]? with
    | none => rw [he2] at hi; simp at hi
    | some y2 =>
      rw [he2] at hi
      have := hborn y2 (List.mem_of_getElem? he2)
      split at hi
      · simp at hi; rw [← hi]; exact this
      · simp at hi; rw [← hi]; exact this
  · rw [hmod]
    have : (es.toList.modify j fun e => { e with val := V v }).map (·.born) = es.toList.map (·.born) := by
      apply List.ext_getElem?
      intro i
      rw [List.getElem?_map, List.getElem?_map, List.getElem?_modify]
      cases es.toList[i]? with
      | none => simp
      | some y => by_cases hij : j = i <;> simp [hij]
    rw [this]
    exact hbnd
theorem aput_aent (m : List (α × β)) (a : α) (z v : β) : aput (aent m a z) a v = aput m a v := by
  unfold aent
  split
  · rfl
  · next h =>
    have h0 : aget m a = none := by simpa using h
    have h1 : (aget (aput m a z) a).isSome = true := by rw [aget_aput, if_pos rfl]; rfl
    have h2 : aput m a z = m ++ [(a, z)] := by unfold aput; rw [if_neg h]
    unfold aput at h1 ⊢
    rw [if_neg h] at h1 ⊢
    rw [if_pos h1, if_neg h, List.map_append]
    congr 1
    · rw [List.map_congr_left (g := id)]
      · simp
      · intro p hp
        rw [aget_none] at h0
        have : p.1 ≠ a := fun e => h0 (e ▸ List.mem_map.2 ⟨p, hp, rfl⟩)
        simp [this]
    · simp
end
end Go.Proofs.Ytbhjchlflkgjbaa
namespace Go.Proofs.Ytbhjchlflkgjbaa.A
open Go.RowKit
/-- A map as a piece of memory; the entry of a was born at s. -/
def mapAtPc {α β : Type} (b : Nat) (K : α → Value) (V : β → Value) (Good : α → Prop) (m : List (α × β)) (a : α) (s : Nat) : Pc where
  ids := [b]
  p := fun _ w => MapAt w b K V Good m a s
  carry := fun _ _ _ _ _ hs h => by
    obtain ⟨es, clock, h1, h2⟩ := h
    exact ⟨es, clock, (hs b (by simp)).trans h1, h2⟩
  lt := fun _ w h k hk => by
    simp at hk
    subst hk
    obtain ⟨es, clock, h1, _⟩ := h
    exact heap_lt h1
section
variable {P : Program} {n : Nat} {W : Wd} {σ τ : Blks} {l : Slots} {X : List Nat} {x y z : Operand} {d : Option Nat} {ty t k e : TypeId} {pos : String} {aft : Array Edge} {g : Option (Nat × Bool)} {b s : Nat} {A B C : Abs}
variable {α β : Type} [DecidableEq α] {K : α → Value} {V : β → Value} {Good : α → Prop} {m : List (α × β)} {a : α} {v zv : β}
/-- 'delete(m, k)'. -/
theorem Eff.mapDel {m' : List (α × β)} (kf : KeyFit P k K Good) (ht : P.underlying t = some (.map k e)) (hx : look l x = some (mapV b)) (hu : Upd (.pc (mapPc b K V Good m)) (.pc (mapPc b K V Good m')) σ τ) (hy : look l y = some A) (hA : A.is (K a)) (ha : Good a) (hm : adel m a = m') :
    Eff P n W σ l [b] ⟨d, .call { callee := .builtin .delete, args := #[x, y], argTypes := #[t, k] }, ty, pos, aft, g⟩ fun u τ' => u = .tup [] ∧ τ' = τ := fun ac w hs => by
  subst hm
  have h1 : MapOf w b K V Good m := hs.mem.hold _ hu.mem
  obtain ⟨w', hr, h2, h3⟩ := h1.del_run kf ht ha ty
  have h4 := hs.mem.upd hu (h3.mono (by simp [It.mids, mapPc])) (by simp [It.mids, mapPc]) (fun k hk => .inl hk) rfl (fun _ => h2)
  refine ⟨.tuple #[], w', _, _, ⟨rfl, rfl⟩, h3, ⟨[], rfl, rfl⟩, h4.1, h4.2, .inl ?_⟩
  simp [execOp, resolve, invoke, builtin, hs.plain hx, hA.1 _ _ _ (hs.eval hy), hr, Result.andThen]
/-- The entry of a key: the old one, or a new one. -/
theorem Eff.mapEntry {τ : Nat → Blks} (kf : KeyFit P k K Good) (ht : P.underlying t = some (.map k e)) (hz : ∀ w, (zeroValue e).run P w = .ok (V zv) w) (hx : look l x = some (mapV b)) (hu : ∀ s, Upd (.pc (mapPc b K V Good m)) (.pc (mapAtPc b K V Good (aent m a zv) a s)) σ (τ s))
    (hy : look l y = some A) (hA : A.is (K a)) (ha : Good a) (hC : C.is (((aget m a).map V).getD (V zv))) :
    Eff P n W σ l [b] ⟨d, .mapEntry t x y, ty, pos, aft, g⟩ fun u τ' => ∃ s : Nat, u = .tup [C, .v (.int .i64 (s : Nat))] ∧ τ' = τ s := fun ac w hs => by
  have h1 : MapOf w b K V Good m := hs.mem.hold _ (hu 0).mem
  obtain ⟨w', s, hr, h2, h3⟩ := h1.entry_run kf ht (hz w) ha
  have h4 := hs.mem.upd (hu s) (h3.mono (by simp [It.mids, mapPc])) (by simp [It.mids, mapAtPc]) (fun k hk => .inl (by simpa [It.mids, mapPc, mapAtPc] using hk)) rfl (fun _ => h2)
  refine ⟨.tuple #[((aget m a).map V).getD (V zv), .int .i64 (s : Nat)], w', _, _, ⟨s, rfl, rfl⟩, h3, ⟨_, rfl, _, _, rfl, hC.2 _ _, _, _, rfl, rfl, rfl⟩, h4.1, h4.2, .inl ?_⟩
  simp only [execOp, hs.plain hx, hA.1 _ _ _ (hs.eval hy), Sem.run_bind, hr, Result.andThen_ok, Sem.run_pure]
/-- .. and stored into. -/
theorem Eff.entryStore {m' : List (α × β)} (hx : look l x = some (mapV b)) (hu : Upd (.pc (mapAtPc b K V Good m a s)) (.pc (mapPc b K V Good m')) σ τ) (hy : look l y = some (.v (.int .i64 (s : Nat)))) (hz : look l z = some B) (hB : B.is (V v)) (hm : aput m a v = m') :
    Eff P n W σ l [b] ⟨d, .entryStore t x y z, ty, pos, aft, g⟩ fun u τ' => u = .v undef ∧ τ' = τ := fun ac w hs => by
  subst hm
  have h1 : MapAt w b K V Good m a s := hs.mem.hold _ hu.mem
  obtain ⟨w', hr, h2, h3⟩ := h1.store_run (P := P) (t := t) v
  have h4 := hs.mem.upd hu (h3.mono (by simp [It.mids, mapAtPc])) (by simp [It.mids, mapPc]) (fun k hk => .inl (by simpa [It.mids, mapPc, mapAtPc] using hk)) rfl (fun _ => h2)
  refine ⟨_, w', _, _, ⟨rfl, rfl⟩, h3, rfl, h4.1, h4.2, .inr ⟨rfl, ?_⟩⟩
  simp only [execOp, hs.plain hx, hs.plain hy, hB.1 _ _ _ (hs.eval hz), Sem.run_bind, hr, Result.andThen_ok, Sem.run_pure]
end
/-! ### Keys that are ints -/
abbrev intK (x : Int) : Value := .int .i64 x
abbrev intOk (x : Int) : Prop := InR .i64 x
theorem int_wf {x : Int} (h : intOk x) : (Lit.int .i64 x).wf = true := by
  simp only [InR, lo, hi] at h
  simp only [Lit.wf, Bool.and_eq_true, decide_eq_true_eq]
  exact ⟨by show (-9223372036854775808 : Int) ≤ _; omega, by show _ ≤ (9223372036854775807 : Int); omega⟩
theorem int_fit {P : Program} {k : TypeId} (hk : P.underlying k = some (.int .i64)) : KeyFit P k intK intOk where
  keyed := Maps.int_keyed hk
  lit a h := ⟨_, Maps.keyOf_int_mk hk (int_wf h)⟩
  inj a b _ _ h := by
    injection h
abbrev cntV (x : Nat) : Value := .int .i64 (x : Nat)
/-- Keys, rising. -/
def srt (ks : List Int) : List Int := ks.mergeSort fun x y => decide (x ≤ y)
theorem srt_perm (ks : List Int) : (srt ks).Perm ks := List.mergeSort_perm _ _
theorem srt_sorted (ks : List Int) : (srt ks).Pairwise (· ≤ ·) := by
  have h := List.pairwise_mergeSort (le := fun x y : Int => decide (x ≤ y)) (fun a b c h1 h2 => by simp only [decide_eq_true_eq] at *; omega) (fun a b => by simp only [Bool.or_eq_true, decide_eq_true_eq]; omega) ks
  exact h.imp fun h => by simpa using h
theorem sorted_unique : ∀ {l m : List Int}, l.Perm m → l.Pairwise (· ≤ ·) → m.Pairwise (· ≤ ·) → l = m
  | [], m, h, _, _ => (List.nil_perm.1 h).symm ▸ rfl
  | a :: l, [], h, _, _ => by have := h.length_eq; simp at this
  | a :: l, b :: m, h, h1, h2 => by
    rw [List.pairwise_cons] at h1 h2
    have hab : a = b := by
      have ha : a ∈ b :: m := h.mem_iff.1 List.mem_cons_self
      have hb : b ∈ a :: l := h.mem_iff.2 List.mem_cons_self
      rcases List.mem_cons.1 ha with e | ha
      · exact e
      · rcases List.mem_cons.1 hb with e | hb
        · exact e.symm
        · have := h1.1 b hb; have := h2.1 a ha; omega
    subst hab
    rw [sorted_unique (h.cons_inv) h1.2 h2.2]
theorem srt_congr {l m : List Int} (h : l.Perm m) : srt l = srt m := sorted_unique (((srt_perm l).trans h).trans (srt_perm m).symm) (srt_sorted l) (srt_sorted m)
theorem srt_length (ks : List Int) : (srt ks).length = ks.length := (srt_perm ks).length_eq
end Go.Proofs.Ytbhjchlflkgjbaa.A
