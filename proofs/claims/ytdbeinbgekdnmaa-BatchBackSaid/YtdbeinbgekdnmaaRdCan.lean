/-
  Readers, in plain Lean: what is read turns on the bytes alone; and what a batch's bytes tell.
-/
import Derived.Test.YtdbeinbgekdnmaaBatch3
set_option maxRecDepth 100000
namespace Go.Proofs.Ytdbeinbgekdnmaa
open Go.RowKit

/-- Two readers of the same bytes. -/
def Rd.as (s t : Rd) : Prop := s.l = t.l ∧ s.e = t.e
section
variable {s t : Rd}
theorem Rd.as.bad (h : s.as t) (n : Int) : s.bad n ↔ t.bad n := by unfold Rd.bad; rw [h.1]
theorem Rd.as.fixed (h : s.as t) (n : Int) : (s.fixed n).as (t.fixed n) := by
  unfold Rd.fixed Rd.as
  by_cases he : t.e = 0
  · have he' : s.e = 0 := by rw [h.2, he]
    by_cases hb : t.bad n
    · simp [he, he', hb, (h.bad n).2 hb, h.1]
    · have hb' : ¬ s.bad n := fun x => hb ((h.bad n).1 x)
      simp [he, he', hb, hb', h.1]
  · have he' : s.e ≠ 0 := by rw [h.2]; exact he
    simp [he, h.1, h.2]
theorem Rd.as.out (h : s.as t) (n : Int) : s.out n = t.out n := by
  unfold Rd.out
  rw [h.1, h.2]
  by_cases hb : t.bad n
  · simp [hb, (h.bad n).2 hb]
  · have hb' : ¬ s.bad n := fun x => hb ((h.bad n).1 x)
    simp [hb, hb']
theorem Rd.as.num (h : s.as t) (n : Int) : s.num n = t.num n := by unfold Rd.num; rw [h.out]
theorem Rd.as.row (h : s.as t) (most : Int) : (s.row most).as (t.row most) := by
  have h1 := h.fixed 4
  unfold Rd.row
  rw [h1.2, h.num 4]
  split
  · exact h1
  · split
    · exact ⟨h1.1, rfl⟩
    · exact h1.fixed _
theorem Rd.as.rowOut (h : s.as t) (most : Int) : s.rowOut most = t.rowOut most := by
  have h1 := h.fixed 4
  unfold Rd.rowOut
  rw [h1.2, h.num 4, h1.out]
theorem Rd.as.c3 (h : s.as t) : s.c3.as t.c3 := ((h.fixed 1).fixed 8).fixed 1
theorem Rd.as.c4 (h : s.as t) (m : Int) : (s.c4 m).as (t.c4 m) := h.c3.row m
theorem Rd.as.c6 (h : s.as t) (m : Int) : (s.c6 m).as (t.c6 m) := ((h.c4 m).fixed 8).fixed 8
theorem Rd.as.coreEnd (h : s.as t) (m : Int) : (s.coreEnd m).as (t.coreEnd m) := (h.c6 m).row m
theorem Rd.as.core (h : s.as t) (m : Int) : s.core m = t.core m := by
  unfold Rd.core
  rw [h.num, (h.fixed 1).num, ((h.fixed 1).fixed 8).num, h.c3.rowOut, (h.c4 m).num, ((h.c4 m).fixed 8).num, (h.c6 m).rowOut]
theorem Rd.as.end_ (h : s.as t) : s.end_ = t.end_ := by unfold Rd.end_; rw [h.1, h.2]
end
def Rd.of (l : List UInt8) : Rd := ⟨.slice none 0 0, l, 0⟩
def coreOf (l : List UInt8) (most : Int) : Core := (Rd.of l).core most
def okOf (l : List UInt8) (most : Int) : Bool := decide (((Rd.of l).coreEnd most).end_ = 0)
theorem of_as (z : Value) (l : List UInt8) : (⟨z, l, 0⟩ : Rd).as (Rd.of l) := ⟨rfl, rfl⟩
/-- Entries, one behind the other; none: one of them is of no form. -/
def Rd.ents (most : Int) : Nat → Rd → List Ent → Option (List Ent × Rd)
  | 0, s, acc => some (acc, s)
  | m + 1, s, acc => if okOf (s.rowOut most) (s.rowOut most).length = false then none else Rd.ents most m ((s.row most).fixed 1) (acc ++ [⟨coreOf (s.rowOut most) (s.rowOut most).length, (s.row most).num 1⟩])
def parse2 (n : Int) : Option (List Ent × Rd) → List Ent × Int
  | none => ([], 2)
  | some (es, s) => if s.end_ ≠ 0 then ([], 2) else if chkB es n ≠ 0 then ([], chkB es n) else (es, 0)
/-- How many entries are read at most. -/
def manyOf (l : List UInt8) : Nat := min ((Rd.of l).num 2) (l.length + 1)
def parseS (l : List UInt8) (n : Int) : List Ent × Int := parse2 n (Rd.ents l.length (manyOf l) ((Rd.of l).fixed 2) [])
theorem ents_as {n most : Int} : ∀ (m : Nat) (acc : List Ent) {s t : Rd}, s.as t → parse2 n (s.ents most m acc) = parse2 n (t.ents most m acc)
  | 0, acc, s, t, h => by simp only [Rd.ents, parse2, h.end_]
  | m + 1, acc, s, t, h => by
    simp only [Rd.ents, h.rowOut]
    split
    · rfl
    · rw [(h.row most).num]
      exact ents_as m _ ((h.row most).fixed 1)
theorem Rd.rowOut_length (s : Rd) (most : Int) : (s.rowOut most).length ≤ s.l.length := by
  have h1 := s.fixed_length 4
  unfold Rd.rowOut
  split
  · simp
  · split
    · simp
    · unfold Rd.out
      split
      · simp
      · split
        · simp
        · simp; omega
section
variable {P : Program} {n : Nat} {l : Slots} {D : World → Prop} {x y : Operand} {d : Option Nat} {ty t t' : TypeId} {pos : String} {aft : Array Edge} {g : Option (Nat × Bool)}
theorem Val.minN {k : IntKind} {i j : Nat} {b : Int} (hx : look l x = some (.int k i)) (hy : look l y = some (.int k b)) (hb : b = (j : Nat)) : Val P n l D ⟨d, .call { callee := .builtin .min, args := #[x, y], argTypes := #[t, t'] }, ty, pos, aft, g⟩ (.int k ((min i j : Nat) : Int)) := by
  subst hb
  have := Val.minI (P := P) (n := n) (D := D) (d := d) (t := t) (t' := t') (ty := ty) (pos := pos) (aft := aft) (g := g) hx hy
  rw [show (min (i : Int) (j : Int)) = ((min i j : Nat) : Int) by omega] at this
  exact this
end
end Go.Proofs.Ytdbeinbgekdnmaa
