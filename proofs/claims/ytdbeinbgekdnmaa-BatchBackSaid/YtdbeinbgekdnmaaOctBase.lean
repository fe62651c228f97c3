/-
  Layer 1 over the engine, in plain Lean: readers of bytes.
-/
import Derived.Test.YtdbeinbgekdnmaaEngData
import Derived.Test.YtdbeinbgekdnmaaOctets
set_option maxRecDepth 100000
namespace Go.Proofs.Ytdbeinbgekdnmaa
open Go.RowKit

/-- A reader: its slice, the bytes that are left, the first failure. -/
structure Rd where
  v : Value
  l : List UInt8
  e : Int
/-- A slice from its element n on. -/
def tailV : Value → Nat → Value
  | .slice A m c, n => .slice (if c = n then A else A.map (·.add (n * 1))) (m - n) (c - n)
  | v, _ => v
def Rd.bad (s : Rd) (n : Int) : Prop := n < 0 ∨ (s.l.length : Int) < n
instance (s : Rd) (n : Int) : Decidable (s.bad n) := inferInstanceAs (Decidable (_ ∨ _))
def Rd.fixed (s : Rd) (n : Int) : Rd := if s.e ≠ 0 then s else if s.bad n then ⟨s.v, s.l, 2⟩ else ⟨tailV s.v n.toNat, s.l.drop n.toNat, 0⟩
def Rd.out (s : Rd) (n : Int) : List UInt8 := if s.e ≠ 0 then [] else if s.bad n then [] else s.l.take n.toNat
def beVal (l : List UInt8) : Nat := l.foldl (fun a c => a * 256 + c.toNat) 0
def Rd.num (s : Rd) (n : Int) : Nat := beVal (s.out n)
def Rd.fail (s : Rd) (x : Int) : Rd := ⟨s.v, s.l, x⟩
def Rd.count (s : Rd) (most : Int) : Rd := if (s.fixed 2).e = 0 ∧ most < s.num 2 then (s.fixed 2).fail 4 else s.fixed 2
def Rd.countN (s : Rd) (most : Int) : Nat := if (s.fixed 2).e = 0 ∧ most < s.num 2 then 0 else s.num 2
def Rd.row (s : Rd) (most : Int) : Rd := if (s.fixed 4).e ≠ 0 then s.fixed 4 else if most < s.num 4 then (s.fixed 4).fail 3 else (s.fixed 4).fixed (s.num 4)
def Rd.rowOut (s : Rd) (most : Int) : List UInt8 := if (s.fixed 4).e ≠ 0 then [] else if most < s.num 4 then [] else (s.fixed 4).out (s.num 4)
def Rd.end_ (s : Rd) : Int := if s.e = 0 ∧ s.l ≠ [] then 2 else s.e
/-- A reader in a block, of type T. -/
abbrev rdI (T : TypeId) (p : Nat) (s : Rd) : It := .blk p (row T [s.v, .int .i64 s.e])
/-- How many bytes there may be. -/
def lots : Nat := 100000000000
theorem upd_self {x : It} {σ τ : Blks} (h : Upd x x σ τ) : τ = σ := by
  induction h with
  | here => rfl
  | there _ ih => rw [ih]
theorem IsRow.tail {K : List Nat} {w : World} {v : Value} {l : List UInt8} (h : IsRow K w v l.length (l.map bc)) {n : Nat} (hn : n ≤ l.length) : IsRow K w (tailV v n) (l.drop n).length ((l.drop n).map bc) := by
  obtain ⟨A, c, rfl, h1, h2, h3⟩ := h.shape
  refine ⟨⟨if c = n then A else A.map (·.add (n * 1)), c - n, by simp only [tailV, List.length_drop], by simp; omega, by omega, fun hA => ?_⟩, fun hne => ?_⟩
  · split at hA
    · omega
    · simp at hA; have := h3 hA; omega
  · have hl : n < l.length := by
      rcases Nat.lt_or_ge n l.length with h4 | h4
      · exact h4
      · exact absurd (by rw [List.drop_eq_nil_of_le h4]; rfl) hne
    obtain ⟨b, off, n', c', hv, hb, hc⟩ := h.cells (by intro h0; have := congrArg List.length h0; rw [List.length_map, List.length_nil] at this; omega)
    simp at hv
    obtain ⟨rfl, rfl, rfl⟩ := hv
    refine ⟨b, off + n, l.length - n, c - n, by simp only [tailV]; rw [if_neg (by omega)]; simp only [Option.map_some, Addr.add_none, Nat.mul_one], hb, fun j u hu => ?_⟩
    rw [Nat.add_assoc]
    refine hc (n + j) u ?_
    rw [List.map_drop, List.getElem?_drop] at hu
    exact hu
theorem IsRow.shapeN {K : List Nat} {w : World} {v : Value} {n n' : Nat} {cs : List Value} (h : IsRow K w v n cs) (he : n = n') : IsRow K w v n' cs := he ▸ h
theorem IsRow.head {K : List Nat} {w : World} {A : Option Addr} {l : List UInt8} {m c : Nat} (h : IsRow K w (.slice A m c) l.length (l.map bc)) {n : Nat} (hn : n ≤ l.length) (k : Nat) (hk : n ≤ k) (hkc : k ≤ c) : IsRow K w (.slice A n k) (l.take n).length ((l.take n).map bc) := by
  obtain ⟨A', c', hv, h1, h2, h3⟩ := h.shape
  simp at hv
  obtain ⟨rfl, rfl, rfl⟩ := hv
  have hlen : (l.take n).length = n := by simp; omega
  refine ⟨⟨A, k, by rw [hlen], by omega, by omega, fun hA => by have := h3 hA; omega⟩, fun hne => ?_⟩
  obtain ⟨b, off, n', c'', hv, hb, hc⟩ := h.cells (by intro h0; have := congrArg List.length h0; simp at this; subst this; simp at hne)
  simp at hv
  obtain ⟨rfl, rfl, rfl⟩ := hv
  refine ⟨b, off, _, _, rfl, hb, fun j u hu => hc j u ?_⟩
  rw [List.map_take, List.getElem?_take] at hu
  split at hu
  · exact hu
  · cases hu
theorem Rd.fixed_length (s : Rd) (n : Int) : (s.fixed n).l.length ≤ s.l.length := by
  unfold Rd.fixed
  split
  · exact Nat.le_refl _
  · split
    · exact Nat.le_refl _
    · simp
theorem Rd.out_length (s : Rd) (n : Int) : (s.out n).length ≤ n.toNat := by
  unfold Rd.out
  split
  · simp
  · split
    · simp
    · simp; omega
theorem beVal_snoc (l : List UInt8) (c : UInt8) : beVal (l ++ [c]) = beVal l * 256 + c.toNat := by simp [beVal]
theorem beVal_lt (l : List UInt8) : beVal l < 256 ^ l.length := by
  have h : ∀ (l : List UInt8) (a : Nat), l.foldl (fun a c => a * 256 + c.toNat) a < (a + 1) * 256 ^ l.length := by
    intro l
    induction l with
    | nil => intro a; simp
    | cons c l ih =>
      intro a
      have h1 := ih (a * 256 + c.toNat)
      have h2 := c.toNat_lt
      have h3 : (a * 256 + c.toNat + 1) * 256 ^ l.length ≤ ((a + 1) * 256) * 256 ^ l.length := Nat.mul_le_mul_right _ (by omega)
      rw [List.foldl_cons, List.length_cons, Nat.pow_succ, Nat.mul_comm (256 ^ l.length) 256, ← Nat.mul_assoc]
      omega
  have := h l 0
  simpa [beVal] using this
theorem Rd.num_lt (s : Rd) {n : Int} {k : Nat} (h : n.toNat ≤ k) : s.num n < 256 ^ k :=
  Nat.lt_of_lt_of_le (beVal_lt _) (Nat.pow_le_pow_right (by omega) (Nat.le_trans (s.out_length n) h))
theorem Rd.num0 (s : Rd) {n : Int} (h : (s.fixed n).e ≠ 0) : s.num n = 0 := by
  unfold Rd.num Rd.out
  by_cases he : s.e = 0
  · by_cases hb : s.bad n
    · simp [hb, beVal]
    · exact absurd (by simp [Rd.fixed, he, hb]) h
  · simp [he, beVal]
theorem beVal_be (v n : Nat) (h : v < 256 ^ n) : beVal (beBytes v n) = v := by
  induction n generalizing v with
  | zero => simp at h; subst h; rfl
  | succ n ih =>
    have h1 : v / 256 < 256 ^ n := Nat.div_lt_of_lt_mul (by rw [Nat.pow_succ, Nat.mul_comm] at h; exact h)
    simp only [beBytes]
    rw [beVal_snoc, ih _ h1]
    simp
    omega
section
variable {P : Program} {n : Nat} {l : Slots} {D : World → Prop} {x y z : Operand} {d : Option Nat} {ty t e : TypeId} {pos : String} {aft : Array Edge} {g : Option (Nat × Bool)} {A : Option Addr} {m c q : Nat}
/-- 's[q:]' of a row of one cell elements. -/
theorem Val.sliceLo {tab : List (Nat × TI)} (hT : TabOk P tab) {i : TI} (hu : P.underlying t = some (.slice e)) (hi : ti tab e = some i) (h1 : Nat.beq i.size 1 = true) (hx : look l x = some (.slice A m c)) {k : IntKind} {r : Int} (hy : look l y = some (.int k r)) (hr : r = (q : Nat)) (hq : q ≤ m) :
    Val P n l D ⟨d, .slice t x (some y) none none, ty, pos, aft, g⟩ (tailV (.slice A m c) q) := fun Ac w hf _ => by
  have h2 := (hT _ _ hi).sizeOf (w := w)
  rw [Nat.eq_of_beq_eq_true h1] at h2
  subst hr
  simp [execOp, Instr.sliceAt, Instr.slice, Instr.sliceBounds, Instr.sliceBound, asIntOf, hf.eval hx, hf.eval hy, run_underlying hu, Sem.run_bind, Result.andThen, h2, hq, tailV]
/-- 's[:q:q]'. -/
theorem Val.sliceHiMax {tab : List (Nat × TI)} (hT : TabOk P tab) {i : TI} (hu : P.underlying t = some (.slice e)) (hi : ti tab e = some i) (hx : look l x = some (.slice A m c)) {k k' : IntKind} {r : Int} (hy : look l y = some (.int k r)) (hz : look l z = some (.int k' r)) (hr : r = (q : Nat)) (hq : q ≤ m) (hmc : m ≤ c) :
    Val P n l D ⟨d, .slice t x none (some y) (some z), ty, pos, aft, g⟩ (.slice A q q) := fun Ac w hf _ => by
  have h2 := (hT _ _ hi).sizeOf (w := w)
  have hqc : q ≤ c := by omega
  have hA : (A.map fun a : Addr => a.add 0) = A := by cases A <;> simp [Addr.add]
  subst hr
  simp [execOp, Instr.sliceAt, Instr.slice, Instr.sliceBounds, Instr.sliceBound, asIntOf, hf.eval hx, hf.eval hy, hf.eval hz, run_underlying hu, Sem.run_bind, Result.andThen, h2, hqc, hA]
/-- 's[:q]'. -/
theorem Val.sliceHi {tab : List (Nat × TI)} (hT : TabOk P tab) {i : TI} (hu : P.underlying t = some (.slice e)) (hi : ti tab e = some i) (hx : look l x = some (.slice A m c)) {k : IntKind} {r : Int} (hy : look l y = some (.int k r)) (hr : r = (q : Nat)) (hq : q ≤ c) :
    Val P n l D ⟨d, .slice t x none (some y) none, ty, pos, aft, g⟩ (.slice A q c) := fun Ac w hf _ => by
  have h2 := (hT _ _ hi).sizeOf (w := w)
  have hA : (A.map fun a : Addr => a.add 0) = A := by cases A <;> simp [Addr.add]
  subst hr
  simp [execOp, Instr.sliceAt, Instr.slice, Instr.sliceBounds, Instr.sliceBound, asIntOf, hf.eval hx, hf.eval hy, run_underlying hu, Sem.run_bind, Result.andThen, h2, hq, hA]
/-- A number shifted by a byte. -/
theorem Val.shl8 {a : Nat} (hx : look l x = some (.int .u64 a)) (hy : look l y = some (.int .u64 8)) (h : a < 72057594037927936) : Val P n l D ⟨d, .binOp .shl t x y e, ty, pos, aft, g⟩ (.int .u64 ((a * 256 : Nat) : Int)) := fun Ac w hf _ => by
  have hw : IntKind.u64.wrap ((a : Int) * 256) = (a : Int) * 256 := wrap_id ⟨by simp only [lo]; omega, by simp only [hi]; omega⟩
  simp [execOp, hf.eval hx, hf.eval hy, eqGuard, binOp, Op.shift, IntKind.bits, hw]
/-- A byte beside it. -/
theorem Val.or8 {a c : Nat} (hx : look l x = some (.int .u64 ((a * 256 : Nat) : Int))) (hy : look l y = some (.int .u64 c)) (h : a < 72057594037927936) (hc : c < 256) : Val P n l D ⟨d, .binOp .or t x y e, ty, pos, aft, g⟩ (.int .u64 ((a * 256 + c : Nat) : Int)) := by
  have h1 : (BitVec.ofInt 64 ((a * 256 : Nat) : Int) ||| BitVec.ofInt 64 (c : Int)).toNat = a * 256 + c := by
    rw [BitVec.toNat_or]
    have e1 : (BitVec.ofInt 64 ((a * 256 : Nat) : Int)).toNat = a * 256 := by rw [BitVec.toNat_ofInt]; omega
    have e2 : (BitVec.ofInt 64 (c : Int)).toNat = c := by rw [BitVec.toNat_ofInt]; omega
    rw [e1, e2]
    have := Nat.two_pow_add_eq_or_of_lt (i := 8) (b := c) hc a
    rw [show (2 : Nat) ^ 8 * a = a * 256 by rw [Nat.mul_comm]] at this
    exact this.symm
  have hw : IntKind.u64.wrap ((a * 256 + c : Nat) : Int) = ((a * 256 + c : Nat) : Int) := wrap_id ⟨by simp only [lo]; omega, by simp only [hi]; omega⟩
  refine Val.bitI hx hy (fun w => ?_) rfl
  show Result.ok (Value.int .u64 (IntKind.u64.wrap ((BitVec.ofInt 64 ((a * 256 : Nat) : Int) ||| BitVec.ofInt 64 (c : Int)).toNat : Int))) w = _
  rw [h1, hw]
/-- A shift to the right, by its number. -/
theorem Val.shrN {a q : Nat} {k' : IntKind} {b : Int} (hx : look l x = some (.int .u64 a)) (hy : look l y = some (.int k' b)) (hb : 0 ≤ b) (hq : (a : Int).fdiv (2 ^ (min b.toNat 64)) = q) : Val P n l D ⟨d, .binOp .shr t x y e, ty, pos, aft, g⟩ (.int .u64 (q : Int)) := by
  have := Val.shrI (P := P) (n := n) (D := D) (d := d) (t := t) (t' := e) (ty := ty) (pos := pos) (aft := aft) (g := g) hx hy hb
  rw [show IntKind.u64.bits = 64 from rfl, hq] at this
  exact this
/-- The lowest byte. -/
theorem Val.convB {x' : Nat} {a : TypeId} (hx : look l x = some (.int .u64 x')) (ht : P.underlying a = some (.int .u8)) (hs : (P.underlying t).isSome = true) : Val P n l D ⟨d, .convert t a x, ty, pos, aft, g⟩ (bc (UInt8.ofNat x')) := by
  have := Val.convW (P := P) (n := n) (D := D) (d := d) (ty := ty) (pos := pos) (aft := aft) (g := g) hx ht hs
  have h2 : IntKind.u8.wrap (x' : Int) = ((UInt8.ofNat x').toNat : Int) := by
    simp [IntKind.wrap, IntKind.bits, IntKind.signed]
  rw [h2] at this
  exact this
end
theorem shr_be (v j : Nat) (hj : j < 8) : (v : Int).fdiv (2 ^ (min (8 * j) 64)) = ((v / 256 ^ j : Nat) : Int) := by
  rw [Nat.min_eq_left (by omega), Int.fdiv_eq_ediv_of_nonneg _ (Int.pow_nonneg (by decide)), Int.pow_mul, show ((2 : Int) ^ 8) = ((256 : Nat) : Int) by decide, ← Int.natCast_pow, Int.natCast_ediv]
theorem upd_via {x y z : It} {σ τ : Blks} (h : Upd x z σ τ) : ∃ τ1, Upd x y σ τ1 ∧ Upd y z τ1 τ := by
  induction h with
  | here => exact ⟨_, .here, .here⟩
  | there _ ih => obtain ⟨τ1, h1, h2⟩ := ih; exact ⟨_, h1.there, h2.there⟩
theorem sizeB_le {n : Int} (h : sizeB n = true) : 0 < n ∧ n.toNat ≤ 8 := by
  rcases sizeB_cases h with rfl | rfl | rfl | rfl <;> decide
theorem take_snoc8 (l : List UInt8) (k : Nat) (h : k < l.length) : beVal (l.take (k + 1)) = beVal (l.take k) * 256 + (l[k]).toNat := by
  rw [List.take_succ_eq_append_getElem h, beVal_snoc]
theorem beVal_take (l : List UInt8) (k : Nat) (h : k < l.length) (hl : l.length ≤ 8) : beVal (l.take k) < 72057594037927936 := by
  have h1 := beVal_lt (l.take k)
  have h2 : 256 ^ (l.take k).length ≤ 256 ^ 7 := Nat.pow_le_pow_right (by omega) (by rw [List.length_take]; omega)
  omega
theorem beBytes_getElem (v : Nat) : ∀ (n j : Nat), j < n → (beBytes v n)[j]? = some (UInt8.ofNat (v / 256 ^ (n - 1 - j)))
  | 0, j, h => by omega
  | n + 1, j, h => by
    simp only [beBytes]
    rw [List.getElem?_append]
    by_cases hj : j < n
    · rw [if_pos (by rw [beBytes_length]; exact hj), beBytes_getElem (v / 256) n j hj, Nat.div_div_eq_div_mul]
      congr 3
      rw [← Nat.pow_succ']
      congr 1
      omega
    · have : j = n := by omega
      subst this
      rw [if_neg (by rw [beBytes_length]; omega), beBytes_length]
      simp
end Go.Proofs.Ytdbeinbgekdnmaa
