/-
  An engine for walks: the laws of the operations that leave the world alone.
-/
import Derived.Test.YtdbeinbgekdnmaaEng
import Derived.IntWalk
set_option maxRecDepth 100000
namespace Go.Proofs.Ytdbeinbgekdnmaa
open Go.RowKit

def lo : IntKind → Int
  | .i8 => -128 | .i16 => -32768 | .i32 => -2147483648 | .i64 => -9223372036854775808
  | _ => 0
def hi : IntKind → Int
  | .i8 => 127 | .i16 => 32767 | .i32 => 2147483647 | .i64 => 9223372036854775807
  | .u8 => 255 | .u16 => 65535 | .u32 => 4294967295 | .u64 => 18446744073709551615
def InR (k : IntKind) (z : Int) : Prop := lo k ≤ z ∧ z ≤ hi k
theorem wrap_id {k : IntKind} {z : Int} (h : InR k z) : k.wrap z = z := by
  obtain ⟨h1, h2⟩ := h
  cases k <;> simp [IntKind.wrap, IntKind.bits, IntKind.signed, lo, hi] at * <;> omega

section
variable {P : Program} {n : Nat} {l : Slots} {D : World → Prop} {x y z : Operand} {d : Option Nat} {ty t t' : TypeId} {pos : String} {aft : Array Edge} {g : Option (Nat × Bool)} {v u : Value} {k k' : IntKind} {a b : Int}

theorem Val.move (hx : look l x = some v) : Val P n l D ⟨d, .move x, ty, pos, aft, g⟩ v := fun A w hf _ => by simp [execOp, hf.eval hx]
theorem Val.assign (hx : look l x = some v) : Val P n l D ⟨d, .assign x, ty, pos, aft, g⟩ v := fun A w hf _ => by simp [execOp, hf.eval hx]
theorem Val.pickT (hc : look l x = some (.bool true)) (hy : look l y = some v) : Val P n l D ⟨d, .pick x y z, ty, pos, aft, g⟩ v := fun A w hf _ => by simp [execOp, hf.eval hc, hf.eval hy, asBool]
theorem Val.pickF (hc : look l x = some (.bool false)) (hz : look l z = some v) : Val P n l D ⟨d, .pick x y z, ty, pos, aft, g⟩ v := fun A w hf _ => by simp [execOp, hf.eval hc, hf.eval hz, asBool]

theorem Val.addI (hx : look l x = some (.int k a)) (hy : look l y = some (.int k b)) (h : InR k (a + b)) : Val P n l D ⟨d, .binOp .add t x y t', ty, pos, aft, g⟩ (.int k (a + b)) := fun A w hf _ => by
  simp [execOp, hf.eval hx, hf.eval hy, eqGuard, binOp, Op.intArith, wrap_id h]
theorem Val.subI (hx : look l x = some (.int k a)) (hy : look l y = some (.int k b)) (h : InR k (a - b)) : Val P n l D ⟨d, .binOp .sub t x y t', ty, pos, aft, g⟩ (.int k (a - b)) := fun A w hf _ => by
  simp [execOp, hf.eval hx, hf.eval hy, eqGuard, binOp, Op.intArith, wrap_id h]
/-- A difference of whole numbers that is one. -/
theorem Val.subNat {i j : Nat} (hx : look l x = some (.int k i)) (hy : look l y = some (.int k b)) (hj : b = (j : Nat)) (h : j ≤ i) (hr : InR k i) : Val P n l D ⟨d, .binOp .sub t x y t', ty, pos, aft, g⟩ (.int k ((i - j : Nat) : Int)) := fun A w hf _ => by
  subst hj
  have h2 : (i : Int) - j = ((i - j : Nat) : Int) := by omega
  have h3 : InR k ((i - j : Nat) : Int) := by
    obtain ⟨h4, h5⟩ := hr
    refine ⟨?_, by omega⟩
    have : lo k ≤ 0 := by cases k <;> simp [lo]
    omega
  have h4 : InR k ((i : Int) - (j : Int)) := h2 ▸ h3
  have h5 := Val.subI (P := P) (n := n) (D := fun _ => True) (d := d) (t := t) (t' := t') (ty := ty) (pos := pos) (aft := aft) (g := g) hx hy h4 A w hf trivial
  rw [h2] at h5
  exact h5
theorem Val.mulI (hx : look l x = some (.int k a)) (hy : look l y = some (.int k b)) (h : InR k (a * b)) : Val P n l D ⟨d, .binOp .mul t x y t', ty, pos, aft, g⟩ (.int k (a * b)) := fun A w hf _ => by
  simp [execOp, hf.eval hx, hf.eval hy, eqGuard, binOp, Op.intArith, wrap_id h]
theorem Val.addW (hx : look l x = some (.int k a)) (hy : look l y = some (.int k b)) : Val P n l D ⟨d, .binOp .add t x y t', ty, pos, aft, g⟩ (.int k (k.wrap (a + b))) := fun A w hf _ => by
  simp [execOp, hf.eval hx, hf.eval hy, eqGuard, binOp, Op.intArith]
theorem Val.subW (hx : look l x = some (.int k a)) (hy : look l y = some (.int k b)) : Val P n l D ⟨d, .binOp .sub t x y t', ty, pos, aft, g⟩ (.int k (k.wrap (a - b))) := fun A w hf _ => by
  simp [execOp, hf.eval hx, hf.eval hy, eqGuard, binOp, Op.intArith]
theorem Val.mulW (hx : look l x = some (.int k a)) (hy : look l y = some (.int k b)) : Val P n l D ⟨d, .binOp .mul t x y t', ty, pos, aft, g⟩ (.int k (k.wrap (a * b))) := fun A w hf _ => by
  simp [execOp, hf.eval hx, hf.eval hy, eqGuard, binOp, Op.intArith]
/-- A remainder of a number that is not below 0. -/
theorem Val.remI (hx : look l x = some (.int k a)) (hy : look l y = some (.int k b)) (h : 0 ≤ a ∧ 0 < b) : Val P n l D ⟨d, .binOp .rem t x y t', ty, pos, aft, g⟩ (.int k (a % b)) := fun A w hf _ => by
  have h0 : b ≠ 0 := by omega
  simp [execOp, hf.eval hx, hf.eval hy, eqGuard, binOp, Op.intDiv, h0, Int.tmod_eq_emod_of_nonneg h.1]
theorem Val.remT (hx : look l x = some (.int k a)) (hy : look l y = some (.int k b)) (h0 : b ≠ 0) : Val P n l D ⟨d, .binOp .rem t x y t', ty, pos, aft, g⟩ (.int k (a.tmod b)) := fun A w hf _ => by
  simp [execOp, hf.eval hx, hf.eval hy, eqGuard, binOp, Op.intDiv, h0]
theorem Val.quoI (hx : look l x = some (.int k a)) (hy : look l y = some (.int k b)) (h : 0 ≤ a ∧ 0 < b) (hr : InR k (a / b)) : Val P n l D ⟨d, .binOp .quo t x y t', ty, pos, aft, g⟩ (.int k (a / b)) := fun A w hf _ => by
  have h0 : b ≠ 0 := by omega
  simp [execOp, hf.eval hx, hf.eval hy, eqGuard, binOp, Op.intDiv, h0, Int.tdiv_eq_ediv_of_nonneg h.1, wrap_id hr]
theorem Val.bitI {op : BinOp} {r : Int} (hx : look l x = some (.int k a)) (hy : look l y = some (.int k b)) (h : ∀ w, (Op.intBits op k a b).run P w = .ok (.int k r) w) (ho : (op matches .and | .or | .xor | .andNot) = true) : Val P n l D ⟨d, .binOp op t x y t', ty, pos, aft, g⟩ (.int k r) := fun A w hf _ => by
  cases op <;> simp at ho <;> simp [execOp, hf.eval hx, hf.eval hy, eqGuard, binOp, h w]
theorem Val.shlW (hx : look l x = some (.int k a)) (hy : look l y = some (.int k' b)) (h : 0 ≤ b) : Val P n l D ⟨d, .binOp .shl t x y t', ty, pos, aft, g⟩ (.int k (k.wrap (a * 2 ^ (min b.toNat k.bits)))) := fun A w hf _ => by
  have h0 : ¬ b < 0 := by omega
  simp [execOp, hf.eval hx, hf.eval hy, eqGuard, binOp, Op.shift, h0]
theorem Val.shrI (hx : look l x = some (.int k a)) (hy : look l y = some (.int k' b)) (h : 0 ≤ b) : Val P n l D ⟨d, .binOp .shr t x y t', ty, pos, aft, g⟩ (.int k (a.fdiv (2 ^ (min b.toNat k.bits)))) := fun A w hf _ => by
  have h0 : ¬ b < 0 := by omega
  simp [execOp, hf.eval hx, hf.eval hy, eqGuard, binOp, Op.shift, h0]
theorem Val.eqI (hx : look l x = some (.int k a)) (hy : look l y = some (.int k b)) : Val P n l D ⟨d, .binOp .eql t x y t', ty, pos, aft, g⟩ (.bool (decide (a = b))) := fun A w hf _ => by
  simp [execOp, hf.eval hx, hf.eval hy, eqGuard, binOp, Op.intCmp]; rfl
theorem Val.neI (hx : look l x = some (.int k a)) (hy : look l y = some (.int k b)) : Val P n l D ⟨d, .binOp .neq t x y t', ty, pos, aft, g⟩ (.bool (decide (a ≠ b))) := fun A w hf _ => by
  simp [execOp, hf.eval hx, hf.eval hy, eqGuard, binOp, Op.intCmp]; rfl
theorem Val.ltI (hx : look l x = some (.int k a)) (hy : look l y = some (.int k b)) : Val P n l D ⟨d, .binOp .lss t x y t', ty, pos, aft, g⟩ (.bool (decide (a < b))) := fun A w hf _ => by
  simp [execOp, hf.eval hx, hf.eval hy, eqGuard, binOp, Op.intCmp]
theorem Val.leI (hx : look l x = some (.int k a)) (hy : look l y = some (.int k b)) : Val P n l D ⟨d, .binOp .leq t x y t', ty, pos, aft, g⟩ (.bool (decide (a ≤ b))) := fun A w hf _ => by
  simp [execOp, hf.eval hx, hf.eval hy, eqGuard, binOp, Op.intCmp]
theorem Val.gtI (hx : look l x = some (.int k a)) (hy : look l y = some (.int k b)) : Val P n l D ⟨d, .binOp .gtr t x y t', ty, pos, aft, g⟩ (.bool (decide (b < a))) := fun A w hf _ => by
  simp [execOp, hf.eval hx, hf.eval hy, eqGuard, binOp, Op.intCmp]
theorem Val.geI (hx : look l x = some (.int k a)) (hy : look l y = some (.int k b)) : Val P n l D ⟨d, .binOp .geq t x y t', ty, pos, aft, g⟩ (.bool (decide (b ≤ a))) := fun A w hf _ => by
  simp [execOp, hf.eval hx, hf.eval hy, eqGuard, binOp, Op.intCmp]
theorem bytes_eq {s r : ByteArray} : (s.toList == r.toList) = decide (s = r) := by
  rw [Bool.eq_iff_iff]
  simp only [ByteArray.toList_eq, beq_iff_eq, decide_eq_true_eq]
  constructor
  · intro h
    obtain ⟨a⟩ := s; obtain ⟨b⟩ := r
    simp at h; rw [h]
  · rintro rfl; rfl
theorem Val.eqS {s r : ByteArray} (hx : look l x = some (.string s)) (hy : look l y = some (.string r)) : Val P n l D ⟨d, .binOp .eql t x y t', ty, pos, aft, g⟩ (.bool (decide (s = r))) := fun A w hf _ => by
  simp only [execOp, hf.eval hx, hf.eval hy, eqGuard, binOp, Op.stringOp, bytes_eq]; rfl
theorem Val.neS {s r : ByteArray} (hx : look l x = some (.string s)) (hy : look l y = some (.string r)) : Val P n l D ⟨d, .binOp .neq t x y t', ty, pos, aft, g⟩ (.bool (decide (s ≠ r))) := fun A w hf _ => by
  have : (decide (s ≠ r)) = !decide (s = r) := by simp
  simp only [execOp, hf.eval hx, hf.eval hy, eqGuard, binOp, Op.stringOp, bytes_eq, this]; rfl
theorem Val.addS {s r : ByteArray} (hx : look l x = some (.string s)) (hy : look l y = some (.string r)) (h : (s.size : Int) + r.size ≤ 9223372036854775807) : Val P n l D ⟨d, .binOp .add t x y t', ty, pos, aft, g⟩ (.string (s ++ r)) := fun A w hf _ => by
  simp [execOp, hf.eval hx, hf.eval hy, eqGuard, binOp, Op.stringOp, h]
/-- A pointer against nil. -/
theorem Val.eqP {p : Option Addr} (hx : look l x = some (.pointer p)) (hy : look l y = some (.pointer none)) (ht : P.underlying t = some (.pointer (P.pointee t))) : Val P n l D ⟨d, .binOp .eql t x y t', ty, pos, aft, g⟩ (.bool p.isNone) := fun A w hf _ => by
  simp [execOp, hf.eval hx, hf.eval hy, eqGuard, run_eql_pointer_nil w t p ht]
theorem Val.neP {p : Option Addr} (hx : look l x = some (.pointer p)) (hy : look l y = some (.pointer none)) (ht : P.underlying t = some (.pointer (P.pointee t))) : Val P n l D ⟨d, .binOp .neq t x y t', ty, pos, aft, g⟩ (.bool (!p.isNone)) := fun A w hf _ => by
  simp [execOp, hf.eval hx, hf.eval hy, eqGuard, run_neq_pointer_nil w t p ht]
theorem Val.eqB {p q : Bool} (hx : look l x = some (.bool p)) (hy : look l y = some (.bool q)) (ht : P.underlying t = some .bool) : Val P n l D ⟨d, .binOp .eql t x y t', ty, pos, aft, g⟩ (.bool (p == q)) := fun A w hf _ => by
  simp [execOp, hf.eval hx, hf.eval hy, eqGuard, run_eql_bool w t p q ht]
theorem Val.neB {p q : Bool} (hx : look l x = some (.bool p)) (hy : look l y = some (.bool q)) (ht : P.underlying t = some .bool) : Val P n l D ⟨d, .binOp .neq t x y t', ty, pos, aft, g⟩ (.bool (!(p == q))) := fun A w hf _ => by
  simp [execOp, hf.eval hx, hf.eval hy, eqGuard, run_neq_bool w t p q ht]
/-- Structs and arrays. -/
theorem Val.eqA {X Y : Array Value} (hx : look l x = some (.agg X)) (hy : look l y = some (.agg Y)) (hg : P.eqGuardType P.depth t = false) (h : ∀ w, (binOp .eql t (.agg X) (.agg Y)).run P w = .ok v w) : Val P n l D ⟨d, .binOp .eql t x y t', ty, pos, aft, g⟩ v := fun A w hf _ => by
  simp only [execOp, hf.eval hx, hf.eval hy, eqGuard]
  simp [Sem.run_bind, program, Sem.run, hg, h w]
theorem Val.neA {X Y : Array Value} (hx : look l x = some (.agg X)) (hy : look l y = some (.agg Y)) (hg : P.eqGuardType P.depth t = false) (h : ∀ w, (binOp .neq t (.agg X) (.agg Y)).run P w = .ok v w) : Val P n l D ⟨d, .binOp .neq t x y t', ty, pos, aft, g⟩ v := fun A w hf _ => by
  simp only [execOp, hf.eval hx, hf.eval hy, eqGuard]
  simp [Sem.run_bind, program, Sem.run, hg, h w]
theorem Val.notP {p : Prop} [Decidable p] (hx : look l x = some (.bool (decide p))) : Val P n l D ⟨d, .unOp .not t x, ty, pos, aft, g⟩ (.bool (decide ¬p)) := fun A w hf _ => by
  simp [execOp, hf.eval hx, Op.unary]
theorem Val.notB {p : Bool} (hx : look l x = some (.bool p)) : Val P n l D ⟨d, .unOp .not t x, ty, pos, aft, g⟩ (.bool !p) := fun A w hf _ => by
  simp [execOp, hf.eval hx, Op.unary]
theorem Val.notT (hx : look l x = some (.bool true)) : Val P n l D ⟨d, .unOp .not t x, ty, pos, aft, g⟩ (.bool false) := fun A w hf _ => by
  simp [execOp, hf.eval hx, Op.unary]
theorem Val.notF (hx : look l x = some (.bool false)) : Val P n l D ⟨d, .unOp .not t x, ty, pos, aft, g⟩ (.bool true) := fun A w hf _ => by
  simp [execOp, hf.eval hx, Op.unary]
theorem Val.negI (hx : look l x = some (.int k a)) (h : InR k (-a)) : Val P n l D ⟨d, .unOp .neg t x, ty, pos, aft, g⟩ (.int k (-a)) := fun A w hf _ => by
  simp [execOp, hf.eval hx, Op.unary, Op.intArith, wrap_id h]
/-- A number as a number of another kind. -/
theorem Val.convI {k2 : IntKind} (hx : look l x = some (.int k a)) (ht : P.underlying t' = some (.int k2)) (hs : (P.underlying t).isSome = true) (h : InR k2 a) : Val P n l D ⟨d, .convert t t' x, ty, pos, aft, g⟩ (.int k2 a) := fun A w hf _ => by
  obtain ⟨ds, hs⟩ := Option.isSome_iff_exists.1 hs
  simp [execOp, hf.eval hx, convert, run_underlying hs, run_underlying ht, Sem.run_bind, Conv.intToInt, wrap_id h]
theorem Val.convW {k2 : IntKind} (hx : look l x = some (.int k a)) (ht : P.underlying t' = some (.int k2)) (hs : (P.underlying t).isSome = true) : Val P n l D ⟨d, .convert t t' x, ty, pos, aft, g⟩ (.int k2 (k2.wrap a)) := fun A w hf _ => by
  obtain ⟨ds, hs⟩ := Option.isSome_iff_exists.1 hs
  simp [execOp, hf.eval hx, convert, run_underlying hs, run_underlying ht, Sem.run_bind, Conv.intToInt]
theorem Val.convS {s : ByteArray} (hx : look l x = some (.string s)) (ht : P.underlying t' = some .string) (hs : P.underlying t = some .string) : Val P n l D ⟨d, .convert t t' x, ty, pos, aft, g⟩ (.string s) := fun A w hf _ => by
  simp [execOp, hf.eval hx, convert, run_underlying hs, run_underlying ht, Sem.run_bind]
theorem Val.extract {vs : Array Value} {i : Nat} (hx : look l x = some (.tuple vs)) (hi : vs[i]? = some v) : Val P n l D ⟨d, .extract x i, ty, pos, aft, g⟩ v := fun A w hf _ => by
  simp [execOp, hf.eval hx, Instr.extract, hi]
theorem Val.nilCheck {p : Addr} (hx : look l x = some (.pointer (some p))) : Val P n l D ⟨d, .nilCheck x, ty, pos, aft, g⟩ (.pointer (some p)) := fun A w hf _ => by
  simp [execOp, hf.eval hx]
theorem Val.lenSl {A' : Option Addr} {m c : Nat} {e : TypeId} (hx : look l x = some (.slice A' m c)) (ht : P.underlying t = some (.slice e)) : Val P n l D ⟨d, .call { callee := .builtin .len, args := #[x], argTypes := #[t] }, ty, pos, aft, g⟩ (.int .i64 m) := fun A w hf _ => by
  simp [execOp, resolve, invoke, builtin, Builtin.len_, hf.eval hx, run_underlying ht, Sem.run_bind, Result.andThen, goInt]
theorem Val.lenSt {s : ByteArray} (hx : look l x = some (.string s)) (ht : P.underlying t = some .string) : Val P n l D ⟨d, .call { callee := .builtin .len, args := #[x], argTypes := #[t] }, ty, pos, aft, g⟩ (.int .i64 s.size) := fun A w hf _ => by
  simp [execOp, resolve, invoke, builtin, Builtin.len_, hf.eval hx, run_underlying ht, Sem.run_bind, Result.andThen, goInt]
theorem Val.lenAr {m : Nat} {e : TypeId} (hx : look l x = some v) (ht : P.underlying t = some (.array m e)) : Val P n l D ⟨d, .call { callee := .builtin .len, args := #[x], argTypes := #[t] }, ty, pos, aft, g⟩ (.int .i64 m) := fun A w hf _ => by
  simp [execOp, resolve, invoke, builtin, Builtin.len_, hf.eval hx, run_underlying ht, Sem.run_bind, Result.andThen, goInt]
theorem Val.minI (hx : look l x = some (.int k a)) (hy : look l y = some (.int k b)) : Val P n l D ⟨d, .call { callee := .builtin .min, args := #[x, y], argTypes := #[t, t'] }, ty, pos, aft, g⟩ (.int k (min a b)) := fun A w hf _ => by
  have hm : (if b < a then b else a) = min a b := by omega
  simp [execOp, resolve, invoke, builtin, Builtin.min_, Builtin.min2, hf.eval hx, hf.eval hy, List.foldlM, hm]
theorem Val.makeFunc {fn : Fn} {fs cs : List Operand} {us vs : List Value} (hf' : looks l fs = some us) (hc : looks l cs = some vs) : Val P n l D ⟨d, .makeFunc fn fs.toArray cs.toArray, ty, pos, aft, g⟩ (.func fn us.toArray vs.toArray) := fun A w hf _ => by
  simp [execOp, Instr.makeFunc, hf.evals hf', hf.evals hc]
end
end Go.Proofs.Ytdbeinbgekdnmaa
