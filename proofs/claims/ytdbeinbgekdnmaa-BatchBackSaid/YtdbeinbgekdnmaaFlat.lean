/-
  '==' on structs and arrays of integers, bools and strings: just if the cells are the same.
-/
import Derived.Test.YtdbeinbgekdnmaaBase
import Derived.Test.YtdbeinbgekdnmaaProg
import Derived.DeepKeys3
set_option maxRecDepth 100000
namespace Go.Proofs.Ytdbeinbgekdnmaa
open Go.RowKit

theorem Ext.tr {a b c : World} (h : Ext [] a b) (k : Ext [] b c) : Ext [] a c := h.trans k (by simp)
theorem Ext.al {a b : World} (h : Ext [] a b) (o : Obj) : Ext [] a (b.alloc o) := h.alloc o
theorem Ext.new (a : World) (o : Obj) : Ext [] a (a.alloc o) := (Ext.refl a).alloc o

/-- Values of one type whose cells read as literals: '==' says whether the literals are the same. -/
theorem run_eql_lits {P : Program} {m : Nat} (hm : m ≤ 10000) {t : TypeId} (hk : P.keyTypeAt m t = true) {xs ys : Array Value} {L1 L2 : List Lit} {D D' : Nat}
    (fx : (Value.agg xs).formed P t = true) (fy : (Value.agg ys).formed P t = true) (h1 : P.keyLits D t xs.toList = some L1) (h2 : P.keyLits D' t ys.toList = some L2) (b : Bool) (hb : b = true ↔ L1 = L2) (w : World) :
    (binOp .eql t (.agg xs) (.agg ys)).run P w = .ok (.bool b) w := by
  obtain ⟨r, hr, hiff⟩ := run_equalIn_deep (10000 - m) m t hk w D D' (.agg xs) (.agg ys) L1 L2 fx fy h1 h2
  rw [show 10000 - m + m = 10000 by omega] at hr
  simp only [binOp]
  simp only [Op.equal, Op.maxDepth, Sem.run_bind, hr, Result.andThen_ok, Sem.run_pure]
  congr 2
  rw [Bool.eq_iff_iff]; exact hiff.trans hb.symm
/-- '!=', likewise. -/
theorem run_neq_lits {P : Program} {m : Nat} (hm : m ≤ 10000) {t : TypeId} (hk : P.keyTypeAt m t = true) {xs ys : Array Value} {L1 L2 : List Lit} {D D' : Nat}
    (fx : (Value.agg xs).formed P t = true) (fy : (Value.agg ys).formed P t = true) (h1 : P.keyLits D t xs.toList = some L1) (h2 : P.keyLits D' t ys.toList = some L2) (b : Bool) (hb : b = true ↔ L1 ≠ L2) (w : World) :
    (binOp .neq t (.agg xs) (.agg ys)).run P w = .ok (.bool b) w := by
  obtain ⟨r, hr, hiff⟩ := run_equalIn_deep (10000 - m) m t hk w D D' (.agg xs) (.agg ys) L1 L2 fx fy h1 h2
  rw [show 10000 - m + m = 10000 by omega] at hr
  simp only [binOp]
  simp only [Op.equal, Op.maxDepth, Sem.run_bind, hr, Result.andThen_ok, Sem.run_pure]
  congr 2
  cases r <;> cases b <;> simp_all
end Go.Proofs.Ytdbeinbgekdnmaa
