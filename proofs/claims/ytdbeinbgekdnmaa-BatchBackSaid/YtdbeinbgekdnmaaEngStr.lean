/-
  An engine for walks: texts, and function values.
-/
import Derived.Test.YtdbeinbgekdnmaaOctPut
import Derived.Lib.ConvBytes
import Derived.Test.YtdbeinbgekdnmaaBookDo
import Derived.Laws.RangeString
set_option maxRecDepth 100000
namespace Go.Proofs.Ytdbeinbgekdnmaa
open Go.RowKit

section
variable {P : Program} {n : Nat} {l : Slots} {S : List (World × List Nat)} {σ τ : Blks} {ρ : List Dt} {C D : World → Prop} {x y z : Operand} {d : Option Nat} {ty t e : TypeId} {pos : String} {aft : Array Edge} {g : Option (Nat × Bool)} {v u : Value} {Q : Exit → Act → World → Prop} {ops : Array Oper} {rest : List Oper} {ix : Plan} {w : World} {b q : Nat} {s : ByteArray}
theorem grownCap_le (w : World) (m old : Nat) (e : TypeId) (h : m ≤ maxLen) : m ≤ grownCap w m old e ∧ grownCap w m old e ≤ maxLen := by
  unfold grownCap maxLen at *
  simp only [Question.cut]
  have : (w.tape w.drawn (.appendCap m old e)) % (2 ^ 63 - m) < 2 ^ 63 - m := Nat.mod_lt _ (by omega)
  omega
/-- A text as a row of bytes. -/
theorem Eff.strBytes (hx : look l x = some (.string s)) (ht : Try.prog.underlying t = some .string) (hd : Try.prog.underlying e = some (.slice 5)) (hs : s.size ≤ lots) : Eff Try.prog n l (Mem S σ ρ) ⟨d, .convert t e x, ty, pos, aft, g⟩ fun u C' => C' = Mem S σ (bytesD u s.data.toList :: ρ) := fun Ac w hf hw => by
  have hrun := Lib.run_convert_string_bytes (P := Try.prog) w t e 5 s ht hd Try.underlying5
  have hc := grownCap_le w s.size 0 5 (by unfold lots at hs; unfold maxLen; omega)
  have hx1 : Ext [] w (Lib.bytesWorld w 5 s) := ⟨rfl, rfl, rfl, by rw [Lib.bytesWorld_size]; omega, fun k hk _ => Lib.bytesWorld_at_old w _ s k hk⟩
  refine ⟨_, _, _, rfl, (hw.same hx1).add (z := bytesD (.slice (some ⟨w.heap.size, 0, none⟩) s.size (grownCap w s.size 0 5)) s.data.toList) ⟨⟨some ⟨w.heap.size, 0, none⟩, _, by simp, by simpa using hc.1, hc.2, by simp⟩, fun _ => ⟨w.heap.size, 0, s.size, _, rfl, fun hk => ?_, fun j u hu => ?_⟩⟩, .inl ?_⟩
  · have := hw.small _ hk; omega
  · rw [Nat.zero_add]
    rw [List.getElem?_map] at hu
    have hj : j < s.size := by
      rcases Nat.lt_or_ge j s.size with h | h
      · exact h
      · rw [List.getElem?_eq_none (by simpa using h)] at hu; cases hu
    rw [Lib.bytesWorld_cell w _ s j hj, ← hu, List.getElem?_eq_getElem (by simpa using hj), List.getD_eq_getElem?_getD, List.getElem?_eq_getElem (by simpa using hj)]
    rfl
  · simp only [execOp, hf.eval hx, hrun, Sem.run_bind, Result.andThen_ok, Sem.run_pure]
/-- A whole number as a word. -/
def u64 (x : Int) : Nat := (x % 18446744073709551616).toNat
theorem Val.convU {k : IntKind} {a : Int} (hx : look l x = some (.int k a)) (ht : P.underlying e = some (.int .u64)) (hs : (P.underlying t).isSome = true) : Val P n l D ⟨d, .convert t e x, ty, pos, aft, g⟩ (.int .u64 (u64 a : Nat)) := by
  have h := Val.convW (n := n) (D := D) (d := d) (ty := ty) (pos := pos) (aft := aft) (g := g) hx ht hs
  have h2 : IntKind.u64.wrap a = ((u64 a : Nat) : Int) := by
    simp [IntKind.wrap, IntKind.bits, IntKind.signed, u64]; omega
  rw [h2] at h
  exact h
/-- A byte of a text. -/
theorem Val.indexSt {k : IntKind} {r : Int} (hx : look l x = some (.string s)) (hy : look l y = some (.int k r)) (hr : r = (q : Nat)) (hq : q < s.size) (hu : P.underlying t = some .string) : Val P n l D ⟨d, .index t x y, ty, pos, aft, g⟩ (.int .u8 ((s[q]'hq).toNat : Nat)) := fun Ac w hf _ => by
  subst hr
  have h1 : (if (0 : Int) ≤ (q : Int) then s[(q : Int).toNat]? else none) = some (s[q]'hq) := by
    rw [if_pos (by omega)]
    simp [getElem?_pos s q hq]
  simp only [execOp, Instr.index, asIntOf, hf.eval hx, hf.eval hy, Sem.run_bind, Sem.run_pure, Result.andThen_ok, run_underlying hu, h1]
/-- A text is gone through, letter by letter. -/
theorem Eff.rangeSt (hx : look l x = some (.string s)) (hu : P.underlying t = some .string) : Eff P n l (Mem S σ ρ) ⟨d, .range t x, ty, pos, aft, g⟩ fun u C' => ∃ b, u = .pointer (some ⟨b, 0, none⟩) ∧ C' = Mem S (.blk b (.stringIter s 0) :: σ) ρ := fun Ac w hf hw => by
  refine ⟨_, _, _, ⟨w.heap.size, rfl, rfl⟩, hw.alloc (.stringIter s 0), .inl ?_⟩
  simp only [execOp, Instr.range, hf.eval hx, Sem.run_bind, Sem.run_pure, Result.andThen_ok, run_underlying hu, newObj]
  rfl
theorem run_getIter {p : Nat} (hb : w.heap[b]? = some (.stringIter s p)) : (getObj b).run P w = .ok (.stringIter s p) w := by simp [getObj, Sem.run, hb]
theorem run_setIter {p p' : Nat} (hb : w.heap[b]? = some (.stringIter s p)) : (setObj b (.stringIter s p')).run P w = .ok () { w with heap := w.heap.setIfInBounds b (.stringIter s p') } := by simp [setObj, Sem.run, hb]
theorem Ext.setObj_ (w : World) (b : Nat) (o : Obj) : Ext [b] w { w with heap := w.heap.setIfInBounds b o } :=
  ⟨rfl, rfl, rfl, by simp, fun k _ hk => by
    have hne : b ≠ k := fun h => hk (by simp [h])
    simp [Array.getElem?_setIfInBounds_ne hne]⟩
theorem Eff.nextSt {p : Nat} (hx : look l x = some (.pointer (some ⟨b, 0, none⟩))) (hu : Upd (.blk b (.stringIter s p)) (.blk b (.stringIter s (p + (Utf8.decode s p).2))) σ τ) (hp : p < s.size) :
    Eff P n l (Mem S σ ρ) ⟨d, .next x true, ty, pos, aft, g⟩ fun u C' => u = .tuple #[.bool true, .int .i64 p, .int .i32 ((Utf8.decode s p).1 : Nat)] ∧ C' = Mem S τ ρ := fun Ac w hf hw => by
  have hb := hw.holds hu.mem
  have hlt : b < w.heap.size := hw.lt hu.mem b (by simp [It.ids])
  refine ⟨_, { w with heap := w.heap.setIfInBounds b (.stringIter s (p + (Utf8.decode s p).2)) }, _, ⟨rfl, rfl⟩, hw.updB hu (Ext.setObj_ w b _) (by simp [hlt]), .inl ?_⟩
  simp only [execOp, Instr.next, hf.eval hx, Sem.run_bind, Sem.run_pure, Result.andThen_ok, run_getIter hb, if_pos hp, run_setIter hb, goInt]
theorem Val.nextEnd {p : Nat} (hx : look l x = some (.pointer (some ⟨b, 0, none⟩))) (hb : It.blk b (.stringIter s p) ∈ σ) (hp : ¬ p < s.size) :
    Val P n l (Mem S σ ρ) ⟨d, .next x true, ty, pos, aft, g⟩ (.tuple #[.bool false]) := fun Ac w hf hw => by
  have hb := hw.holds hb
  simp only [execOp, Instr.next, hf.eval hx, Sem.run_bind, Sem.run_pure, Result.andThen_ok, run_getIter hb, if_neg hp]
theorem decode_high (s : ByteArray) (p : Nat) (h : p < s.size) (ha : ¬ (s[p]'h).toNat < 128) : 128 ≤ (Utf8.decode s p).1 := by
  have h0 : (s.get! (p + 0)).toNat = (s[p]'h).toNat := by
    have e : s.get! p = s[p]'h := by
      simp [ByteArray.get!, getElem!_pos, h]
      rfl
    rw [Nat.add_zero, e]
  unfold Utf8.decode
  simp only [h0]
  rw [if_neg (by omega)]
  repeat' split
  all_goals (try simp only [Bool.and_eq_true, decide_eq_true_eq, ge_iff_le] at *)
  all_goals (try dsimp only [Utf8.runeError] at *)
  all_goals omega
theorem RV.loadA {tab : List (Nat × TI)} (hT : TabOk P tab) {i : TI} {t' : TypeId} {L : List Value} (ht : ti tab t = some i) (hk : (match i.k with | .one => false | _ => true) = true) (hw : Mem S σ ρ w) (hb : It.blk b (row t' L) ∈ σ) (hl : L.length = i.size) : (loadVar t ⟨b, 0, none⟩).run P w = .ok (.agg L.toArray) w :=
  run_loadAgg hT ht hk hl fun j u hu => by rw [Nat.zero_add, mem_cell (hw.holds hb)]; exact hu
/-- Data to come, out of what is known. -/
theorem SX.to (h : ∀ w, C w → D w) (k : SX P n ops ix D l D Q) : SX P n ops ix D l C Q := fun a w hf hw => k a w hf (h w hw)
/-- A row of bytes as a text. -/
theorem Val.strOf {v : Value} {m : List UInt8} (hx : look l x = some v) (hv : bytesD v m ∈ ρ) : Val Try.prog n l (Mem S σ ρ) ⟨d, .convert 34 9 x, ty, pos, aft, g⟩ (.string ⟨m.toArray⟩) := fun A w hf hw => by
  have := conv_txt (hw.bytes hv)
  simp [execOp, hf.eval hx, this, Result.andThen]
/-- A call of a function value. -/
theorem run_callv {f : FuncId} {fs cs : Array Value} {xs : List Operand} {ats : Array TypeId} {vals : List Value} {ρ : Operand → Value} (hb : goesIn P f = true) (hv : xs.map ρ = vals) (hf : ρ x = .func (.func f) fs cs) :
    (execOp ρ ⟨d, .call { callee := .value x, args := xs.toArray, argTypes := ats }, ty, pos, aft, g⟩).run P w = .ok (.enter f (fs ++ vals.toArray ++ cs)) w := by
  unfold goesIn at hb
  cases hfn : P.funcs[f]? with
  | none => simp [hfn] at hb
  | some fn =>
    simp only [hfn, Bool.and_eq_true, Bool.not_eq_true', beq_eq_false_iff_ne, Option.isSome_iff_ne_none] at hb
    obtain ⟨c, hn⟩ := Option.ne_none_iff_exists'.1 hb.1
    simp [execOp, resolve, hf, Deferred.ofValue, invoke, callFunc, program, Sem.run_bind, Sem.run, hfn, hb.2, hn, hv, Result.andThen]
theorem SL.callv {f : FuncId} {fs cs : Array Value} {xs : List Operand} {ats : Array TypeId} {vals : List Value} (hx : look l x = some (.func (.func f) fs cs)) (hb : goesIn P f = true) (hv : looks l xs = some vals)
    (hg : gd ops l ⟨d, .call { callee := .value x, args := xs.toArray, argTypes := ats }, ty, pos, aft, g⟩ = some true) (hd : lt? d n = true)
    (hc : ∀ w, C w → Calls P f (fs ++ vals.toArray ++ cs) w fun e w' => ∃ v C', e = .returned v ∧ C' w' ∧ SL P n ops rest (put? l d v) C' Q) :
    SL P n ops (⟨d, .call { callee := .value x, args := xs.toArray, argTypes := ats }, ty, pos, aft, g⟩ :: rest) l C Q := fun a w hf hw =>
  wpList_step fun K hK => by
    rw [if_pos (hf.wanted hg)]
    unfold Oper.wp
    rw [run_callv hb (hf.evals hv) (hf.eval hx), Oper.upon_enter]
    refine (hc w hw).mono fun e w' ⟨v, C', he, hC', hk⟩ => ?_
    subst he
    exact hK _ _ (hk _ _ (hf.put? hd v) hC')
theorem SX.callv {i : Nat} {f : FuncId} {fs cs : Array Value} {xs : List Operand} {ats : Array TypeId} {vals : List Value} (hi : ops[i]? = some ⟨d, .call { callee := .value x, args := xs.toArray, argTypes := ats }, ty, pos, aft, g⟩)
    (hx : look l x = some (.func (.func f) fs cs)) (hb : goesIn P f = true) (hv : looks l xs = some vals)
    (hg : gd ops l ⟨d, .call { callee := .value x, args := xs.toArray, argTypes := ats }, ty, pos, aft, g⟩ = some true) (hd : lt? d n = true)
    (hc : ∀ w, C w → Calls P f (fs ++ vals.toArray ++ cs) w fun e w' => ∃ v C', e = .returned v ∧ C' w' ∧ ∃ D' : World → Prop, (∀ w, D' w → D w) ∧ (∀ w, C' w → D' w) ∧ SX P n ops ix D' (put? l d v) C' Q) :
    SX P n ops (.e i ix) D l C Q := fun a w hf hw => by
  unfold planW wpOp
  simp only [hi, hf.wanted hg, if_true]
  refine .inl ?_
  unfold Oper.wp
  rw [run_callv hb (hf.evals hv) (hf.eval hx), Oper.upon_enter]
  refine (hc w hw).mono fun e w' ⟨v, C', he, hC', D', h1, h2, h3⟩ => ?_
  subst he
  exact ⟨D', h1, h2 _ hC', h3 _ _ (hf.put? hd v) hC'⟩
end
end Go.Proofs.Ytdbeinbgekdnmaa
