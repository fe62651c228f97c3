/-
  The engine: interfaces, and calls of methods through them.
-/
import Derived.Test.YtdbeinbgekdnmaaEngStr
set_option maxRecDepth 100000
namespace Go.Proofs.Ytdbeinbgekdnmaa
open Go.RowKit

section
variable {P : Program} {n : Nat} {l : Slots} {C D : World → Prop} {ops : Array Oper} {rest : List Oper} {ix : Plan} {Q : Exit → Act → World → Prop} {t : TypeId} {x : Operand} {v : Value} {m : String} {d : Option Nat} {ty : TypeId} {pos : String} {aft : Array Edge} {g : Option (Nat × Bool)}
theorem Val.makeIface (hx : look l x = some v) (h : ∀ w, (Instr.makeInterface t v).run P w = .ok (.iface t v) w) : Val P n l D ⟨d, .makeInterface t x, ty, pos, aft, g⟩ (.iface t v) := fun A w hf _ => by
  simp [execOp, hf.eval hx, h w, Result.andThen]
/-- A method value, ahead of its call: its receiver is no nil pointer that would be followed. -/
theorem Val.nilMethod (hx : look l x = some (.func (.method m) #[.iface t v] #[])) (h : ∀ w, (nilAhead (P.types.size + Made.depth) t v m).run P w = .ok (some false) w) : Val P n l D ⟨d, .nilCheck x, ty, pos, aft, g⟩ (.func (.method m) #[.iface t v] #[]) := fun A w hf _ => by
  simp [execOp, hf.eval hx, Sem.run_bind, program, Sem.run, h w, Result.andThen]
theorem run_invoke {f : FuncId} {xs : List Operand} {ats : Array TypeId} {vals : List Value} {ρ : Operand → Value} {w : World} (hv : xs.map ρ = vals) (hf : ρ x = .iface t v)
    (hm : ∀ w, (invoke (.fn (.method m) #[]) (#[.iface t v] ++ vals.toArray)).run P w = .ok (.enter f (#[v] ++ vals.toArray)) w) :
    (execOp ρ ⟨d, .call { callee := .invoke x m, args := xs.toArray, argTypes := ats }, ty, pos, aft, g⟩).run P w = .ok (.enter f (#[v] ++ vals.toArray)) w := by
  have h0 := hm w
  simp only [execOp, resolve, Sem.run_bind, Sem.run_pure, Result.andThen_ok, hf]
  rw [show (xs.toArray.map ρ) = vals.toArray by rw [← hv]; simp]
  exact h0
/-- A call of a method through an interface. -/
theorem SL.invoke {f : FuncId} {xs : List Operand} {ats : Array TypeId} {vals : List Value} (hx : look l x = some (.iface t v)) (hv : looks l xs = some vals)
    (hm : ∀ w, (Go.invoke (.fn (.method m) #[]) (#[.iface t v] ++ vals.toArray)).run P w = .ok (.enter f (#[v] ++ vals.toArray)) w)
    (hg : gd ops l ⟨d, .call { callee := .invoke x m, args := xs.toArray, argTypes := ats }, ty, pos, aft, g⟩ = some true) (hd : lt? d n = true)
    (hc : ∀ w, C w → Calls P f (#[v] ++ vals.toArray) w fun e w' => ∃ v C', e = .returned v ∧ C' w' ∧ SL P n ops rest (put? l d v) C' Q) :
    SL P n ops (⟨d, .call { callee := .invoke x m, args := xs.toArray, argTypes := ats }, ty, pos, aft, g⟩ :: rest) l C Q := fun a w hf hw =>
  wpList_step fun K hK => by
    rw [if_pos (hf.wanted hg)]
    unfold Oper.wp
    rw [run_invoke (hf.evals hv) (hf.eval hx) hm, Oper.upon_enter]
    refine (hc w hw).mono fun e w' ⟨v, C', he, hC', hk⟩ => ?_
    subst he
    exact hK _ _ (hk _ _ (hf.put? hd v) hC')
theorem SX.invoke {i : Nat} {f : FuncId} {xs : List Operand} {ats : Array TypeId} {vals : List Value} (hi : ops[i]? = some ⟨d, .call { callee := .invoke x m, args := xs.toArray, argTypes := ats }, ty, pos, aft, g⟩)
    (hx : look l x = some (.iface t v)) (hv : looks l xs = some vals)
    (hm : ∀ w, (Go.invoke (.fn (.method m) #[]) (#[.iface t v] ++ vals.toArray)).run P w = .ok (.enter f (#[v] ++ vals.toArray)) w)
    (hg : gd ops l ⟨d, .call { callee := .invoke x m, args := xs.toArray, argTypes := ats }, ty, pos, aft, g⟩ = some true) (hd : lt? d n = true)
    (hc : ∀ w, C w → Calls P f (#[v] ++ vals.toArray) w fun e w' => ∃ v C', e = .returned v ∧ C' w' ∧ ∃ D' : World → Prop, (∀ w, D' w → D w) ∧ (∀ w, C' w → D' w) ∧ SX P n ops ix D' (put? l d v) C' Q) :
    SX P n ops (.e i ix) D l C Q := fun a w hf hw => by
  unfold planW wpOp
  simp only [hi, hf.wanted hg, if_true]
  refine .inl ?_
  unfold Oper.wp
  rw [run_invoke (hf.evals hv) (hf.eval hx) hm, Oper.upon_enter]
  refine (hc w hw).mono fun e w' ⟨v, C', he, hC', D', h1, h2, h3⟩ => ?_
  subst he
  exact ⟨D', h1, h2 _ hC', h3 _ _ (hf.put? hd v) hC'⟩
end
end Go.Proofs.Ytdbeinbgekdnmaa
