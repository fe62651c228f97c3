/-
  An engine for walks: a call from its begin to its end.
-/
import Derived.Test.YtdbeinbgekdnmaaEngMem
set_option maxRecDepth 100000
namespace Go.Proofs.Ytdbeinbgekdnmaa
open Go.RowKit

def argSlots : List Value → Nat → Slots
  | [], _ => []
  | v :: vs, i => (i, v) :: argSlots vs (i + 1)
theorem slot_args : ∀ (vs : List Value) (i t : Nat) (v : Value), slot (argSlots vs i) t = some v → i ≤ t ∧ vs[t - i]? = some v
  | [], i, t, v, h => by simp [argSlots, slot] at h
  | u :: vs, i, t, v, h => by
    unfold argSlots slot at h
    by_cases hit : i = t
    · subst hit
      simp at h
      subst h
      simp
    · rw [beq_ne hit] at h
      obtain ⟨h1, h2⟩ := slot_args vs (i + 1) t v h
      refine ⟨by omega, ?_⟩
      rw [show t - i = (t - (i + 1)) + 1 by omega]
      simpa using h2
section
variable {P : Program} {n : Nat} {l : Slots} {C : World → Prop} {R : Ending → World → Prop} {fn : Func}
/-- A call is its body, from its arguments on. -/
theorem calls_of {f : FuncId} {c : Code} {w : World} (args : List Value) (hf : P.funcs[f]? = some fn) (hb : fn.body = some c) (hn : fn.ntmps = n) (hle : Nat.ble args.length n = true) (C : World → Prop) (hC : C w)
    (h : SC P n c (argSlots args 0) C (bodyPost P fn R)) : Calls P f args.toArray w R := by
  refine calls_of_wp hf hb (h _ w ⟨rfl, ?_, fun t v hv => ?_⟩ hC)
  · have := Nat.le_of_ble_eq_true hle
    simp [hn]; omega
  · have h1 := (slot_args args 0 t v hv).2
    rw [Nat.sub_zero] at h1
    have hlt : t < args.length := by
      rcases Nat.lt_or_ge t args.length with h2 | h2
      · exact h2
      · rw [List.getElem?_eq_none h2] at h1; cases h1
    simp [Array.getElem?_append, hlt]
    exact (List.getElem?_eq_some_iff.1 h1).2
/-- What the results are. -/
inductive RV (P : Program) (l : Slots) (C : World → Prop) : List ResultVar → List Value → Prop
  | nil : RV P l C [] []
  | tmp {t : Nat} {v : Value} {rs : List ResultVar} {vs : List Value} (h : slot l t = some v) (k : RV P l C rs vs) : RV P l C (.tmp t :: rs) (v :: vs)
  | cell {p ty b : Nat} {v : Value} {rs : List ResultVar} {vs : List Value} (h : slot l p = some (.pointer (some ⟨b, 0, none⟩))) (hv : ∀ w, C w → (loadVar ty ⟨b, 0, none⟩).run P w = .ok v w) (k : RV P l C rs vs) : RV P l C (.cell p ty :: rs) (v :: vs)
def retOf : List Value → Value
  | [v] => v
  | vs => .tuple vs.toArray
def resV (tmps : Array Value) : ResultVar → Sem Value
  | .tmp t => pure (tmps.getD t undef)
  | .cell q t => do loadVar t (← asAddr (tmps.getD q undef))
theorem RV.run {rs : List ResultVar} {vs : List Value} (h : RV P l C rs vs) {a : Act} (hf : Fr n a l) {w : World} (hw : C w) :
    (rs.mapM (resV a.tmps)).run P w = .ok vs w := by
  induction h with
  | nil => rfl
  | @tmp t v rs vs h _ ih =>
    have h1 : (resV a.tmps (.tmp t)).run P w = .ok v w := by simp [resV, hf.at_ _ _ h]
    simp only [List.mapM_cons, Sem.run_bind, h1, Result.andThen_ok, ih, Sem.run_pure]
  | @cell q ty b v rs vs h hv _ ih =>
    have h1 : (resV a.tmps (.cell q ty)).run P w = .ok v w := by simp [resV, hf.at_ _ _ h, asAddr]; exact hv w hw
    simp only [List.mapM_cons, Sem.run_bind, h1, Result.andThen_ok, ih, Sem.run_pure]
theorem results_eq (tmps : Array Value) : results fn tmps = (do
    let vs ← fn.results.mapM (resV tmps)
    pure (if h : vs.size = 1 then vs[0] else .tuple vs)) := by
  have hr : (fun (r : ResultVar) => (match r with
      | .tmp t => pure (tmps.getD t undef)
      | .cell a t => do loadVar t (← asAddr (tmps.getD a undef)) : Sem Value)) = resV tmps := by
    funext r
    cases r <;> rfl
  unfold results
  rw [← hr]
  rfl
theorem RV.results {rs : List ResultVar} {vs : List Value} (hr : fn.results = rs.toArray) (h : RV P l C rs vs) {a : Act} (hf : Fr n a l) {w : World} (hw : C w) : (results fn a.tmps).run P w = .ok (retOf vs) w := by
  have h1 := h.run hf hw
  rw [results_eq, hr, Array.mapM_eq_mapM_toList, Sem.run_bind, Sem.run_map]
  dsimp only
  rw [h1]
  match vs with
  | [] => rfl
  | [v] => rfl
  | v :: u :: vs => simp [retOf, Result.andThen]
theorem SE.retn {rs : List ResultVar} {vs : List Value} (hr : fn.results = rs.toArray) (h : RV P l C rs vs) (k : ∀ w, C w → R (.returned (retOf vs)) w) : SE n .ret l C (bodyPost P fn R) := fun _ w hf hw =>
  ⟨hf.defers, _, h.results hr hf hw, k w hw⟩
theorem SE.done {rs : List ResultVar} {vs : List Value} (hr : fn.results = rs.toArray) (h : RV P l C rs vs) (k : ∀ w, C w → R (.returned (retOf vs)) w) : SE n .normal l C (bodyPost P fn R) := fun _ w hf hw =>
  ⟨hf.defers, _, h.results hr hf hw, k w hw⟩
theorem SE.ret1 {t : Nat} {v : Value} (hr : fn.results = #[.tmp t]) (h : slot l t = some v) (k : ∀ w, C w → R (.returned v) w) : SE n .ret l C (bodyPost P fn R) := SE.retn (rs := [.tmp t]) hr (.tmp h .nil) k
theorem SE.ret2 {t u : Nat} {v z : Value} (hr : fn.results = #[.tmp t, .tmp u]) (h : slot l t = some v) (h2 : slot l u = some z) (k : ∀ w, C w → R (.returned (.tuple #[v, z])) w) : SE n .ret l C (bodyPost P fn R) := SE.retn (rs := [.tmp t, .tmp u]) hr (.tmp h (.tmp h2 .nil)) k
theorem SE.ret0 (hr : fn.results = #[]) (k : ∀ w, C w → R (.returned (.tuple #[])) w) : SE n .ret l C (bodyPost P fn R) := SE.retn (rs := []) hr .nil k

/-! ### Codes, more -/
variable {Q : Exit → Act → World → Prop} {x y : Code}
/-- What is known of memory beside. -/
theorem SC.facts {p : Prop} (h : p → SC P n x l C Q) : SC P n x l (fun w => p ∧ C w) Q := fun a w hf hw => h hw.1 a w hf hw.2
theorem SC.weaken {l' : Slots} {C' : World → Prop} (hs : Subs l l') (hC : ∀ w, C w → C' w) (h : SC P n x l' C' Q) : SC P n x l C Q := fun a w hf hw => h a w (hf.sub hs) (hC w hw)
/-- A cut: where ways meet again. -/
theorem SC.cut {ι : Type} (L : ι → Slots) (K : ι → World → Prop) (h : SC P n x l C (Exit.then (fun a w => ∃ z, Fr n a (L z) ∧ K z w) Q)) (k : ∀ z, SC P n y (L z) (K z) Q) : SC P n (.seq x y) l C Q := fun a w hf hw =>
  wp_seq (wp_mono (h a w hf hw) fun e a' w' he => by
    cases e with
    | normal => obtain ⟨z, h1, h2⟩ := he; exact k z a' w' h1 h2
    | _ => exact he)
theorem SE.meet {ι : Type} {L : ι → Slots} {K : ι → World → Prop} (z : ι) (hs : Subs l (L z)) (hK : ∀ w, C w → K z w) : SE n .normal l C (Exit.then (fun a w => ∃ z, Fr n a (L z) ∧ K z w) Q) := fun _ w hf hw => ⟨z, hf.sub hs, hK w hw⟩
theorem SE.round {ι : Type} {L : ι → Slots} {K : ι → World → Prop} {m : ι → Nat} {z : ι} (u : ι) (hm : m u < m z) (hs : Subs l (L u)) (hK : ∀ w, C w → K u w) : SE n .normal l C (Exit.then (fun a w => ∃ u, m u < m z ∧ Fr n a (L u) ∧ K u w) Q) := fun _ w hf hw => ⟨u, hm, hf.sub hs, hK w hw⟩
end
end Go.Proofs.Ytdbeinbgekdnmaa
