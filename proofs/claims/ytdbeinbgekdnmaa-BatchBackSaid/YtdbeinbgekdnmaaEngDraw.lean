/-
  An engine for walks, over any program: a region that draws its order, by a plan: which operation may be taken when.
-/
import Derived.Test.YtdbeinbgekdnmaaBase
import Derived.Orders
set_option maxRecDepth 100000
namespace Go.Proofs.Ytdbeinbgekdnmaa
open Go.RowKit

section
variable {P : Program} {ops : Array Oper}
/-- Never a panic, never out of room. -/
def NoExit : Exit → Act → World → Prop := fun _ _ _ => False
theorem Oper.wp_of_noExit {o : Oper} {a : Act} {w : World} {K : Act → World → Prop} {Q : Exit → Act → World → Prop} (h : o.wp P a w K NoExit) : o.wp P a w K Q := by
  unfold Oper.wp at *
  generalize (execOp a.eval o).run P w = r at *
  cases r with
  | ok n w' =>
    cases n <;> simp only [Oper.upon] at h ⊢ <;> first
      | exact h
      | exact Calls.mono h (fun e w'' he => by
          cases e with
          | returned v => exact he
          | panicked c => exact he.elim
          | outgrown => obtain ⟨_, _, h0⟩ := he; exact h0.elim)
  | halt x w' => cases x <;> simp only [Oper.upon] at h ⊢; exact h.elim
theorem wpOp_of_noExit {i : Nat} {a : Act} {w : World} {K : Act → World → Prop} {Q : Exit → Act → World → Prop} (h : wpOp P ops NoExit i K a w) : wpOp P ops Q i K a w := by
  unfold wpOp at *
  split
  · rename_i ho; simp only [ho] at h; exact h
  · rename_i o ho
    simp only [ho] at h
    split
    · rename_i hw
      simp only [hw, if_true] at h
      rcases h with h | ⟨_, _, _, h⟩
      · exact .inl (Oper.wp_of_noExit h)
      · exact h.elim
    · rename_i hw; simp only [hw] at h; exact h
/-- In whatever order, in worlds of a class alone. -/
def anyD (P : Program) (ops : Array Oper) (D : World → Prop) (Q : Act → World → Prop) : Nat → Array Bool → Act → World → Prop
  | 0, listed, a, w => Region.ready .any ops listed = [] ∧ Q a w
  | fuel + 1, listed, a, w => (Region.ready .any ops listed = [] → Q a w) ∧
      ∀ i ∈ Region.ready .any ops listed, wpOp P ops NoExit i (fun a' w' => D w' ∧ anyD P ops D Q fuel (listed.setIfInBounds i true) a' w') a w
theorem anyD.wpAny {D : World → Prop} {Q : Exit → Act → World → Prop} : ∀ (fuel : Nat) (listed : Array Bool) (a : Act) (w : World),
    anyD P ops D (Q .normal) fuel listed a w → wpAny P .any ops Q fuel listed a w
  | 0, _, _, _, h => h
  | fuel + 1, _, _, _, h => ⟨h.1, fun i hi => wpOp_of_noExit (wpOp_mono (fun a' w' h3 => anyD.wpAny fuel _ a' w' h3.2) (h.2 i hi))⟩
theorem anyD.mono {D D' : World → Prop} {Q : Act → World → Prop} (hD : ∀ w, D' w → D w) : ∀ (fuel : Nat) (listed : Array Bool) (a : Act) (w : World),
    anyD P ops D' Q fuel listed a w → anyD P ops D Q fuel listed a w
  | 0, _, _, _, h => h
  | fuel + 1, _, _, _, h => ⟨h.1, fun i hi => wpOp_mono (fun a' w' h3 => ⟨hD _ h3.1, anyD.mono hD fuel _ a' w' h3.2⟩) (h.2 i hi)⟩
/-- In every world of the class the operation yields v and leaves the world. -/
def YieldsD (P : Program) (ops : Array Oper) (D : World → Prop) (o : Oper) (v : Value) (a : Act) : Prop :=
  (Region.wanted o (yielded ops a.tmps) = true ∧ ∀ w, D w → (execOp a.eval o).run P w = .ok (.value v) w) ∨
  (Region.wanted o (yielded ops a.tmps) = false ∧ v = undef)
theorem YieldsD.of_same {D : World → Prop} {o : Oper} {v : Value} {a a' : Act} (hy : YieldsD P ops D o v a) (he : execOp a'.eval o = execOp a.eval o)
    (hw : Region.wanted o (yielded ops a'.tmps) = Region.wanted o (yielded ops a.tmps)) : YieldsD P ops D o v a' := by
  unfold YieldsD at *
  rw [he, hw]
  exact hy
theorem YieldsD.wpOp {D : World → Prop} {i : Nat} {o : Oper} {v : Value} {a : Act} (hi : ops[i]? = some o) (hy : YieldsD P ops D o v a)
    {K : Act → World → Prop} {w : World} (hw : D w) (h : K (a.put o.dst v) w) : wpOp P ops NoExit i K a w := by
  unfold Go.wpOp
  simp only [hi]
  rcases hy with ⟨h1, hv⟩ | ⟨h1, rfl⟩
  · simp only [h1, if_true, Oper.wp, hv w hw, Oper.upon]; exact .inl h
  · simp only [h1, Bool.false_eq_true, if_false]; exact h
theorem wpOp_putD {D : World → Prop} {j : Nat} {oi oj : Oper} {v : Value} (hj : ops[j]? = some oj) (hap : oi.apart ops oj = true)
    (hsi : ∀ cs b, oi.op ≠ .select cs b) (hsj : ∀ cs b, oj.op ≠ .select cs b) {K : Act → World → Prop} {a : Act} {w : World}
    (hy : YieldsD P ops D oi v a) (h : wpOp P ops NoExit j K (a.put oi.dst v) w) :
    wpOp P ops NoExit j (fun a' w' => YieldsD P ops D oi v a' ∧ K (a'.put oi.dst v) w') a w := by
  obtain ⟨h1, h2, h3⟩ := Oper.apart_spec hap
  have keep : ∀ (a : Act), YieldsD P ops D oi v a → ∀ u, YieldsD P ops D oi v (a.put oj.dst u) := fun a hy u =>
    hy.of_same (execOp_put oi hsi a oj.dst u h3) (wanted_put oi a oj.dst u h3)
  have keepD : ∀ d, YieldsD P ops D oi v { a with defers := d :: a.defers } := fun d => hy.of_same rfl rfl
  unfold wpOp at *
  simp only [hj] at *
  rw [wanted_put oj a oi.dst v h1] at h
  split
  · rename_i hw
    simp only [hw, if_true] at h
    rcases h with h | ⟨_, _, _, h0⟩
    case inr => exact h0.elim
    refine .inl ?_
    unfold Oper.wp at *
    rw [execOp_put oj hsj a oi.dst v h1] at h
    generalize (execOp a.eval oj).run P w = r at *
    cases r with
    | ok n w' =>
      cases n <;> simp only [Oper.upon] at h ⊢
      case value u => exact ⟨keep a hy u, by rw [← Act.put_comm a v u h2]; exact h⟩
      case skip => exact ⟨keep a hy _, by rw [← Act.put_comm a v undef h2]; exact h⟩
      case defer d =>
        refine ⟨keep _ (keepD d) _, ?_⟩
        rw [← Act.put_comm _ v undef h2, ← Act.put_defers]
        exact h
      case enter f args =>
        refine Calls.mono h fun e w'' he => ?_
        cases e with
        | returned u => exact ⟨keep a hy u, by rw [← Act.put_comm a v u h2]; exact he⟩
        | panicked c => exact he
        | outgrown => exact he
      case row row args => exact Rows.mono h fun u w'' he => ⟨keep a hy u, by rw [← Act.put_comm a v u h2]; exact he⟩
    | halt x w' =>
      cases x <;> simp only [Oper.upon] at h ⊢
      case panic u => exact h
  · rename_i hw
    simp only [hw] at h
    exact ⟨keep a hy _, by rw [← Act.put_comm a v undef h2]; exact h⟩
theorem anyD_first {D : World → Prop} {Q : Act → World → Prop} {i : Nat} {oi : Oper} {v : Value} (hi : ops[i]? = some oi) (hsel : ∀ (j : Nat) (o : Oper) cs b, ops[j]? = some o → o.op ≠ .select cs b) :
    ∀ (fuel : Nat) (listed : Array Bool) (a : Act) (w : World), D w →
      (∀ j oj, ops[j]? = some oj → j ≠ i → listed.getD j true = false → (∀ e ∈ oj.after, Region.binds .any e = true → e.on ≠ i) → oi.apart ops oj = true) →
      i ∈ Region.ready .any ops listed → YieldsD P ops D oi v a →
      anyD P ops D Q fuel (listed.setIfInBounds i true) (a.put oi.dst v) w → anyD P ops D Q (fuel + 1) listed a w := by
  intro fuel
  induction fuel with
  | zero =>
    intro listed a w hDw _ hr hy H
    refine ⟨fun h => (by rw [h] at hr; cases hr), fun j hj => ?_⟩
    by_cases hji : j = i
    · subst hji; exact hy.wpOp hi hDw ⟨hDw, H⟩
    · have := ready_mono hj hji
      rw [H.1] at this
      cases this
  | succ fuel ih =>
    intro listed a w hDw hfree hr hy H
    refine ⟨fun h => (by rw [h] at hr; cases hr), fun j hj => ?_⟩
    by_cases hji : j = i
    · subst hji; exact hy.wpOp hi hDw ⟨hDw, H⟩
    · have h1 := H.2 j (ready_mono hj hji)
      obtain ⟨hjun, oj, hoj, hall⟩ := mem_ready.1 hj
      have hnot : ∀ e ∈ oj.after, Region.binds .any e = true → e.on ≠ i := fun e he hb heq => by
        have h1 := hall e he hb
        have h0 := (mem_ready.1 hr).1
        rw [heq] at h1
        rcases Nat.lt_or_ge i listed.size with h' | h'
        · simp [h'] at h0 h1; rw [h0] at h1; cases h1
        · simp [Array.getElem?_eq_none h'] at h1
      have h2 := wpOp_putD hoj (hfree j oj hoj hji hjun hnot) (fun cs b => hsel i oi cs b hi) (fun cs b => hsel j oj cs b hoj) hy h1
      have hfree' : ∀ k ok, ops[k]? = some ok → k ≠ i → (listed.setIfInBounds j true).getD k true = false →
          (∀ e ∈ ok.after, Region.binds .any e = true → e.on ≠ i) → oi.apart ops ok = true := fun k ok hk hki hun hno => by
        refine hfree k ok hk hki ?_ hno
        by_cases hjk : j = k
        · subst hjk; exact hjun
        · rw [getD_set_ne true hjk] at hun; exact hun
      refine wpOp_mono (fun a' w' h3 => ⟨h3.2.1, ih (listed.setIfInBounds j true) a' w' h3.2.1 hfree' (ready_mono hr (Ne.symm hji)) h3.1 ?_⟩) h2
      rw [Array.setIfInBounds_comm _ _ hji]
      exact h3.2.2

/-- An order: each operation is quiet (q), or the only one that may come up (e), or one of two. -/
inductive Plan where
  | nil
  | q (i : Nat) (k : Plan)
  | e (i : Nat) (k : Plan)
  | two (i j : Nat) (k h : Plan)
def planW (P : Program) (ops : Array Oper) (Q : Act → World → Prop) : Plan → (World → Prop) → Act → World → Prop
  | .nil, _, a, w => Q a w
  | .q i k, D, a, w => ∃ o v, ops[i]? = some o ∧ YieldsD P ops D o v a ∧ planW P ops Q k D (a.put o.dst v) w
  | .e i k, D, a, w => wpOp P ops NoExit i (fun a' w' => ∃ D' : World → Prop, (∀ x, D' x → D x) ∧ D' w' ∧ planW P ops Q k D' a' w') a w
  | .two i j k h, D, a, w => wpOp P ops NoExit i (fun a' w' => ∃ D' : World → Prop, (∀ x, D' x → D x) ∧ D' w' ∧ planW P ops Q k D' a' w') a w ∧
      wpOp P ops NoExit j (fun a' w' => ∃ D' : World → Prop, (∀ x, D' x → D x) ∧ D' w' ∧ planW P ops Q h D' a' w') a w
def planOk (ops : Array Oper) : Nat → Array Bool → Plan → Bool
  | _, listed, .nil => (Region.ready .any ops listed).isEmpty
  | n + 1, listed, .q i k => Region.free .any ops listed i && (Region.ready .any ops listed).contains i && planOk ops n (listed.setIfInBounds i true) k
  | n + 1, listed, .e i k => (Region.ready .any ops listed == [i]) && planOk ops n (listed.setIfInBounds i true) k
  | n + 1, listed, .two i j k h => (Region.ready .any ops listed == [i, j]) && planOk ops n (listed.setIfInBounds i true) k && planOk ops n (listed.setIfInBounds j true) h
  | 0, _, _ => false
theorem planW.anyD {Q : Act → World → Prop} (hs : Region.noSelect ops = true) : ∀ (n : Nat) (ix : Plan) (D : World → Prop) (listed : Array Bool) (a : Act) (w : World), planOk ops n listed ix = true → D w →
    planW P ops Q ix D a w → anyD P ops D Q n listed a w
  | 0, .nil, D, listed, a, w, hok, _, h => ⟨by simpa [planOk] using hok, h⟩
  | n + 1, .nil, D, listed, a, w, hok, _, h => by
    have h0 : Region.ready .any ops listed = [] := by simpa [planOk] using hok
    exact ⟨fun _ => h, fun i hi => by rw [h0] at hi; cases hi⟩
  | n + 1, .q i ix, D, listed, a, w, hok, hD, ⟨o, v, hi, hy, h⟩ => by
    simp only [planOk, Bool.and_eq_true] at hok
    exact anyD_first hi (Region.noSelect_spec hs) n listed a w hD (Region.free_spec hi hok.1.1) (by simpa using hok.1.2) hy (planW.anyD hs n ix D _ _ _ hok.2 hD h)
  | n + 1, .e i ix, D, listed, a, w, hok, hD, h => by
    simp only [planOk, Bool.and_eq_true, beq_iff_eq] at hok
    refine ⟨fun h0 => (by rw [hok.1] at h0; cases h0), fun j hj => ?_⟩
    rw [hok.1] at hj
    simp only [List.mem_singleton] at hj
    subst hj
    exact wpOp_mono (fun a' w' ⟨D', hD', hw', h'⟩ => ⟨hD' _ hw', anyD.mono hD' _ _ _ _ (planW.anyD hs n ix D' _ a' w' hok.2 hw' h')⟩) h
  | n + 1, .two i j k m, D, listed, a, w, hok, hD, h => by
    simp only [planOk, Bool.and_eq_true, beq_iff_eq] at hok
    refine ⟨fun h0 => (by rw [hok.1.1] at h0; cases h0), fun r hr => ?_⟩
    rw [hok.1.1] at hr
    simp only [List.mem_cons, List.not_mem_nil, or_false] at hr
    rcases hr with rfl | rfl
    · exact wpOp_mono (fun a' w' ⟨D', hD', hw', h'⟩ => ⟨hD' _ hw', anyD.mono hD' _ _ _ _ (planW.anyD hs n k D' _ a' w' hok.1.2 hw' h')⟩) h.1
    · exact wpOp_mono (fun a' w' ⟨D', hD', hw', h'⟩ => ⟨hD' _ hw', anyD.mono hD' _ _ _ _ (planW.anyD hs n m D' _ a' w' hok.2 hw' h')⟩) h.2
theorem wp_region_plan {id : Nat} {a : Act} {w : World} {Q : Exit → Act → World → Prop} (D : World → Prop) (ix : Plan) (hm : P.follows .mixedOrders = true)
    (hok : (Region.noSelect ops && planOk ops ops.size (Array.replicate ops.size false) ix) = true) (hD : D w.drew)
    (h : planW P ops (Q .normal) ix D a w.drew) : (Code.region id ops true).wp P Q a w := by
  simp only [Bool.and_eq_true] at hok
  refine wp_region_any hm ?_
  exact anyD.wpAny _ _ _ _ (planW.anyD hok.1 _ ix D _ a _ hok.2 hD h)
end
end Go.Proofs.Ytdbeinbgekdnmaa
