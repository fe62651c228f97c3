/-
  The statements of layer 7: the closings.
-/
import Derived.Test.YtdbeinbgekdnmaaMoney
import Derived.Test.YtdbeinbgekdnmaaLaw
namespace Go.Proofs.Ytdbeinbgekdnmaa
open Go.RowKit Go.ChangeShapes Go.WideShapes Go.ChangeAt

set_option maxRecDepth 100000 in
theorem MoneyTells_args (H : Type) (enc : TypeId × Value → H) (W : World) (base : Nat) (args : Array Value) (ds : List (DataW H)) (p : List MemPlace)
    (hval : ∀ (j : Nat) t v, Try.f4.params[j]? = some t → args[j]? = some v → Value.okWide Try.prog W .any base t v)
    (hA : DataW.TrodAll enc Try.prog W 0 (fun _ => true) true Try.f4.params.toList args.toList ds p)
    (_hsz : (DataW.weightsEach Try.prog Try.f4.params.toList ds).all (· ≤ reachBytes) = true) :
    Calls Try.prog 4 args W fun e W' => e = .returned (.bool true) ∧ Ext [] W W' := by
  rw [Try.params4] at hA hval
  obtain ⟨v0, vs0, d0, ds0, p0, q0, hargs, rfl, rfl, h0, r0⟩ := trodAll_cons hA
  obtain ⟨v1, vs1, d1, ds1, p1, q1, rfl, rfl, rfl, h1, r1⟩ := trodAll_cons r0
  obtain ⟨rfl, rfl, rfl⟩ := trodAll_nil r1
  obtain rfl : args = #[v0, v1] := by cases args; simp_all
  obtain ⟨a0, rfl, rfl, rfl, w0⟩ := open_int Try.underlying2 (hval 0 2 v0 rfl rfl) h0
  obtain ⟨a1, rfl, rfl, rfl, w1⟩ := open_int Try.underlying2 (hval 1 2 v1 rfl rfl) h1
  have b0 := bounds_i64 w0
  have b1 := bounds_i64 w1
  exact (tells_walk a0 a1 W b0.1 b0.2 b1.1 b1.2).mono fun e W' ⟨he, hw⟩ => ⟨he, hw ▸ Ext.refl _⟩

set_option maxRecDepth 100000 in
theorem MoneyTells_lifted (os : Os) (started : os.Started) (H : Type) (enc : TypeId × Value → H) :
    ReturnsInHanded {} Try.checked os 4 .any (Rows.moneyTellsSpec.pre6 enc Try.prog Try.f4 Rows.moneyTellsRow.domain false) (Rows.moneyTellsSpec.post enc Try.prog Try.f4 false true false false) :=
  law_lift (s := Rows.moneyTellsSpec) started (by kernel_rfl) Try.func4 rfl rfl (by kernel_rfl) (fun ds h => match ds, h with | [_, _], _ => rfl)
    (ChangeSpec.witness6 (enc := enc) (C := Try.checked) false ⟨#[], #[.int .i64 0, .int .i64 0], []⟩ 8 (by kernel_rfl) (by kernel_rfl) (by kernel_rfl) (by kernel_rfl))
    (fun W base args ds p hval hA hsz => MoneyTells_args H enc W base args ds p hval hA hsz)
theorem MoneyTells_holds : Rows.MoneyTellsSaid :=
  OpenClaim.holds_of_wide 4 Try.f4 rfl rfl rfl rfl rfl rfl rfl ⟨rfl, rfl, rfl, rfl, rfl⟩ rfl rfl rfl rfl rfl (by kernel_rfl) Try.func4 (by kernel_rfl)
    (of_decide_eq_true (by kernel_rfl)) (by unfold Func.isWrapper; first | (rw [if_pos (by decide +kernel)]; kernel_rfl) | (rw [if_neg (by decide +kernel)]; exact ⟨rfl, rfl⟩))
    (fun os started H enc _ => MoneyTells_lifted os started H enc)
#print axioms MoneyTells_holds

set_option maxRecDepth 100000 in
theorem MoneySums_args (H : Type) (enc : TypeId × Value → H) (W : World) (base : Nat) (args : Array Value) (ds : List (DataW H)) (p : List MemPlace)
    (hval : ∀ (j : Nat) t v, Try.f5.params[j]? = some t → args[j]? = some v → Value.okWide Try.prog W .any base t v)
    (hA : DataW.TrodAll enc Try.prog W 0 (fun _ => true) true Try.f5.params.toList args.toList ds p)
    (_hsz : (DataW.weightsEach Try.prog Try.f5.params.toList ds).all (· ≤ reachBytes) = true) :
    Calls Try.prog 5 args W fun e W' => e = .returned (.bool true) ∧ Ext [] W W' := by
  rw [Try.params5] at hA hval
  obtain ⟨v0, vs0, d0, ds0, p0, q0, hargs, rfl, rfl, h0, r0⟩ := trodAll_cons hA
  obtain ⟨rfl, rfl, rfl⟩ := trodAll_nil r0
  obtain rfl : args = #[v0] := by cases args; simp_all
  obtain ⟨A, n, c, zs, rfl, hl, hc, hm, hr, hw⟩ := open_row_ints Try.underlying31 Try.underlying2 (by kernel_rfl) (hval 0 31 v0 rfl rfl) h0
  exact (sums_walk A n c zs W hl (by unfold maxLen at hm; omega) hr (fun z hz => bounds_i64 (hw z hz))).mono fun e W' ⟨he, hw⟩ => ⟨he, hw ▸ Ext.refl _⟩

set_option maxRecDepth 100000 in
theorem MoneySums_lifted (os : Os) (started : os.Started) (H : Type) (enc : TypeId × Value → H) :
    ReturnsInHanded {} Try.checked os 5 .any (Rows.moneySumsSpec.pre6 enc Try.prog Try.f5 Rows.moneySumsRow.domain false) (Rows.moneySumsSpec.post enc Try.prog Try.f5 false true false false) :=
  law_lift (s := Rows.moneySumsSpec) started (by kernel_rfl) Try.func5 rfl rfl (by kernel_rfl) (fun ds h => match ds, h with | [_], _ => rfl)
    (ChangeSpec.witness6 (enc := enc) (C := Try.checked) false ⟨#[], #[.slice none 0 0], []⟩ 8 (by kernel_rfl) (by kernel_rfl) (by kernel_rfl) (by kernel_rfl))
    (fun W base args ds p hval hA hsz => MoneySums_args H enc W base args ds p hval hA hsz)
theorem MoneySums_holds : Rows.MoneySumsSaid :=
  OpenClaim.holds_of_wide 5 Try.f5 rfl rfl rfl rfl rfl rfl rfl ⟨rfl, rfl, rfl, rfl, rfl⟩ rfl rfl rfl rfl rfl (by kernel_rfl) Try.func5 (by kernel_rfl)
    (of_decide_eq_true (by kernel_rfl)) (by unfold Func.isWrapper; first | (rw [if_pos (by decide +kernel)]; kernel_rfl) | (rw [if_neg (by decide +kernel)]; exact ⟨rfl, rfl⟩))
    (fun os started H enc _ => MoneySums_lifted os started H enc)
#print axioms MoneySums_holds
end Go.Proofs.Ytdbeinbgekdnmaa
