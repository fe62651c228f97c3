/-
  The statements of layer 28: the closings.
-/
import Derived.Test.YtdbeinbgekdnmaaPatienceLaw
namespace Go.Proofs.Ytdbeinbgekdnmaa
open Go.RowKit Go.ChangeShapes Go.WideShapes Go.ChangeAt

set_option maxRecDepth 100000 in
theorem PatienceWaits_args (H : Type) (enc : TypeId × Value → H) (W : World) (base : Nat) (args : Array Value) (ds : List (DataW H)) (p : List MemPlace)
    (hval : ∀ (j : Nat) t v, Try.f3.params[j]? = some t → args[j]? = some v → Value.okWide Try.prog W .any base t v)
    (hA : DataW.TrodAll enc Try.prog W 0 (fun _ => true) true Try.f3.params.toList args.toList ds p)
    (_hsz : (DataW.weightsEach Try.prog Try.f3.params.toList ds).all (· ≤ reachBytes) = true) :
    Calls Try.prog 3 args W fun e W' => e = .returned (.bool true) ∧ Ext [] W W' := by
  rw [Try.params3] at hA hval
  obtain ⟨v0, vs0, d0, ds0, p0, q0, hargs, rfl, rfl, h0, r0⟩ := trodAll_cons hA
  obtain ⟨rfl, rfl, rfl⟩ := trodAll_nil r0
  obtain rfl : args = #[v0] := by cases args; simp_all
  obtain ⟨a0, rfl, rfl, rfl, w0⟩ := open_int Try.underlying5 (hval 0 5 v0 rfl rfl) h0
  have hb := bounds_u8 w0
  exact waits_walk a0 hb.1 hb.2 W

set_option maxRecDepth 100000 in
theorem PatienceWaits_lifted (os : Os) (started : os.Started) (H : Type) (enc : TypeId × Value → H) :
    ReturnsInHanded {} Try.checked os 3 .any (Rows.patienceWaitsSpec.pre6 enc Try.prog Try.f3 Rows.patienceWaitsRow.domain false) (Rows.patienceWaitsSpec.post enc Try.prog Try.f3 false true false false) :=
  law_lift (s := Rows.patienceWaitsSpec) started (by kernel_rfl) Try.func3 rfl rfl (by kernel_rfl) (fun ds h => match ds, h with | [_], _ => rfl)
    (ChangeSpec.witness6 (enc := enc) (C := Try.checked) false ⟨#[], #[.int .u8 0], []⟩ 8 (by kernel_rfl) (by kernel_rfl) (by kernel_rfl) (by kernel_rfl))
    (fun W base args ds p hval hA hsz => PatienceWaits_args H enc W base args ds p hval hA hsz)
theorem PatienceWaits_holds : Rows.PatienceWaitsSaid :=
  OpenClaim.holds_of_wide 3 Try.f3 rfl rfl rfl rfl rfl rfl rfl ⟨rfl, rfl, rfl, rfl, rfl⟩ rfl rfl rfl rfl rfl (by kernel_rfl) Try.func3 (by kernel_rfl)
    (of_decide_eq_true (by kernel_rfl)) (by unfold Func.isWrapper; first | (rw [if_pos (by decide +kernel)]; kernel_rfl) | (rw [if_neg (by decide +kernel)]; exact ⟨rfl, rfl⟩))
    (fun os started H enc _ => PatienceWaits_lifted os started H enc)
#print axioms PatienceWaits_holds

set_option maxRecDepth 100000 in
theorem PatiencePlays_args (H : Type) (enc : TypeId × Value → H) (W : World) (base : Nat) (args : Array Value) (ds : List (DataW H)) (p : List MemPlace)
    (hval : ∀ (j : Nat) t v, Try.f6.params[j]? = some t → args[j]? = some v → Value.okWide Try.prog W .any base t v)
    (hA : DataW.TrodAll enc Try.prog W 0 (fun _ => true) true Try.f6.params.toList args.toList ds p)
    (_hsz : (DataW.weightsEach Try.prog Try.f6.params.toList ds).all (· ≤ reachBytes) = true) :
    Calls Try.prog 6 args W fun e W' => e = .returned (.bool true) ∧ Ext [] W W' := by
  rw [Try.params6] at hA hval
  obtain ⟨v0, vs0, d0, ds0, p0, q0, hargs, rfl, rfl, h0, r0⟩ := trodAll_cons hA
  obtain ⟨rfl, rfl, rfl⟩ := trodAll_nil r0
  obtain rfl : args = #[v0] := by cases args; simp_all
  obtain ⟨A, n, c, zs, rfl, hl, hc, hm, hr, hw⟩ := open_row_ints Try.underlying34 Try.underlying5 (by kernel_rfl) (hval 0 34 v0 rfl rfl) h0
  exact plays_walk A n c zs W hl hc hm hr (fun z hz => bounds_u8 (hw z hz))

set_option maxRecDepth 100000 in
theorem PatiencePlays_lifted (os : Os) (started : os.Started) (H : Type) (enc : TypeId × Value → H) :
    ReturnsInHanded {} Try.checked os 6 .any (Rows.patiencePlaysSpec.pre6 enc Try.prog Try.f6 Rows.patiencePlaysRow.domain false) (Rows.patiencePlaysSpec.post enc Try.prog Try.f6 false true false false) :=
  law_lift (s := Rows.patiencePlaysSpec) started (by kernel_rfl) Try.func6 rfl rfl (by kernel_rfl) (fun ds h => match ds, h with | [_], _ => rfl)
    (ChangeSpec.witness6 (enc := enc) (C := Try.checked) false ⟨#[], #[.slice none 0 0], []⟩ 8 (by kernel_rfl) (by kernel_rfl) (by kernel_rfl) (by kernel_rfl))
    (fun W base args ds p hval hA hsz => PatiencePlays_args H enc W base args ds p hval hA hsz)
theorem PatiencePlays_holds : Rows.PatiencePlaysSaid :=
  OpenClaim.holds_of_wide 6 Try.f6 rfl rfl rfl rfl rfl rfl rfl ⟨rfl, rfl, rfl, rfl, rfl⟩ rfl rfl rfl rfl rfl (by kernel_rfl) Try.func6 (by kernel_rfl)
    (of_decide_eq_true (by kernel_rfl)) (by unfold Func.isWrapper; first | (rw [if_pos (by decide +kernel)]; kernel_rfl) | (rw [if_neg (by decide +kernel)]; exact ⟨rfl, rfl⟩))
    (fun os started H enc _ => PatiencePlays_lifted os started H enc)
#print axioms PatiencePlays_holds
end Go.Proofs.Ytdbeinbgekdnmaa
