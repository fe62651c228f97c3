/-
  WatchLooks: whatever is seen, one look behind the other, what is odd is what the document says, and what is remembered. Of any glances.
-/
import Derived.Test.YtiaeochlepkleaaW07
import Derived.Test.YtiaeochlepkleaaW0WaLoF
set_option maxRecDepth 100000
namespace Go.Proofs.Ytiaeochlepkleaa
open Go.RowKit Go.ChangeShapes Go.WideShapes Go.ChangeAt

set_option maxRecDepth 100000 in
theorem WatchLooks_args (H : Type) (enc : TypeId × Value → H) (W : World) (base : Nat) (args : Array Value) (ds : List (DataW H)) (p : List MemPlace)
    (hval : ∀ (j : Nat) t v, Try.f3.params[j]? = some t → args[j]? = some v → Value.okWide Try.prog W .any base t v)
    (hA : DataW.TrodAll enc Try.prog W 0 (fun _ => true) true Try.f3.params.toList args.toList ds p)
    (_hsz : (DataW.weightsEach Try.prog Try.f3.params.toList ds).all (· ≤ reachBytes) = true) :
    Calls Try.prog 3 args W fun e W' => e = .returned (.bool true) ∧ Ext [] W W' := by
  rw [Try.params3] at hA hval
  obtain ⟨v0, vs0, d0, ds0, p0, q0, hargs, rfl, rfl, h0, r0⟩ := trodAll_cons hA
  obtain ⟨rfl, rfl, rfl⟩ := trodAll_nil r0
  obtain rfl : args = #[v0] := by cases args; simp_all
  obtain ⟨A0, n0, c0, rfl⟩ := okWide_slice Try.underlying22 (hval 0 22 v0 rfl rfl)
  obtain ⟨m0, e0⟩ := h0
  obtain ⟨l0, hl0, ok0⟩ := A.open_glss ⟨m0, _, e0⟩
  exact A.law_of (A.wlooks_s (rows := l0) ok0) (vals := [.slice A0 n0 c0]) ⟨_, _, rfl, hl0, rfl⟩

set_option maxRecDepth 100000 in
theorem WatchLooks_lifted (os : Os) (started : os.Started) (H : Type) (enc : TypeId × Value → H) :
    ReturnsInHanded {} Try.checked os 3 .any (Rows.watchLooksSpec.pre6 enc Try.prog Try.f3 Rows.watchLooksRow.domain false) (Rows.watchLooksSpec.post enc Try.prog Try.f3 false true false false) :=
  law_lift (s := Rows.watchLooksSpec) started (by kernel_rfl) Try.func3 rfl rfl (by kernel_rfl) (fun ds h => match ds, h with | [_], _ => rfl)
    (ChangeSpec.witness6 (enc := enc) (C := Try.checked) false ⟨#[], #[.slice none 0 0], []⟩ 8 (by kernel_rfl) (by kernel_rfl) (by kernel_rfl) (by kernel_rfl))
    (fun W base args ds p hval hA hsz => WatchLooks_args H enc W base args ds p hval hA hsz)
theorem WatchLooks_holds : Rows.WatchLooksSaid :=
  OpenClaim.holds_of_wide 3 Try.f3 rfl rfl rfl rfl rfl rfl rfl ⟨rfl, rfl, rfl, rfl, rfl⟩ rfl rfl rfl rfl rfl WatchLooks_named Try.func3 WatchLooks_closed
    (of_decide_eq_true (by kernel_rfl)) (by unfold Func.isWrapper; first | (rw [if_pos (by decide +kernel)]; kernel_rfl) | (rw [if_neg (by decide +kernel)]; exact ⟨rfl, rfl⟩))
    (fun os started H enc _ => WatchLooks_lifted os started H enc)
#print axioms WatchLooks_holds
end Go.Proofs.Ytiaeochlepkleaa
