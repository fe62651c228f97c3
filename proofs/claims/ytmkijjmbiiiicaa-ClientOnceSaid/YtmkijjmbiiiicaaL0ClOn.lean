/-
  ClientOnce: what a client accepted are its stamps from 1 on, in order, each once, but perhaps the last one, which waits. Of any row of acts.
-/
import Derived.Test.YtmkijjmbiiiicaaL013
import Derived.Test.YtmkijjmbiiiicaaL0ClOnF
set_option maxRecDepth 100000
namespace Go.Proofs.Ytmkijjmbiiiicaa
open Go.RowKit Go.ChangeShapes Go.WideShapes Go.ChangeAt

set_option maxRecDepth 100000 in
theorem ClientOnce_args (H : Type) (enc : TypeId × Value → H) (W : World) (base : Nat) (args : Array Value) (ds : List (DataW H)) (p : List MemPlace)
    (hval : ∀ (j : Nat) t v, Try.f5.params[j]? = some t → args[j]? = some v → Value.okWide Try.prog W .any base t v)
    (hA : DataW.TrodAll enc Try.prog W 0 (fun _ => true) true Try.f5.params.toList args.toList ds p)
    (_hsz : (DataW.weightsEach Try.prog Try.f5.params.toList ds).all (· ≤ reachBytes) = true) :
    Calls Try.prog 5 args W fun e W' => e = .returned (.bool true) ∧ Ext [] W W' := by
  rw [Try.params5] at hA hval
  obtain ⟨v0, vs0, d0, ds0, p0, q0, hargs, rfl, rfl, h0, r0⟩ := trodAll_cons hA
  obtain ⟨rfl, rfl, rfl⟩ := trodAll_nil r0
  obtain rfl : args = #[v0] := by cases args; simp_all
  obtain ⟨A0, n0, c0, rfl⟩ := okWide_slice Try.underlying22 (hval 0 22 v0 rfl rfl)
  obtain ⟨m0, e0⟩ := h0
  obtain ⟨l0, hl0, ok0⟩ := A.open_acts ⟨m0, _, e0⟩
  exact A.law_of (A.once_s (l := l0) A.fixed31_s ok0) (vals := [.slice A0 n0 c0]) ⟨_, _, rfl, hl0, rfl⟩

set_option maxRecDepth 100000 in
theorem ClientOnce_lifted (os : Os) (started : os.Started) (H : Type) (enc : TypeId × Value → H) :
    ReturnsInHanded {} Try.checked os 5 .any (Rows.clientOnceSpec.pre6 enc Try.prog Try.f5 Rows.clientOnceRow.domain false) (Rows.clientOnceSpec.post enc Try.prog Try.f5 false true false false) :=
  law_lift (s := Rows.clientOnceSpec) started (by kernel_rfl) Try.func5 rfl rfl (by kernel_rfl) (fun ds h => match ds, h with | [_], _ => rfl)
    (ChangeSpec.witness6 (enc := enc) (C := Try.checked) false ⟨#[], #[.slice none 0 0], []⟩ 8 (by kernel_rfl) (by kernel_rfl) (by kernel_rfl) (by kernel_rfl))
    (fun W base args ds p hval hA hsz => ClientOnce_args H enc W base args ds p hval hA hsz)
theorem ClientOnce_holds : Rows.ClientOnceSaid :=
  OpenClaim.holds_of_wide 5 Try.f5 rfl rfl rfl rfl rfl rfl rfl ⟨rfl, rfl, rfl, rfl, rfl⟩ rfl rfl rfl rfl rfl ClientOnce_named Try.func5 ClientOnce_closed
    (of_decide_eq_true (by kernel_rfl)) (by unfold Func.isWrapper; first | (rw [if_pos (by decide +kernel)]; kernel_rfl) | (rw [if_neg (by decide +kernel)]; exact ⟨rfl, rfl⟩))
    (fun os started H enc _ => ClientOnce_lifted os started H enc)
#print axioms ClientOnce_holds
end Go.Proofs.Ytmkijjmbiiiicaa
