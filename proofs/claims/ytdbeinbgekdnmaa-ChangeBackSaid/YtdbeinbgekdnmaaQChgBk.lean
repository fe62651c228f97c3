/-
  ChangeBack: whether any change may be, and its bytes, are the document's; one that may be is told by them. Of any change.
-/
import Derived.Test.YtdbeinbgekdnmaaQ14
set_option maxRecDepth 100000
namespace Go.Proofs.Ytdbeinbgekdnmaa
open Go.RowKit Go.ChangeShapes Go.WideShapes Go.ChangeAt

set_option maxRecDepth 100000 in
theorem ChangeBack_args (H : Type) (enc : TypeId × Value → H) (W : World) (base : Nat) (args : Array Value) (ds : List (DataW H)) (p : List MemPlace)
    (hval : ∀ (j : Nat) t v, Try.f11.params[j]? = some t → args[j]? = some v → Value.okWide Try.prog W .any base t v)
    (hA : DataW.TrodAll enc Try.prog W 0 (fun _ => true) true Try.f11.params.toList args.toList ds p)
    (_hsz : (DataW.weightsEach Try.prog Try.f11.params.toList ds).all (· ≤ reachBytes) = true) :
    Calls Try.prog 11 args W fun e W' => e = .returned (.bool true) ∧ Ext [] W W' := by
  rw [Try.params11] at hA hval
  obtain ⟨v0, vs0, d0, ds0, p0, q0, hargs, rfl, rfl, h0, r0⟩ := trodAll_cons hA
  obtain ⟨v1, vs1, d1, ds1, p1, q1, rfl, rfl, rfl, h1, r1⟩ := trodAll_cons r0
  obtain ⟨rfl, rfl, rfl⟩ := trodAll_nil r1
  obtain rfl : args = #[v0, v1] := by cases args; simp_all
  obtain ⟨a1, rfl, rfl, rfl, w1⟩ := open_int Try.underlying3 (hval 1 3 v1 rfl rfl) h1
  obtain ⟨cs, rfl, hcs⟩ := okWide_struct Try.underlying80 (hval 0 80 v0 rfl rfl)
  obtain ⟨fuel0, hf0⟩ := h0
  obtain ⟨c, hc, hl⟩ := A.open_chg (by rw [show (Value.agg cs).cells = cs from rfl, Array.length_toList, hcs]) hf0
  exact A.law_of (A.back_s (n := a1) hl) (vals := [.agg cs, .int .i64 a1]) ⟨_, _, rfl, ⟨cs.toList, by simp, hc⟩, _, _, rfl, rfl, rfl⟩

set_option maxRecDepth 100000 in
theorem ChangeBack_lifted (os : Os) (started : os.Started) (H : Type) (enc : TypeId × Value → H) :
    ReturnsInHanded {} Try.checked os 11 .any (Rows.changeBackSpec.pre6 enc Try.prog Try.f11 Rows.changeBackRow.domain false) (Rows.changeBackSpec.post enc Try.prog Try.f11 false true false false) :=
  law_lift (s := Rows.changeBackSpec) started (by kernel_rfl) Try.func11 rfl rfl (by kernel_rfl) (fun ds h => match ds, h with | [_, _], _ => rfl)
    (ChangeSpec.witness6 (enc := enc) (C := Try.checked) false ⟨#[], #[.agg #[.int .i64 0, .int .i64 0, .slice none 0 0, .slice none 0 0, .slice none 0 0], .int .i64 0], []⟩ 8 (by kernel_rfl) (by kernel_rfl) (by kernel_rfl) (by kernel_rfl))
    (fun W base args ds p hval hA hsz => ChangeBack_args H enc W base args ds p hval hA hsz)
theorem ChangeBack_holds : Rows.ChangeBackSaid :=
  OpenClaim.holds_of_wide 11 Try.f11 rfl rfl rfl rfl rfl rfl rfl ⟨rfl, rfl, rfl, rfl, rfl⟩ rfl rfl rfl rfl rfl (by kernel_rfl) Try.func11 (by kernel_rfl)
    (of_decide_eq_true (by kernel_rfl)) (by unfold Func.isWrapper; first | (rw [if_pos (by decide +kernel)]; kernel_rfl) | (rw [if_neg (by decide +kernel)]; exact ⟨rfl, rfl⟩))
    (fun os started H enc _ => ChangeBack_lifted os started H enc)
#print axioms ChangeBack_holds
end Go.Proofs.Ytdbeinbgekdnmaa
