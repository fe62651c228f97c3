/-
  ChangeDigests: by a book unlike changes that may be have unlike digests, like ones the same. Of any two changes.
-/
import Derived.Test.YtpgffckfbgfgcaaR15
import Derived.Test.YtpgffckfbgfgcaaRChDgF
set_option maxRecDepth 100000
namespace Go.Proofs.Ytpgffckfbgfgcaa
open Go.RowKit Go.ChangeShapes Go.WideShapes Go.ChangeAt

set_option maxRecDepth 100000 in
theorem ChangeDigests_args (H : Type) (enc : TypeId × Value → H) (W : World) (base : Nat) (args : Array Value) (ds : List (DataW H)) (p : List MemPlace)
    (hval : ∀ (j : Nat) t v, Try.f6.params[j]? = some t → args[j]? = some v → Value.okWide Try.prog W .any base t v)
    (hA : DataW.TrodAll enc Try.prog W 0 (fun _ => true) true Try.f6.params.toList args.toList ds p)
    (_hsz : (DataW.weightsEach Try.prog Try.f6.params.toList ds).all (· ≤ reachBytes) = true) :
    Calls Try.prog 6 args W fun e W' => e = .returned (.bool true) ∧ Ext [] W W' := by
  rw [Try.params6] at hA hval
  obtain ⟨v0, vs0, d0, ds0, p0, q0, hargs, rfl, rfl, h0, r0⟩ := trodAll_cons hA
  obtain ⟨v1, vs1, d1, ds1, p1, q1, rfl, rfl, rfl, h1, r1⟩ := trodAll_cons r0
  obtain ⟨rfl, rfl, rfl⟩ := trodAll_nil r1
  obtain rfl : args = #[v0, v1] := by cases args; simp_all
  obtain ⟨cs, rfl, hcs⟩ := okWide_struct Try.underlying52 (hval 0 52 v0 rfl rfl)
  obtain ⟨fuel0, hf0⟩ := h0
  obtain ⟨c, hc, hl⟩ := A.open_chg (by rw [show (Value.agg cs).cells = cs from rfl, Array.length_toList, hcs]) hf0
  obtain ⟨cs1, rfl, hcs1⟩ := okWide_struct Try.underlying52 (hval 1 52 v1 rfl rfl)
  obtain ⟨fuel1, hf1⟩ := h1
  obtain ⟨d, hd, hl1⟩ := A.open_chg (by rw [show (Value.agg cs1).cells = cs1 from rfl, Array.length_toList, hcs1]) hf1
  exact A.law_of (A.digests_s hl hl1) (vals := [.agg cs, .agg cs1]) ⟨_, _, rfl, ⟨cs.toList, by simp, hc⟩, _, _, rfl, ⟨cs1.toList, by simp, hd⟩, rfl⟩

set_option maxRecDepth 100000 in
theorem ChangeDigests_lifted (os : Os) (started : os.Started) (H : Type) (enc : TypeId × Value → H) :
    ReturnsInHanded {} Try.checked os 6 .any (Rows.changeDigestsSpec.pre6 enc Try.prog Try.f6 Rows.changeDigestsRow.domain false) (Rows.changeDigestsSpec.post enc Try.prog Try.f6 false true false false) :=
  law_lift (s := Rows.changeDigestsSpec) started (by kernel_rfl) Try.func6 rfl rfl (by kernel_rfl) (fun ds h => match ds, h with | [_, _], _ => rfl)
    (ChangeSpec.witness6 (enc := enc) (C := Try.checked) false ⟨#[], #[.agg #[.int .i64 0, .int .i64 0, .slice none 0 0, .slice none 0 0, .slice none 0 0], .agg #[.int .i64 0, .int .i64 0, .slice none 0 0, .slice none 0 0, .slice none 0 0]], []⟩ 8 (by kernel_rfl) (by kernel_rfl) (by kernel_rfl) (by kernel_rfl))
    (fun W base args ds p hval hA hsz => ChangeDigests_args H enc W base args ds p hval hA hsz)
theorem ChangeDigests_holds : Rows.ChangeDigestsSaid :=
  OpenClaim.holds_of_wide 6 Try.f6 rfl rfl rfl rfl rfl rfl rfl ⟨rfl, rfl, rfl, rfl, rfl⟩ rfl rfl rfl rfl rfl ChangeDigests_named Try.func6 ChangeDigests_closed
    (of_decide_eq_true (by kernel_rfl)) (by unfold Func.isWrapper; first | (rw [if_pos (by decide +kernel)]; kernel_rfl) | (rw [if_neg (by decide +kernel)]; exact ⟨rfl, rfl⟩))
    (fun os started H enc _ => ChangeDigests_lifted os started H enc)
#print axioms ChangeDigests_holds
end Go.Proofs.Ytpgffckfbgfgcaa
