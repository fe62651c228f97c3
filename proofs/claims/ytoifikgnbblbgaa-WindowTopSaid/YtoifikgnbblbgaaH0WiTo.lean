/-
  WindowTop: at the greatest numbers a log goes no further. Of any numbers.
-/
import Derived.Test.YtoifikgnbblbgaaH06
import Derived.Test.YtoifikgnbblbgaaH0WiToF
set_option maxRecDepth 100000
namespace Go.Proofs.Ytoifikgnbblbgaa
open Go.RowKit Go.ChangeShapes Go.WideShapes Go.ChangeAt

set_option maxRecDepth 100000 in
theorem WindowTop_args (H : Type) (enc : TypeId × Value → H) (W : World) (base : Nat) (args : Array Value) (ds : List (DataW H)) (p : List MemPlace)
    (hval : ∀ (j : Nat) t v, Try.f3.params[j]? = some t → args[j]? = some v → Value.okWide Try.prog W .any base t v)
    (hA : DataW.TrodAll enc Try.prog W 0 (fun _ => true) true Try.f3.params.toList args.toList ds p)
    (_hsz : (DataW.weightsEach Try.prog Try.f3.params.toList ds).all (· ≤ reachBytes) = true) :
    Calls Try.prog 3 args W fun e W' => e = .returned (.bool true) ∧ Ext [] W W' := by
  rw [Try.params3] at hA hval
  obtain ⟨v0, vs0, d0, ds0, p0, q0, hargs, rfl, rfl, h0, r0⟩ := trodAll_cons hA
  obtain ⟨v1, vs1, d1, ds1, p1, q1, rfl, rfl, rfl, h1, r1⟩ := trodAll_cons r0
  obtain ⟨rfl, rfl, rfl⟩ := trodAll_nil r1
  obtain rfl : args = #[v0, v1] := by cases args; simp_all
  obtain ⟨a0, rfl, rfl, rfl, w0⟩ := open_int Try.underlying5 (hval 0 5 v0 rfl rfl) h0
  obtain ⟨c, hc⟩ : ∃ c : UInt8, bc c = .int .u8 a0 := by
    simp only [Lit.wf, Bool.and_eq_true, decide_eq_true_eq] at w0
    have h1 : (0 : Int) ≤ a0 := w0.1
    have h2 : a0 ≤ 255 := w0.2
    refine ⟨UInt8.ofNat a0.toNat, ?_⟩
    simp only [bc, Value.int.injEq, true_and, UInt8.toNat_ofNat']
    omega
  obtain ⟨a1, rfl, rfl, rfl, w1⟩ := open_int Try.underlying2 (hval 1 2 v1 rfl rfl) h1
  exact A.law_of (A.wtop_s (back := c) (seq := a1) (A.wfIn w1)) (vals := [.int .u8 a0, .int .i64 a1]) ⟨_, _, rfl, hc.symm, _, _, rfl, rfl, rfl⟩

set_option maxRecDepth 100000 in
theorem WindowTop_lifted (os : Os) (started : os.Started) (H : Type) (enc : TypeId × Value → H) :
    ReturnsInHanded {} Try.checked os 3 .any (Rows.windowTopSpec.pre6 enc Try.prog Try.f3 Rows.windowTopRow.domain false) (Rows.windowTopSpec.post enc Try.prog Try.f3 false true false false) :=
  law_lift (s := Rows.windowTopSpec) started (by kernel_rfl) Try.func3 rfl rfl (by kernel_rfl) (fun ds h => match ds, h with | [_, _], _ => rfl)
    (ChangeSpec.witness6 (enc := enc) (C := Try.checked) false ⟨#[], #[.int .u8 0, .int .i64 0], []⟩ 8 (by kernel_rfl) (by kernel_rfl) (by kernel_rfl) (by kernel_rfl))
    (fun W base args ds p hval hA hsz => WindowTop_args H enc W base args ds p hval hA hsz)
theorem WindowTop_holds : Rows.WindowTopSaid :=
  OpenClaim.holds_of_wide 3 Try.f3 rfl rfl rfl rfl rfl rfl rfl ⟨rfl, rfl, rfl, rfl, rfl⟩ rfl rfl rfl rfl rfl WindowTop_named Try.func3 WindowTop_closed
    (of_decide_eq_true (by kernel_rfl)) (by unfold Func.isWrapper; first | (rw [if_pos (by decide +kernel)]; kernel_rfl) | (rw [if_neg (by decide +kernel)]; exact ⟨rfl, rfl⟩))
    (fun os started H enc _ => WindowTop_lifted os started H enc)
#print axioms WindowTop_holds
end Go.Proofs.Ytoifikgnbblbgaa
