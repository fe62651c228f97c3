/-
  ClientBelieves: no lie is believed: what a client accepts some honest replica replied to just that stamp, whatever up to f liars reply, and whatever is forged. Of any number, any liars and any row of acts.
-/
import Derived.Test.YtmkijjmbiiiicaaB010
import Derived.Test.YtmkijjmbiiiicaaB0ClBeF
set_option maxRecDepth 100000
namespace Go.Proofs.Ytmkijjmbiiiicaa
open Go.RowKit Go.ChangeShapes Go.WideShapes Go.ChangeAt

set_option maxRecDepth 100000 in
theorem ClientBelieves_args (H : Type) (enc : TypeId × Value → H) (W : World) (base : Nat) (args : Array Value) (ds : List (DataW H)) (p : List MemPlace)
    (hval : ∀ (j : Nat) t v, Try.f4.params[j]? = some t → args[j]? = some v → Value.okWide Try.prog W .any base t v)
    (hA : DataW.TrodAll enc Try.prog W 0 (fun _ => true) true Try.f4.params.toList args.toList ds p)
    (_hsz : (DataW.weightsEach Try.prog Try.f4.params.toList ds).all (· ≤ reachBytes) = true) :
    Calls Try.prog 4 args W fun e W' => e = .returned (.bool true) ∧ Ext [] W W' := by
  rw [Try.params4] at hA hval
  obtain ⟨v0, vs0, d0, ds0, p0, q0, hargs, rfl, rfl, h0, r0⟩ := trodAll_cons hA
  obtain ⟨v1, vs1, d1, ds1, p1, q1, rfl, rfl, rfl, h1, r1⟩ := trodAll_cons r0
  obtain ⟨v2, vs2, d2, ds2, p2, q2, rfl, rfl, rfl, h2, r2⟩ := trodAll_cons r1
  obtain ⟨rfl, rfl, rfl⟩ := trodAll_nil r2
  obtain rfl : args = #[v0, v1, v2] := by cases args; simp_all
  obtain ⟨a0, rfl, rfl, rfl, w0⟩ := open_int Try.underlying5 (hval 0 5 v0 rfl rfl) h0
  obtain ⟨A1, n1, c1, rfl⟩ := okWide_slice Try.underlying37 (hval 1 37 v1 rfl rfl)
  obtain ⟨m1, e1⟩ := h1
  obtain ⟨l1, hl1⟩ := A.open_bytL ⟨m1, _, e1⟩
  obtain ⟨A2, n2, c2, rfl⟩ := okWide_slice Try.underlying22 (hval 2 22 v2 rfl rfl)
  obtain ⟨m2, e2⟩ := h2
  obtain ⟨l2, hl2, ok2⟩ := A.open_acts2 ⟨m2, _, e2⟩
  have hb : 0 ≤ a0 ∧ a0 ≤ 255 := by
    simp only [Lit.wf, Bool.and_eq_true, decide_eq_true_eq] at w0
    exact ⟨w0.1, w0.2⟩
  exact A.law_of (A.believes_s (l := l2) (L := l1) (av := a0) A.fixed31_s ok2 hb) (vals := [.int .u8 a0, .slice A1 n1 c1, .slice A2 n2 c2]) ⟨_, _, rfl, rfl, _, _, rfl, hl1, _, _, rfl, hl2, rfl⟩

set_option maxRecDepth 100000 in
theorem ClientBelieves_lifted (os : Os) (started : os.Started) (H : Type) (enc : TypeId × Value → H) :
    ReturnsInHanded {} Try.checked os 4 .any (Rows.clientBelievesSpec.pre6 enc Try.prog Try.f4 Rows.clientBelievesRow.domain false) (Rows.clientBelievesSpec.post enc Try.prog Try.f4 false true false false) :=
  law_lift (s := Rows.clientBelievesSpec) started (by kernel_rfl) Try.func4 rfl rfl (by kernel_rfl) (fun ds h => match ds, h with | [_, _, _], _ => rfl)
    (ChangeSpec.witness6 (enc := enc) (C := Try.checked) false ⟨#[], #[.int .u8 0, .slice none 0 0, .slice none 0 0], []⟩ 8 (by kernel_rfl) (by kernel_rfl) (by kernel_rfl) (by kernel_rfl))
    (fun W base args ds p hval hA hsz => ClientBelieves_args H enc W base args ds p hval hA hsz)
theorem ClientBelieves_holds : Rows.ClientBelievesSaid :=
  OpenClaim.holds_of_wide 4 Try.f4 rfl rfl rfl rfl rfl rfl rfl ⟨rfl, rfl, rfl, rfl, rfl⟩ rfl rfl rfl rfl rfl ClientBelieves_named Try.func4 ClientBelieves_closed
    (of_decide_eq_true (by kernel_rfl)) (by unfold Func.isWrapper; first | (rw [if_pos (by decide +kernel)]; kernel_rfl) | (rw [if_neg (by decide +kernel)]; exact ⟨rfl, rfl⟩))
    (fun os started H enc _ => ClientBelieves_lifted os started H enc)
#print axioms ClientBelieves_holds
end Go.Proofs.Ytmkijjmbiiiicaa
