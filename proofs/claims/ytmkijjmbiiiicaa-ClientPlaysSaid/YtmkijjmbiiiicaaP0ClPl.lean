/-
  ClientPlays: whatever a client asks, and is replied, one behind the other, each answer is the document's, what it sends, what waits, and what it accepted. Of any numbers and any row of acts.
-/
import Derived.Test.YtmkijjmbiiiicaaP013
import Derived.Test.YtmkijjmbiiiicaaP0ClPlF
set_option maxRecDepth 100000
namespace Go.Proofs.Ytmkijjmbiiiicaa
open Go.RowKit Go.ChangeShapes Go.WideShapes Go.ChangeAt

set_option maxRecDepth 100000 in
theorem ClientPlays_args (H : Type) (enc : TypeId × Value → H) (W : World) (base : Nat) (args : Array Value) (ds : List (DataW H)) (p : List MemPlace)
    (hval : ∀ (j : Nat) t v, Try.f3.params[j]? = some t → args[j]? = some v → Value.okWide Try.prog W .any base t v)
    (hA : DataW.TrodAll enc Try.prog W 0 (fun _ => true) true Try.f3.params.toList args.toList ds p)
    (_hsz : (DataW.weightsEach Try.prog Try.f3.params.toList ds).all (· ≤ reachBytes) = true) :
    Calls Try.prog 3 args W fun e W' => e = .returned (.bool true) ∧ Ext [] W W' := by
  rw [Try.params3] at hA hval
  obtain ⟨v0, vs0, d0, ds0, p0, q0, hargs, rfl, rfl, h0, r0⟩ := trodAll_cons hA
  obtain ⟨v1, vs1, d1, ds1, p1, q1, rfl, rfl, rfl, h1, r1⟩ := trodAll_cons r0
  obtain ⟨v2, vs2, d2, ds2, p2, q2, rfl, rfl, rfl, h2, r2⟩ := trodAll_cons r1
  obtain ⟨rfl, rfl, rfl⟩ := trodAll_nil r2
  obtain rfl : args = #[v0, v1, v2] := by cases args; simp_all
  obtain ⟨a0, rfl, rfl, rfl, w0⟩ := open_int Try.underlying3 (hval 0 3 v0 rfl rfl) h0
  obtain ⟨a1, rfl, rfl, rfl, w1⟩ := open_int Try.underlying3 (hval 1 3 v1 rfl rfl) h1
  obtain ⟨A2, n2, c2, rfl⟩ := okWide_slice Try.underlying22 (hval 2 22 v2 rfl rfl)
  obtain ⟨m2, e2⟩ := h2
  obtain ⟨l2, hl2, ok2⟩ := A.open_acts ⟨m2, _, e2⟩
  by_cases hb : a0 < 1 ∨ 7 < a0 ∨ a1 < a0 ∨ a0 + 3 < a1
  · exact A.law_of (A.playsZ_s (l := l2) (n := a0) (id := a1) A.fixed31_s ok2 hb (A.wfIn w0)) (vals := [.int .i64 a0, .int .i64 a1, .slice A2 n2 c2]) ⟨_, _, rfl, rfl, _, _, rfl, rfl, _, _, rfl, hl2, rfl⟩
  · exact A.law_of (A.plays_s (l := l2) (n := a0) (id := a1) A.fixed31_s ok2 (by omega) (by omega)) (vals := [.int .i64 a0, .int .i64 a1, .slice A2 n2 c2]) ⟨_, _, rfl, rfl, _, _, rfl, rfl, _, _, rfl, hl2, rfl⟩

set_option maxRecDepth 100000 in
theorem ClientPlays_lifted (os : Os) (started : os.Started) (H : Type) (enc : TypeId × Value → H) :
    ReturnsInHanded {} Try.checked os 3 .any (Rows.clientPlaysSpec.pre6 enc Try.prog Try.f3 Rows.clientPlaysRow.domain false) (Rows.clientPlaysSpec.post enc Try.prog Try.f3 false true false false) :=
  law_lift (s := Rows.clientPlaysSpec) started (by kernel_rfl) Try.func3 rfl rfl (by kernel_rfl) (fun ds h => match ds, h with | [_, _, _], _ => rfl)
    (ChangeSpec.witness6 (enc := enc) (C := Try.checked) false ⟨#[], #[.int .i64 0, .int .i64 0, .slice none 0 0], []⟩ 8 (by kernel_rfl) (by kernel_rfl) (by kernel_rfl) (by kernel_rfl))
    (fun W base args ds p hval hA hsz => ClientPlays_args H enc W base args ds p hval hA hsz)
theorem ClientPlays_holds : Rows.ClientPlaysSaid :=
  OpenClaim.holds_of_wide 3 Try.f3 rfl rfl rfl rfl rfl rfl rfl ⟨rfl, rfl, rfl, rfl, rfl⟩ rfl rfl rfl rfl rfl ClientPlays_named Try.func3 ClientPlays_closed
    (of_decide_eq_true (by kernel_rfl)) (by unfold Func.isWrapper; first | (rw [if_pos (by decide +kernel)]; kernel_rfl) | (rw [if_neg (by decide +kernel)]; exact ⟨rfl, rfl⟩))
    (fun os started H enc _ => ClientPlays_lifted os started H enc)
#print axioms ClientPlays_holds
end Go.Proofs.Ytmkijjmbiiiicaa
