/-
  The statements of layer 10: the closings.
-/
import Derived.Test.YtdbeinbgekdnmaaLetterLives
import Derived.Test.YtdbeinbgekdnmaaOpen
set_option maxRecDepth 100000
namespace Go.Proofs.Ytdbeinbgekdnmaa
open Go.RowKit Go.ChangeShapes Go.WideShapes Go.ChangeAt
open Go.ChangeMaps (open_string shut_string)

theorem letter_leaves : leaves Try.prog 4 56 = some [9, 3, 2, 2, 9, 9] := by kernel_rfl
section
variable {H : Type} {enc : TypeId × Value → H} {w : World} {base : Nat} {spare : Nat → Bool} {held : Bool}
theorem open_letter {cs : List Value} {fuel : Nat} {x : DataW H × List MemPlace} (hl : cs.length = 6) (h : DataW.trod enc Try.prog w base spare held fuel 56 cs = some x) : ∃ l : Ltr, cs = l.cells.toList ∧ l.Lits := by
  have hh := leaves_trod 4 _ _ _ _ _ letter_leaves (by simpa using hl.symm) h
  match cs, hl with
  | [v0, v1, v2, v3, v4, v5], _ =>
    obtain ⟨s0, rfl, b0⟩ := (hh 0 v0 _ rfl rfl).string Try.underlying9
    obtain ⟨n1, rfl, b1⟩ := (hh 1 v1 _ rfl rfl).int Try.underlying3
    obtain ⟨n2, rfl, b2⟩ := (hh 2 v2 _ rfl rfl).int Try.underlying2
    obtain ⟨n3, rfl, b3⟩ := (hh 3 v3 _ rfl rfl).int Try.underlying2
    obtain ⟨s4, rfl, b4⟩ := (hh 4 v4 _ rfl rfl).string Try.underlying9
    obtain ⟨s5, rfl, b5⟩ := (hh 5 v5 _ rfl rfl).string Try.underlying9
    exact ⟨⟨s0, n1, n2, n3, s4, s5⟩, rfl, ⟨⟨bounds_i64 b1, bounds_i64 b2, bounds_i64 b3⟩, b0, b4, b5⟩⟩
end

set_option maxRecDepth 100000 in
theorem LetterSteps_args (H : Type) (enc : TypeId × Value → H) (W : World) (base : Nat) (args : Array Value) (ds : List (DataW H)) (p : List MemPlace)
    (hval : ∀ (j : Nat) t v, Try.f8.params[j]? = some t → args[j]? = some v → Value.okWide Try.prog W .any base t v)
    (hA : DataW.TrodAll enc Try.prog W 0 (fun _ => true) true Try.f8.params.toList args.toList ds p)
    (_hsz : (DataW.weightsEach Try.prog Try.f8.params.toList ds).all (· ≤ reachBytes) = true) :
    Calls Try.prog 8 args W fun e W' => e = .returned (.bool true) ∧ Ext [] W W' := by
  rw [Try.params8] at hA hval
  obtain ⟨v0, vs0, d0, ds0, p0, q0, hargs, rfl, rfl, h0, r0⟩ := trodAll_cons hA
  obtain ⟨v1, vs1, d1, ds1, p1, q1, rfl, rfl, rfl, h1, r1⟩ := trodAll_cons r0
  obtain ⟨v2, vs2, d2, ds2, p2, q2, rfl, rfl, rfl, h2, r2⟩ := trodAll_cons r1
  obtain ⟨v3, vs3, d3, ds3, p3, q3, rfl, rfl, rfl, h3, r3⟩ := trodAll_cons r2
  obtain ⟨v4, vs4, d4, ds4, p4, q4, rfl, rfl, rfl, h4, r4⟩ := trodAll_cons r3
  obtain ⟨rfl, rfl, rfl⟩ := trodAll_nil r4
  obtain rfl : args = #[v0, v1, v2, v3, v4] := by cases args; simp_all
  obtain ⟨cs, rfl, hcs⟩ := okWide_struct Try.underlying56 (hval 0 56 v0 rfl rfl)
  obtain ⟨fuel, hf⟩ := h0
  obtain ⟨l, hl, hlits⟩ := open_letter (by rw [show (Value.agg cs).cells = cs from rfl, Array.length_toList, hcs]; kernel_rfl) hf
  obtain rfl : cs = l.cells := Array.toList_inj.1 hl
  obtain ⟨a1, rfl, rfl, rfl, w1⟩ := open_int Try.underlying3 (hval 1 3 v1 rfl rfl) h1
  obtain ⟨a2, rfl, rfl, rfl, w2⟩ := open_int Try.underlying2 (hval 2 2 v2 rfl rfl) h2
  obtain ⟨a3, rfl, rfl, rfl, w3⟩ := open_int Try.underlying2 (hval 3 2 v3 rfl rfl) h3
  obtain ⟨s, rfl, rfl, rfl, hs⟩ := open_string Try.underlying9 (hval 4 9 v4 rfl rfl) h4
  exact steps_walk W l a1 a2 a3 s hlits (bounds_i64 w2) (bounds_i64 w3) hs

set_option maxRecDepth 100000 in
theorem LetterSteps_lifted (os : Os) (started : os.Started) (H : Type) (enc : TypeId × Value → H) :
    ReturnsInHanded {} Try.checked os 8 .any (Rows.letterStepsSpec.pre6 enc Try.prog Try.f8 Rows.letterStepsRow.domain false) (Rows.letterStepsSpec.post enc Try.prog Try.f8 false true false false) :=
  law_lift (s := Rows.letterStepsSpec) started (by kernel_rfl) Try.func8 rfl rfl (by kernel_rfl) (fun ds h => match ds, h with | [_, _, _, _, _], _ => rfl)
    (ChangeSpec.witness6 (enc := enc) (C := Try.checked) false ⟨#[], #[.agg #[.string ⟨#[]⟩, .int .i64 0, .int .i64 0, .int .i64 0, .string ⟨#[]⟩, .string ⟨#[]⟩], .int .i64 0, .int .i64 0, .int .i64 0, .string ⟨#[]⟩], []⟩ 8 (by kernel_rfl) (by kernel_rfl) (by kernel_rfl) (by kernel_rfl))
    (fun W base args ds p hval hA hsz => LetterSteps_args H enc W base args ds p hval hA hsz)
theorem LetterSteps_holds : Rows.LetterStepsSaid :=
  OpenClaim.holds_of_wide 8 Try.f8 rfl rfl rfl rfl rfl rfl rfl ⟨rfl, rfl, rfl, rfl, rfl⟩ rfl rfl rfl rfl rfl (by kernel_rfl) Try.func8 (by kernel_rfl)
    (of_decide_eq_true (by kernel_rfl)) (by unfold Func.isWrapper; first | (rw [if_pos (by decide +kernel)]; kernel_rfl) | (rw [if_neg (by decide +kernel)]; exact ⟨rfl, rfl⟩))
    (fun os started H enc _ => LetterSteps_lifted os started H enc)
#print axioms LetterSteps_holds

theorem step_leaves : leaves Try.prog 4 64 = some [3, 2, 2, 9] := by kernel_rfl
theorem open_step {H : Type} {enc : TypeId × Value → H} {w : World} {base : Nat} {spare : Nat → Bool} {held : Bool} (cs : List Value) (hl : cs.length = Try.prog.cellsOf 64)
    (h : ∃ m y, DataW.trod enc Try.prog w base spare held m 64 cs = some y) : ∃ s : StepR, cs = s.cells ∧ s.Ok := by
  obtain ⟨fuel, x, h⟩ := h
  rw [show Try.prog.cellsOf 64 = 4 by kernel_rfl] at hl
  have hh := leaves_trod 4 _ _ _ _ _ step_leaves (by simpa using hl.symm) h
  match cs, hl with
  | [v0, v1, v2, v3], _ =>
    obtain ⟨n0, rfl, b0⟩ := (hh 0 v0 _ rfl rfl).int Try.underlying3
    obtain ⟨n1, rfl, b1⟩ := (hh 1 v1 _ rfl rfl).int Try.underlying2
    obtain ⟨n2, rfl, b2⟩ := (hh 2 v2 _ rfl rfl).int Try.underlying2
    obtain ⟨s3, rfl, b3⟩ := (hh 3 v3 _ rfl rfl).string Try.underlying9
    exact ⟨⟨n0, n1, n2, s3⟩, rfl, ⟨bounds_i64 b1, bounds_i64 b2, b3⟩⟩

set_option maxRecDepth 100000 in
theorem LetterLives_args (H : Type) (enc : TypeId × Value → H) (W : World) (base : Nat) (args : Array Value) (ds : List (DataW H)) (p : List MemPlace)
    (hval : ∀ (j : Nat) t v, Try.f9.params[j]? = some t → args[j]? = some v → Value.okWide Try.prog W .any base t v)
    (hA : DataW.TrodAll enc Try.prog W 0 (fun _ => true) true Try.f9.params.toList args.toList ds p)
    (_hsz : (DataW.weightsEach Try.prog Try.f9.params.toList ds).all (· ≤ reachBytes) = true) :
    Calls Try.prog 9 args W fun e W' => e = .returned (.bool true) ∧ Ext [] W W' := by
  rw [Try.params9] at hA hval
  obtain ⟨v0, vs0, d0, ds0, p0, q0, hargs, rfl, rfl, h0, r0⟩ := trodAll_cons hA
  obtain ⟨rfl, rfl, rfl⟩ := trodAll_nil r0
  obtain rfl : args = #[v0] := by cases args; simp_all
  obtain ⟨A, n, c, rfl⟩ := okWide_slice Try.underlying62 (hval 0 62 v0 rfl rfl)
  obtain ⟨fuel, hf⟩ := h0
  obtain ⟨_, _, xs, hl, hr, hok⟩ := open_rowOf Try.underlying62 hf open_step
  exact lives_walk A n c xs W hl hr hok

set_option maxRecDepth 100000 in
theorem LetterLives_lifted (os : Os) (started : os.Started) (H : Type) (enc : TypeId × Value → H) :
    ReturnsInHanded {} Try.checked os 9 .any (Rows.letterLivesSpec.pre6 enc Try.prog Try.f9 Rows.letterLivesRow.domain false) (Rows.letterLivesSpec.post enc Try.prog Try.f9 false true false false) :=
  law_lift (s := Rows.letterLivesSpec) started (by kernel_rfl) Try.func9 rfl rfl (by kernel_rfl) (fun ds h => match ds, h with | [_], _ => rfl)
    (ChangeSpec.witness6 (enc := enc) (C := Try.checked) false ⟨#[], #[.slice none 0 0], []⟩ 8 (by kernel_rfl) (by kernel_rfl) (by kernel_rfl) (by kernel_rfl))
    (fun W base args ds p hval hA hsz => LetterLives_args H enc W base args ds p hval hA hsz)
theorem LetterLives_holds : Rows.LetterLivesSaid :=
  OpenClaim.holds_of_wide 9 Try.f9 rfl rfl rfl rfl rfl rfl rfl ⟨rfl, rfl, rfl, rfl, rfl⟩ rfl rfl rfl rfl rfl (by kernel_rfl) Try.func9 (by kernel_rfl)
    (of_decide_eq_true (by kernel_rfl)) (by unfold Func.isWrapper; first | (rw [if_pos (by decide +kernel)]; kernel_rfl) | (rw [if_neg (by decide +kernel)]; exact ⟨rfl, rfl⟩))
    (fun os started H enc _ => LetterLives_lifted os started H enc)
#print axioms LetterLives_holds
end Go.Proofs.Ytdbeinbgekdnmaa
