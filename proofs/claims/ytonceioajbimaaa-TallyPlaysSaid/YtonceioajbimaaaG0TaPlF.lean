/-
  TallyPlays: what is closed about the program and the statement.
-/
import Derived.Test.YtonceioajbimaaaG010
set_option maxRecDepth 100000
namespace Go.Proofs.Ytonceioajbimaaa
open Go.ChangeShapes Go.WideShapes Go.ChangeAt
set_option maxHeartbeats 40000000 in
theorem TallyPlays_closed : joinedFacts Try.prog 3 Try.f3 Rows.tallyPlaysSpec Rows.tallyPlaysRow = true := by
  unfold joinedFacts
  simp only [Bool.and_eq_true]
  and_intros
  all_goals (as_aux_lemma => kernel_rfl)
theorem TallyPlays_named : Try.prog.funcNamed "bottomry/bottomrylaw20.TallyPlays" = some 3 := by kernel_rfl
end Go.Proofs.Ytonceioajbimaaa
