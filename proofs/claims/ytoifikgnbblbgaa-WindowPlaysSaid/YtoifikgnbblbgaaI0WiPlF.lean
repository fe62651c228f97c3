/-
  WindowPlays: what is closed about the program and the statement.
-/
import Derived.Test.YtoifikgnbblbgaaI09
set_option maxRecDepth 100000
namespace Go.Proofs.Ytoifikgnbblbgaa
open Go.ChangeShapes Go.WideShapes Go.ChangeAt
set_option maxHeartbeats 40000000 in
theorem WindowPlays_closed : joinedFacts Try.prog 4 Try.f4 Rows.windowPlaysSpec Rows.windowPlaysRow = true := by
  unfold joinedFacts
  simp only [Bool.and_eq_true]
  and_intros
  all_goals (as_aux_lemma => kernel_rfl)
theorem WindowPlays_named : Try.prog.funcNamed "bottomry/bottomrylaw22.WindowPlays" = some 4 := by kernel_rfl
end Go.Proofs.Ytoifikgnbblbgaa
