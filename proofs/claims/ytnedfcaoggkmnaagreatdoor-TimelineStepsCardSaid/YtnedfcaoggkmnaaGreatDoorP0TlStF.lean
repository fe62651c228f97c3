/-
  TimelineSteps: what is closed about the program and the statement.
-/
import Derived.Test.YtnedfcaoggkmnaaGreatDoorP01
set_option maxRecDepth 100000
namespace Go.Proofs.YtnedfcaoggkmnaaGreatDoor
open Go.ChangeShapes Go.WideShapes Go.ChangeAt
set_option maxHeartbeats 40000000 in
theorem TimelineSteps_closed : joinedFacts Tryz.prog 5 Tryz.f5 Rows.timelineStepsSpec Rows.timelineStepsRow = true := by
  unfold joinedFacts
  simp only [Bool.and_eq_true]
  and_intros
  all_goals (as_aux_lemma => kernel_rfl)
theorem TimelineSteps_named : Tryz.prog.funcNamed "bottomry/bottomrylaw42.TimelineSteps" = some 5 := by kernel_rfl
end Go.Proofs.YtnedfcaoggkmnaaGreatDoor
