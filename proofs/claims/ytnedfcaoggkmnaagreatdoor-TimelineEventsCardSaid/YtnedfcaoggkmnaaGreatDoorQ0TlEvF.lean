/-
  TimelineEvents: what is closed about the program and the statement.
-/
import Derived.Test.YtnedfcaoggkmnaaGreatDoorQ01
set_option maxRecDepth 100000
namespace Go.Proofs.YtnedfcaoggkmnaaGreatDoor
open Go.ChangeShapes Go.WideShapes Go.ChangeAt
set_option maxHeartbeats 40000000 in
theorem TimelineEvents_closed : joinedFacts Tryz.prog 3 Tryz.f3 Rows.timelineEventsSpec Rows.timelineEventsRow = true := by
  unfold joinedFacts
  simp only [Bool.and_eq_true]
  and_intros
  all_goals (as_aux_lemma => kernel_rfl)
theorem TimelineEvents_named : Tryz.prog.funcNamed "bottomry/bottomrylaw42.TimelineEvents" = some 3 := by kernel_rfl
end Go.Proofs.YtnedfcaoggkmnaaGreatDoor
