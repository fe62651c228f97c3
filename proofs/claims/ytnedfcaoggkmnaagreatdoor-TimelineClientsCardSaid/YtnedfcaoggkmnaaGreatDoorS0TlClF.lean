/-
  TimelineClients: what is closed about the program and the statement.
-/
import Derived.Test.YtnedfcaoggkmnaaGreatDoorS01
set_option maxRecDepth 100000
namespace Go.Proofs.YtnedfcaoggkmnaaGreatDoor
open Go.ChangeShapes Go.WideShapes Go.ChangeAt
set_option maxHeartbeats 40000000 in
theorem TimelineClients_closed : joinedFacts Tryz.prog 6 Tryz.f6 Rows.timelineClientsSpec Rows.timelineClientsRow = true := by
  unfold joinedFacts
  simp only [Bool.and_eq_true]
  and_intros
  all_goals (as_aux_lemma => kernel_rfl)
theorem TimelineClients_named : Tryz.prog.funcNamed "bottomry/bottomrylaw42.TimelineClients" = some 6 := by kernel_rfl
end Go.Proofs.YtnedfcaoggkmnaaGreatDoor
