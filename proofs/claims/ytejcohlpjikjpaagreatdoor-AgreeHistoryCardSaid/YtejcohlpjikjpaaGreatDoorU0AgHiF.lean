/-
  AgreeHistory: what is closed about the program and the statement.
-/
import Derived.Test.YtejcohlpjikjpaaGreatDoorU01
set_option maxRecDepth 100000
namespace Go.Proofs.YtejcohlpjikjpaaGreatDoor
open Go.ChangeShapes Go.WideShapes Go.ChangeAt
set_option maxHeartbeats 40000000 in
theorem AgreeHistory_closed : joinedFacts Tryz.prog 4 Tryz.f4 Rows.agreeHistorySpec Rows.agreeHistoryRow = true := by
  unfold joinedFacts
  simp only [Bool.and_eq_true]
  and_intros
  all_goals (as_aux_lemma => kernel_rfl)
theorem AgreeHistory_named : Tryz.prog.funcNamed "bottomry/bottomrylaw34.AgreeHistory" = some 4 := by kernel_rfl
end Go.Proofs.YtejcohlpjikjpaaGreatDoor
