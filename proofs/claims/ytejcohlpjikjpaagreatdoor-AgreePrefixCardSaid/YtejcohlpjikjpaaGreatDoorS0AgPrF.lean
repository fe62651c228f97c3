/-
  AgreePrefix: what is closed about the program and the statement.
-/
import Derived.Test.YtejcohlpjikjpaaGreatDoorS01
set_option maxRecDepth 100000
namespace Go.Proofs.YtejcohlpjikjpaaGreatDoor
open Go.ChangeShapes Go.WideShapes Go.ChangeAt
set_option maxHeartbeats 40000000 in
theorem AgreePrefix_closed : joinedFacts Tryz.prog 6 Tryz.f6 Rows.agreePrefixSpec Rows.agreePrefixRow = true := by
  unfold joinedFacts
  simp only [Bool.and_eq_true]
  and_intros
  all_goals (as_aux_lemma => kernel_rfl)
theorem AgreePrefix_named : Tryz.prog.funcNamed "bottomry/bottomrylaw34.AgreePrefix" = some 6 := by kernel_rfl
end Go.Proofs.YtejcohlpjikjpaaGreatDoor
