/-
  AgreeBoth: what is closed about the program and the statement.
-/
import Derived.Test.YtejcohlpjikjpaaGreatDoorR01
set_option maxRecDepth 100000
namespace Go.Proofs.YtejcohlpjikjpaaGreatDoor
open Go.ChangeShapes Go.WideShapes Go.ChangeAt
set_option maxHeartbeats 40000000 in
theorem AgreeBoth_closed : joinedFacts Tryz.prog 5 Tryz.f5 Rows.agreeBothSpec Rows.agreeBothRow = true := by
  unfold joinedFacts
  simp only [Bool.and_eq_true]
  and_intros
  all_goals (as_aux_lemma => kernel_rfl)
theorem AgreeBoth_named : Tryz.prog.funcNamed "bottomry/bottomrylaw34.AgreeBoth" = some 5 := by kernel_rfl
end Go.Proofs.YtejcohlpjikjpaaGreatDoor
