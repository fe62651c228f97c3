/-
  AgreeTells: what is closed about the program and the statement.
-/
import Derived.Test.YtejcohlpjikjpaaGreatDoorP01
set_option maxRecDepth 100000
namespace Go.Proofs.YtejcohlpjikjpaaGreatDoor
open Go.ChangeShapes Go.WideShapes Go.ChangeAt
set_option maxHeartbeats 40000000 in
theorem AgreeTells_closed : joinedFacts Tryz.prog 3 Tryz.f3 Rows.agreeTellsSpec Rows.agreeTellsRow = true := by
  unfold joinedFacts
  simp only [Bool.and_eq_true]
  and_intros
  all_goals (as_aux_lemma => kernel_rfl)
theorem AgreeTells_named : Tryz.prog.funcNamed "bottomry/bottomrylaw34.AgreeTells" = some 3 := by kernel_rfl
end Go.Proofs.YtejcohlpjikjpaaGreatDoor
