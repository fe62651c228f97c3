/-
  Packed out of the texts: ExFoF.
-/
import Derived.Test.YtickdhjljpnlpaaGreatDoorQ04
set_option maxRecDepth 100000
/-
  ExecutorFolds: what is closed about the program and the statement.
-/
namespace Go.Proofs.YtickdhjljpnlpaaGreatDoor
open Go.ChangeShapes Go.WideShapes Go.ChangeAt
set_option maxHeartbeats 40000000 in
theorem cH_ : joinedFacts Tryz.prog 4 Tryz.f4 Rows.executorFoldsSpec Rows.executorFoldsRow = true := by
  unfold joinedFacts
  simp only [Bool.and_eq_true]
  and_intros
  all_goals (as_aux_lemma => kernel_rfl)
theorem cZ_ : Tryz.prog.funcNamed "bottomry/bottomrylaw29.ExecutorFolds" = some 4 := by kernel_rfl
end Go.Proofs.YtickdhjljpnlpaaGreatDoor
