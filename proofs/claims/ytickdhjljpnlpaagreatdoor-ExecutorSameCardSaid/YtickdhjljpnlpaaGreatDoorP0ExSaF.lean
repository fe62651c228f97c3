/-
  ExecutorSame: what is closed about the program and the statement.
-/
import Derived.Test.YtickdhjljpnlpaaGreatDoorP01
set_option maxRecDepth 100000
namespace Go.Proofs.YtickdhjljpnlpaaGreatDoor
open Go.ChangeShapes Go.WideShapes Go.ChangeAt
set_option maxHeartbeats 40000000 in
theorem ExecutorSame_closed : joinedFacts Tryz.prog 3 Tryz.f3 Rows.executorSameSpec Rows.executorSameRow = true := by
  unfold joinedFacts
  simp only [Bool.and_eq_true]
  and_intros
  all_goals (as_aux_lemma => kernel_rfl)
theorem ExecutorSame_named : Tryz.prog.funcNamed "bottomry/bottomrylaw29.ExecutorSame" = some 3 := by kernel_rfl
end Go.Proofs.YtickdhjljpnlpaaGreatDoor
