/-
  Packed out of the texts: ExPlF.
-/
import Derived.Test.YtickdhjljpnlpaaGreatDoorR04
set_option maxRecDepth 100000
/-
  ExecutorPlays: what is closed about the program and the statement.
-/
namespace Go.Proofs.YtickdhjljpnlpaaGreatDoor
open Go.ChangeShapes Go.WideShapes Go.ChangeAt
set_option maxHeartbeats 40000000 in
theorem cZ_ : joinedFacts Tryz.prog 5 Tryz.f5 Rows.executorPlaysSpec Rows.executorPlaysRow = true := by
  unfold joinedFacts
  simp only [Bool.and_eq_true]
  and_intros
  all_goals (as_aux_lemma => kernel_rfl)
theorem df_ : Tryz.prog.funcNamed "bottomry/bottomrylaw29.ExecutorPlays" = some 5 := by kernel_rfl
end Go.Proofs.YtickdhjljpnlpaaGreatDoor
