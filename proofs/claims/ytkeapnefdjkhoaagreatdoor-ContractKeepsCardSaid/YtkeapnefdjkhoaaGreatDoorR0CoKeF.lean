/-
  ContractKeeps: what is closed about the program and the statement.
-/
import Derived.Test.YtkeapnefdjkhoaaGreatDoorR01
set_option maxRecDepth 100000
namespace Go.Proofs.YtkeapnefdjkhoaaGreatDoor
open Go.ChangeShapes Go.WideShapes Go.ChangeAt
set_option maxHeartbeats 40000000 in
theorem ContractKeeps_closed : joinedFacts Tryz.prog 5 Tryz.f5 Rows.contractKeepsSpec Rows.contractKeepsRow = true := by
  unfold joinedFacts
  simp only [Bool.and_eq_true]
  and_intros
  all_goals (as_aux_lemma => kernel_rfl)
theorem ContractKeeps_named : Tryz.prog.funcNamed "bottomry/bottomrylaw14.ContractKeeps" = some 5 := by kernel_rfl
end Go.Proofs.YtkeapnefdjkhoaaGreatDoor
