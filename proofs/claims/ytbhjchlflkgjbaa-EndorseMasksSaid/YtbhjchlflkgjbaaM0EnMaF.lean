/-
  EndorseMasks: what is closed about the program and the statement.
-/
import Derived.Test.YtbhjchlflkgjbaaM07
set_option maxRecDepth 100000
namespace Go.Proofs.Ytbhjchlflkgjbaa
open Go.ChangeShapes Go.WideShapes Go.ChangeAt
set_option maxHeartbeats 40000000 in
theorem EndorseMasks_closed : joinedFacts Try.prog 3 Try.f3 Rows.endorseMasksSpec Rows.endorseMasksRow = true := by
  unfold joinedFacts
  simp only [Bool.and_eq_true]
  and_intros
  all_goals (as_aux_lemma => kernel_rfl)
theorem EndorseMasks_named : Try.prog.funcNamed "bottomry/bottomrylaw13.EndorseMasks" = some 3 := by kernel_rfl
end Go.Proofs.Ytbhjchlflkgjbaa
