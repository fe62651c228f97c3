/-
  EndorseWith: what is closed about the program and the statement.
-/
import Derived.Test.YtbhjchlflkgjbaaM17
import Derived.JoinedCond
set_option maxRecDepth 100000
namespace Go.Proofs.Ytbhjchlflkgjbaa
open Go.ChangeShapes Go.WideShapes Go.ChangeAt
set_option maxHeartbeats 40000000 in
theorem EndorseWith_closed : joinedFacts Try.prog 4 Try.f4 (Rows.OpenSpec.upto Rows.endorseWithSpec).bare Rows.endorseWithUptoRow = true := by
  unfold joinedFacts
  simp only [Bool.and_eq_true]
  and_intros
  all_goals (as_aux_lemma => kernel_rfl)
theorem EndorseWith_named : Try.prog.funcNamed "bottomry/bottomrylaw13.EndorseWith" = some 4 := by kernel_rfl
end Go.Proofs.Ytbhjchlflkgjbaa
