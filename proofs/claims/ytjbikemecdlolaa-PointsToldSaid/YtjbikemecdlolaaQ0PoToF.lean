/-
  PointsTold: what is closed about the program and the statement.
-/
import Derived.Test.YtjbikemecdlolaaQ06
set_option maxRecDepth 100000
namespace Go.Proofs.Ytjbikemecdlolaa
open Go.ChangeShapes Go.WideShapes Go.ChangeAt
set_option maxHeartbeats 40000000 in
theorem PointsTold_closed : joinedFacts Try.prog 4 Try.f4 Rows.pointsToldSpec Rows.pointsToldRow = true := by
  unfold joinedFacts
  simp only [Bool.and_eq_true]
  and_intros
  all_goals (as_aux_lemma => kernel_rfl)
theorem PointsTold_named : Try.prog.funcNamed "bottomry/bottomrylaw23.PointsTold" = some 4 := by kernel_rfl
end Go.Proofs.Ytjbikemecdlolaa
