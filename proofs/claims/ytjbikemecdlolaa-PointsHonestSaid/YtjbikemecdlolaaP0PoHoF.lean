/-
  PointsHonest: what is closed about the program and the statement.
-/
import Derived.Test.YtjbikemecdlolaaP06
set_option maxRecDepth 100000
namespace Go.Proofs.Ytjbikemecdlolaa
open Go.ChangeShapes Go.WideShapes Go.ChangeAt
set_option maxHeartbeats 40000000 in
theorem PointsHonest_closed : joinedFacts Try.prog 3 Try.f3 Rows.pointsHonestSpec Rows.pointsHonestRow = true := by
  unfold joinedFacts
  simp only [Bool.and_eq_true]
  and_intros
  all_goals (as_aux_lemma => kernel_rfl)
theorem PointsHonest_named : Try.prog.funcNamed "bottomry/bottomrylaw23.PointsHonest" = some 3 := by kernel_rfl
end Go.Proofs.Ytjbikemecdlolaa
