/-
  PointsPlays: what is closed about the program and the statement.
-/
import Derived.Test.YtjbikemecdlolaaR07
set_option maxRecDepth 100000
namespace Go.Proofs.Ytjbikemecdlolaa
open Go.ChangeShapes Go.WideShapes Go.ChangeAt
set_option maxHeartbeats 40000000 in
theorem PointsPlays_closed : joinedFacts Try.prog 5 Try.f5 Rows.pointsPlaysSpec Rows.pointsPlaysRow = true := by
  unfold joinedFacts
  simp only [Bool.and_eq_true]
  and_intros
  all_goals (as_aux_lemma => kernel_rfl)
theorem PointsPlays_named : Try.prog.funcNamed "bottomry/bottomrylaw23.PointsPlays" = some 5 := by kernel_rfl
end Go.Proofs.Ytjbikemecdlolaa
