/-
  WatchLooks: what is closed about the program and the statement.
-/
import Derived.Test.YtiaeochlepkleaaW07
set_option maxRecDepth 100000
namespace Go.Proofs.Ytiaeochlepkleaa
open Go.ChangeShapes Go.WideShapes Go.ChangeAt
set_option maxHeartbeats 40000000 in
theorem WatchLooks_closed : joinedFacts Try.prog 3 Try.f3 Rows.watchLooksSpec Rows.watchLooksRow = true := by
  unfold joinedFacts
  simp only [Bool.and_eq_true]
  and_intros
  all_goals (as_aux_lemma => kernel_rfl)
theorem WatchLooks_named : Try.prog.funcNamed "bottomry/bottomrylaw44.WatchLooks" = some 3 := by kernel_rfl
end Go.Proofs.Ytiaeochlepkleaa
