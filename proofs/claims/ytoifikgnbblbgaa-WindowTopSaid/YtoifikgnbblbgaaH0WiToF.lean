/-
  WindowTop: what is closed about the program and the statement.
-/
import Derived.Test.YtoifikgnbblbgaaH06
set_option maxRecDepth 100000
namespace Go.Proofs.Ytoifikgnbblbgaa
open Go.ChangeShapes Go.WideShapes Go.ChangeAt
set_option maxHeartbeats 40000000 in
theorem WindowTop_closed : joinedFacts Try.prog 3 Try.f3 Rows.windowTopSpec Rows.windowTopRow = true := by
  unfold joinedFacts
  simp only [Bool.and_eq_true]
  and_intros
  all_goals (as_aux_lemma => kernel_rfl)
theorem WindowTop_named : Try.prog.funcNamed "bottomry/bottomrylaw22.WindowTop" = some 3 := by kernel_rfl
end Go.Proofs.Ytoifikgnbblbgaa
