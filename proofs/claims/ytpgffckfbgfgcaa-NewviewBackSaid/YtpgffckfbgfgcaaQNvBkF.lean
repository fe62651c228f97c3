/-
  NewviewBack: what is closed about the program and the statement.
-/
import Derived.Test.YtpgffckfbgfgcaaQ13
set_option maxRecDepth 100000
namespace Go.Proofs.Ytpgffckfbgfgcaa
open Go.ChangeShapes Go.WideShapes Go.ChangeAt
set_option maxHeartbeats 40000000 in
theorem NewviewBack_closed : joinedFacts Try.prog 4 Try.f4 Rows.newviewBackSpec Rows.newviewBackRow = true := by
  unfold joinedFacts
  simp only [Bool.and_eq_true]
  and_intros
  all_goals (as_aux_lemma => kernel_rfl)
theorem NewviewBack_named : Try.prog.funcNamed "bottomry/bottomrylaw19.NewviewBack" = some 4 := by kernel_rfl
end Go.Proofs.Ytpgffckfbgfgcaa
