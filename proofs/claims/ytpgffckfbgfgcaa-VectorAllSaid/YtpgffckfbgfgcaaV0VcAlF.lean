/-
  VectorAll: what is closed about the program and the statement.
-/
import Derived.Test.YtpgffckfbgfgcaaV013
set_option maxRecDepth 100000
namespace Go.Proofs.Ytpgffckfbgfgcaa
open Go.ChangeShapes Go.WideShapes Go.ChangeAt
set_option maxHeartbeats 40000000 in
theorem VectorAll_closed : joinedFacts Try.prog 14 Try.f14 Rows.vectorAllSpec Rows.vectorAllRow = true := by
  unfold joinedFacts
  simp only [Bool.and_eq_true]
  and_intros
  all_goals (as_aux_lemma => kernel_rfl)
theorem VectorAll_named : Try.prog.funcNamed "bottomry/bottomrylaw06.VectorAll" = some 14 := by kernel_rfl
end Go.Proofs.Ytpgffckfbgfgcaa
