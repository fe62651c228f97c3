/-
  BatchDigests: what is closed about the program and the statement.
-/
import Derived.Test.YtpgffckfbgfgcaaD011
set_option maxRecDepth 100000
namespace Go.Proofs.Ytpgffckfbgfgcaa
open Go.ChangeShapes Go.WideShapes Go.ChangeAt
set_option maxHeartbeats 40000000 in
theorem BatchDigests_closed : joinedFacts Try.prog 3 Try.f3 Rows.batchDigestsSpec Rows.batchDigestsRow = true := by
  unfold joinedFacts
  simp only [Bool.and_eq_true]
  and_intros
  all_goals (as_aux_lemma => kernel_rfl)
theorem BatchDigests_named : Try.prog.funcNamed "bottomry/bottomrylaw15.BatchDigests" = some 3 := by kernel_rfl
end Go.Proofs.Ytpgffckfbgfgcaa
