/-
  ChangeDigests: what is closed about the program and the statement.
-/
import Derived.Test.YtpgffckfbgfgcaaR13
set_option maxRecDepth 100000
namespace Go.Proofs.Ytpgffckfbgfgcaa
open Go.ChangeShapes Go.WideShapes Go.ChangeAt
set_option maxHeartbeats 40000000 in
theorem ChangeDigests_closed : joinedFacts Try.prog 6 Try.f6 Rows.changeDigestsSpec Rows.changeDigestsRow = true := by
  unfold joinedFacts
  simp only [Bool.and_eq_true]
  and_intros
  all_goals (as_aux_lemma => kernel_rfl)
theorem ChangeDigests_named : Try.prog.funcNamed "bottomry/bottomrylaw18.ChangeDigests" = some 6 := by kernel_rfl
end Go.Proofs.Ytpgffckfbgfgcaa
