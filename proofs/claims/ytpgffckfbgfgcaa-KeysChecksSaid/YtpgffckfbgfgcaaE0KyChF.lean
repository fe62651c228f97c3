/-
  KeysChecks: what is closed about the program and the statement.
-/
import Derived.Test.YtpgffckfbgfgcaaE010
set_option maxRecDepth 100000
namespace Go.Proofs.Ytpgffckfbgfgcaa
open Go.ChangeShapes Go.WideShapes Go.ChangeAt
set_option maxHeartbeats 40000000 in
theorem KeysChecks_closed : joinedFacts Try.prog 12 Try.f12 Rows.keysChecksSpec Rows.keysChecksRow = true := by
  unfold joinedFacts
  simp only [Bool.and_eq_true]
  and_intros
  all_goals (as_aux_lemma => kernel_rfl)
theorem KeysChecks_named : Try.prog.funcNamed "bottomry/bottomrylaw04.KeysChecks" = some 12 := by kernel_rfl
end Go.Proofs.Ytpgffckfbgfgcaa
