/-
  KeysTells: what is closed about the program and the statement.
-/
import Derived.Test.YtpgffckfbgfgcaaE010
set_option maxRecDepth 100000
namespace Go.Proofs.Ytpgffckfbgfgcaa
open Go.ChangeShapes Go.WideShapes Go.ChangeAt
set_option maxHeartbeats 40000000 in
theorem KeysTells_closed : joinedFacts Try.prog 11 Try.f11 Rows.keysTellsSpec Rows.keysTellsRow = true := by
  unfold joinedFacts
  simp only [Bool.and_eq_true]
  and_intros
  all_goals (as_aux_lemma => kernel_rfl)
theorem KeysTells_named : Try.prog.funcNamed "bottomry/bottomrylaw04.KeysTells" = some 11 := by kernel_rfl
end Go.Proofs.Ytpgffckfbgfgcaa
