/-
  BookPlays: what is closed about the program and the statement.
-/
import Derived.Test.YtpgffckfbgfgcaaP13
set_option maxRecDepth 100000
namespace Go.Proofs.Ytpgffckfbgfgcaa
open Go.ChangeShapes Go.WideShapes Go.ChangeAt
set_option maxHeartbeats 40000000 in
theorem BookPlays_closed : joinedFacts Try.prog 13 Try.f13 Rows.bookPlaysSpec Rows.bookPlaysRow = true := by
  unfold joinedFacts
  simp only [Bool.and_eq_true]
  and_intros
  all_goals (as_aux_lemma => kernel_rfl)
theorem BookPlays_named : Try.prog.funcNamed "bottomry/bottomrylaw05.BookPlays" = some 13 := by kernel_rfl
end Go.Proofs.Ytpgffckfbgfgcaa
