/-
  ClientPlays: what is closed about the program and the statement.
-/
import Derived.Test.YtmkijjmbiiiicaaP04
set_option maxRecDepth 100000
namespace Go.Proofs.Ytmkijjmbiiiicaa
open Go.ChangeShapes Go.WideShapes Go.ChangeAt
set_option maxHeartbeats 40000000 in
theorem ClientPlays_closed : joinedFacts Try.prog 3 Try.f3 Rows.clientPlaysSpec Rows.clientPlaysRow = true := by
  unfold joinedFacts
  simp only [Bool.and_eq_true]
  and_intros
  all_goals (as_aux_lemma => kernel_rfl)
theorem ClientPlays_named : Try.prog.funcNamed "bottomry/bottomrylaw31.ClientPlays" = some 3 := by kernel_rfl
end Go.Proofs.Ytmkijjmbiiiicaa
