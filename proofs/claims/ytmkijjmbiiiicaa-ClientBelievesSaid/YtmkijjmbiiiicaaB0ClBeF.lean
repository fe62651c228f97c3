/-
  ClientBelieves: what is closed about the program and the statement.
-/
import Derived.Test.YtmkijjmbiiiicaaB04
set_option maxRecDepth 100000
namespace Go.Proofs.Ytmkijjmbiiiicaa
open Go.ChangeShapes Go.WideShapes Go.ChangeAt
set_option maxHeartbeats 40000000 in
theorem ClientBelieves_closed : joinedFacts Try.prog 4 Try.f4 Rows.clientBelievesSpec Rows.clientBelievesRow = true := by
  unfold joinedFacts
  simp only [Bool.and_eq_true]
  and_intros
  all_goals (as_aux_lemma => kernel_rfl)
theorem ClientBelieves_named : Try.prog.funcNamed "bottomry/bottomrylaw31.ClientBelieves" = some 4 := by kernel_rfl
end Go.Proofs.Ytmkijjmbiiiicaa
