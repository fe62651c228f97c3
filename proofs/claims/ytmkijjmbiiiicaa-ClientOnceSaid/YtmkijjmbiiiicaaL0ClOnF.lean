/-
  ClientOnce: what is closed about the program and the statement.
-/
import Derived.Test.YtmkijjmbiiiicaaL05
set_option maxRecDepth 100000
namespace Go.Proofs.Ytmkijjmbiiiicaa
open Go.ChangeShapes Go.WideShapes Go.ChangeAt
set_option maxHeartbeats 40000000 in
theorem ClientOnce_closed : joinedFacts Try.prog 5 Try.f5 Rows.clientOnceSpec Rows.clientOnceRow = true := by
  unfold joinedFacts
  simp only [Bool.and_eq_true]
  and_intros
  all_goals (as_aux_lemma => kernel_rfl)
theorem ClientOnce_named : Try.prog.funcNamed "bottomry/bottomrylaw31.ClientOnce" = some 5 := by kernel_rfl
end Go.Proofs.Ytmkijjmbiiiicaa
