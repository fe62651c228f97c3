/-
  TermsPrints: what is closed about the program and the statement.
-/
import Derived.Test.YthaahcdfnmfihaaDoorS01
set_option maxRecDepth 100000
namespace Go.Proofs.YthaahcdfnmfihaaDoor
open Go.ChangeShapes Go.WideShapes Go.ChangeAt
set_option maxHeartbeats 40000000 in
theorem TermsPrints_closed : joinedFacts Tryd.prog 4 Tryd.f4 Rows.termsPrintsSpec Rows.termsPrintsRow = true := by
  unfold joinedFacts
  simp only [Bool.and_eq_true]
  and_intros
  all_goals (as_aux_lemma => kernel_rfl)
theorem TermsPrints_named : Tryd.prog.funcNamed "bottomry/bottomrylaw09.TermsPrints" = some 4 := by kernel_rfl
end Go.Proofs.YthaahcdfnmfihaaDoor
