/-
  TermsBlanks: what is closed about the program and the statement.
-/
import Derived.Test.YthaahcdfnmfihaaDoorU01
set_option maxRecDepth 100000
namespace Go.Proofs.YthaahcdfnmfihaaDoor
open Go.ChangeShapes Go.WideShapes Go.ChangeAt
set_option maxHeartbeats 40000000 in
theorem TermsBlanks_closed : joinedFacts Tryd.prog 5 Tryd.f5 Rows.termsBlanksSpec Rows.termsBlanksRow = true := by
  unfold joinedFacts
  simp only [Bool.and_eq_true]
  and_intros
  all_goals (as_aux_lemma => kernel_rfl)
theorem TermsBlanks_named : Tryd.prog.funcNamed "bottomry/bottomrylaw09.TermsBlanks" = some 5 := by kernel_rfl
end Go.Proofs.YthaahcdfnmfihaaDoor
