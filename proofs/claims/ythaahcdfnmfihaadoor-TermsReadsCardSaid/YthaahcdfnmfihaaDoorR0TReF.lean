/-
  TermsReads: what is closed about the program and the statement.
-/
import Derived.Test.YthaahcdfnmfihaaDoorR01
set_option maxRecDepth 100000
namespace Go.Proofs.YthaahcdfnmfihaaDoor
open Go.ChangeShapes Go.WideShapes Go.ChangeAt
set_option maxHeartbeats 40000000 in
theorem TermsReads_closed : joinedFacts Tryd.prog 3 Tryd.f3 Rows.termsReadsSpec Rows.termsReadsRow = true := by
  unfold joinedFacts
  simp only [Bool.and_eq_true]
  and_intros
  all_goals (as_aux_lemma => kernel_rfl)
theorem TermsReads_named : Tryd.prog.funcNamed "bottomry/bottomrylaw09.TermsReads" = some 3 := by kernel_rfl
end Go.Proofs.YthaahcdfnmfihaaDoor
