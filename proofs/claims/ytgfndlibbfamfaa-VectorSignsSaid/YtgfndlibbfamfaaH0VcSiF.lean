/-
  VectorSigns: what is closed about the program and the statement.
-/
import Derived.Test.YtgfndlibbfamfaaH05
set_option maxRecDepth 100000
namespace Go.Proofs.Ytgfndlibbfamfaa
open Go.ChangeShapes Go.WideShapes Go.ChangeAt
set_option maxHeartbeats 40000000 in
theorem VectorSigns_closed : joinedFacts Try.prog 3 Try.f3 Rows.vectorSignsSpec Rows.vectorSignsRow = true := by
  unfold joinedFacts
  simp only [Bool.and_eq_true]
  and_intros
  all_goals (as_aux_lemma => kernel_rfl)
theorem VectorSigns_named : Try.prog.funcNamed "bottomry/bottomrylaw06.VectorSigns" = some 3 := by kernel_rfl
end Go.Proofs.Ytgfndlibbfamfaa
