/-
  TallyNil: what is closed about the program and the statement.
-/
import Derived.Test.YtonceioajbimaaaJ07
set_option maxRecDepth 100000
namespace Go.Proofs.Ytonceioajbimaaa
open Go.ChangeShapes Go.WideShapes Go.ChangeAt
set_option maxHeartbeats 40000000 in
theorem TallyNil_closed : joinedFacts Try.prog 4 Try.f4 Rows.tallyNilSpec Rows.tallyNilRow = true := by
  unfold joinedFacts
  simp only [Bool.and_eq_true]
  and_intros
  all_goals (as_aux_lemma => kernel_rfl)
theorem TallyNil_named : Try.prog.funcNamed "bottomry/bottomrylaw20.TallyNil" = some 4 := by kernel_rfl
end Go.Proofs.Ytonceioajbimaaa
