/-
  Packed out of the texts: AdReF.
-/
import Derived.Test.YtggajaigfkekhaaGreatP05
set_option maxRecDepth 100000
/-
  AdmitReal: what is closed about the program and the statement.
-/
namespace Go.Proofs.YtggajaigfkekhaaGreat
open Go.ChangeShapes Go.WideShapes Go.ChangeAt
set_option maxHeartbeats 40000000 in
theorem dN_ : joinedFacts Tryz.prog 3 Tryz.f3 Rows.admitRealSpec Rows.admitRealRow = true := by
  unfold joinedFacts
  simp only [Bool.and_eq_true]
  and_intros
  all_goals (as_aux_lemma => kernel_rfl)
theorem eD_ : Tryz.prog.funcNamed "bottomry/bottomrylaw27.AdmitReal" = some 3 := by kernel_rfl
end Go.Proofs.YtggajaigfkekhaaGreat
