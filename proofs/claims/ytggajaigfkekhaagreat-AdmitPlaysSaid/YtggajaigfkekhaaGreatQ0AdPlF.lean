/-
  Packed out of the texts: AdPlF.
-/
import Derived.Test.YtggajaigfkekhaaGreatQ07
set_option maxRecDepth 100000
/-
  AdmitPlays: what is closed about the program and the statement.
-/
namespace Go.Proofs.YtggajaigfkekhaaGreat
open Go.ChangeShapes Go.WideShapes Go.ChangeAt
set_option maxHeartbeats 40000000 in
theorem eg_ : joinedFacts Tryz.prog 4 Tryz.f4 Rows.admitPlaysSpec Rows.admitPlaysRow = true := by
  unfold joinedFacts
  simp only [Bool.and_eq_true]
  and_intros
  all_goals (as_aux_lemma => kernel_rfl)
theorem ev_ : Tryz.prog.funcNamed "bottomry/bottomrylaw27.AdmitPlays" = some 4 := by kernel_rfl
end Go.Proofs.YtggajaigfkekhaaGreat
