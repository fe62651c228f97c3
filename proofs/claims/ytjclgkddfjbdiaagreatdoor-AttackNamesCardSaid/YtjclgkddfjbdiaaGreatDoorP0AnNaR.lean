/-
  AttackNames, as stated.
-/
import Derived.Test.YtjclgkddfjbdiaaGreatDoorP0AnNaL
import Derived.Test.YtjclgkddfjbdiaaGreatDoorP0AnNaF
set_option maxRecDepth 100000
set_option linter.unusedVariables false
namespace Go.Proofs.YtjclgkddfjbdiaaGreatDoor
open Go.ChangeShapes Go.WideShapes Go.ChangeAt Go.RowKit
theorem eB_ : Rows.AttackNamesSaid :=
  OpenClaim.holds_of_wide 4 Tryz.f4 rfl rfl rfl rfl rfl rfl rfl ⟨rfl, rfl, rfl, rfl, rfl⟩ rfl rfl rfl rfl rfl dx_ Tryz.func4 dd_
    (of_decide_eq_true (by kernel_rfl)) (by unfold Func.isWrapper; first | (rw [if_pos (by decide +kernel)]; kernel_rfl) | (rw [if_neg (by decide +kernel)]; exact ⟨rfl, rfl⟩))
    (fun os started H enc _ => db_ os started H enc)
end Go.Proofs.YtjclgkddfjbdiaaGreatDoor
