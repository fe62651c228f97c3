/-
  AttackScripts, as stated.
-/
import Derived.Test.YtjclgkddfjbdiaaGreatDoorR0AnScL
import Derived.Test.YtjclgkddfjbdiaaGreatDoorR0AnScF
set_option maxRecDepth 100000
set_option linter.unusedVariables false
namespace Go.Proofs.YtjclgkddfjbdiaaGreatDoor
open Go.ChangeShapes Go.WideShapes Go.ChangeAt Go.RowKit
theorem d5_ : Rows.AttackScriptsSaid :=
  OpenClaim.holds_of_wide 3 Tryz.f3 rfl rfl rfl rfl rfl rfl rfl ⟨rfl, rfl, rfl, rfl, rfl⟩ rfl rfl rfl rfl rfl dh_ Tryz.func3 c5_
    (of_decide_eq_true (by kernel_rfl)) (by unfold Func.isWrapper; first | (rw [if_pos (by decide +kernel)]; kernel_rfl) | (rw [if_neg (by decide +kernel)]; exact ⟨rfl, rfl⟩))
    (fun os started H enc _ => c3_ os started H enc)
end Go.Proofs.YtjclgkddfjbdiaaGreatDoor
