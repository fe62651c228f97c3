/-
  AttackScripts: a closed fact about the card (cz_).
-/
import Derived.Test.YtjclgkddfjbdiaaGreatDoorCards
import Derived.SevenTiedAt
import Derived.KernelRfl
set_option maxRecDepth 100000
namespace Go.Proofs.YtjclgkddfjbdiaaGreatDoor
open Go
theorem cz_ : Rows.attackScriptsRow.wfByText (OpenSpec.ofChange Rows.attackScriptsSpec) = true := by kernel_rfl
end Go.Proofs.YtjclgkddfjbdiaaGreatDoor
