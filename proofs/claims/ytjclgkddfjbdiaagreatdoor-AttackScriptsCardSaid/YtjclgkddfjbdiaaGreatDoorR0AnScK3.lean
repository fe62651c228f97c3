/-
  AttackScripts: a closed fact about the card (bM_).
-/
import Derived.Test.YtjclgkddfjbdiaaGreatDoorCards
import Derived.SevenTiedAt
import Derived.KernelRfl
set_option maxRecDepth 100000
namespace Go.Proofs.YtjclgkddfjbdiaaGreatDoor
open Go
theorem bM_ : true = Tryz.pinned.checked.prog.looks [] := by kernel_rfl
end Go.Proofs.YtjclgkddfjbdiaaGreatDoor
