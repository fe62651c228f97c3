/-
  AttackNames: a closed fact about the card (bT_).
-/
import Derived.Test.YtjclgkddfjbdiaaGreatDoorCards
import Derived.SevenTiedAt
import Derived.KernelRfl
set_option maxRecDepth 100000
namespace Go.Proofs.YtjclgkddfjbdiaaGreatDoor
open Go
theorem bT_ : true = Tryz.pinned.checked.prog.looks [] := by kernel_rfl
end Go.Proofs.YtjclgkddfjbdiaaGreatDoor
