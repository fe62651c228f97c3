/-
  AttackScripts: a closed fact about the card (bZ_).
-/
import Derived.Test.YtjclgkddfjbdiaaGreatDoorCards
import Derived.SevenTiedAt
import Derived.KernelRfl
set_option maxRecDepth 100000
namespace Go.Proofs.YtjclgkddfjbdiaaGreatDoor
open Go
theorem bZ_ : Tryz.pinned.checked.prog.mainIs = some (true, "e7c109d0fd492ae8eb5bb9594a5ad814c4a8d1b1557b1eca4539f8450ee96727".toList) := by kernel_rfl
end Go.Proofs.YtjclgkddfjbdiaaGreatDoor
