/-
  AttackNames: a closed fact about the program and the row (recurses).
-/
import Derived.Test.YtjclgkddfjbdiaaGreatDoorRows
import Derived.JoinedOf
import Derived.KernelRfl
set_option maxRecDepth 100000
namespace Go.Proofs.YtjclgkddfjbdiaaGreatDoor
open Go
theorem cx_ : (Rows.attackNamesRow.recurses == Tryz.prog.recurses 4) = true := by kernel_rfl
end Go.Proofs.YtjclgkddfjbdiaaGreatDoor
