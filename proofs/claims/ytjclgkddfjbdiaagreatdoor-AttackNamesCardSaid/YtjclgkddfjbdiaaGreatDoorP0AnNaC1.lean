/-
  AttackNames: a closed fact about the program and the row (inPlace).
-/
import Derived.Test.YtjclgkddfjbdiaaGreatDoorRows
import Derived.JoinedOf
import Derived.KernelRfl
set_option maxRecDepth 100000
namespace Go.Proofs.YtjclgkddfjbdiaaGreatDoor
open Go
theorem cK_ : (Rows.attackNamesRow.inPlace == Tryz.prog.inPlace 4) = true := by kernel_rfl
end Go.Proofs.YtjclgkddfjbdiaaGreatDoor
