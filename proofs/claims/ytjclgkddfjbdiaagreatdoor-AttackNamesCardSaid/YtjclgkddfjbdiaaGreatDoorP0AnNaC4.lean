/-
  AttackNames: a closed fact about the program and the row (cnamed).
-/
import Derived.Test.YtjclgkddfjbdiaaGreatDoorRows
import Derived.JoinedOf
import Derived.KernelRfl
set_option maxRecDepth 100000
namespace Go.Proofs.YtjclgkddfjbdiaaGreatDoor
open Go
theorem dc_ : (Rows.attackNamesRow.named == Tryz.prog.varsNamed 4) = true := by kernel_rfl
end Go.Proofs.YtjclgkddfjbdiaaGreatDoor
