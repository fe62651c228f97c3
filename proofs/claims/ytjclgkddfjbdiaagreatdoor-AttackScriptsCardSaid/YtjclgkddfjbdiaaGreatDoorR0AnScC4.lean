/-
  AttackScripts: a closed fact about the program and the row (cnamed).
-/
import Derived.Test.YtjclgkddfjbdiaaGreatDoorRows
import Derived.JoinedOf
import Derived.KernelRfl
set_option maxRecDepth 100000
namespace Go.Proofs.YtjclgkddfjbdiaaGreatDoor
open Go
theorem c4_ : (Rows.attackScriptsRow.named == Tryz.prog.varsNamed 3) = true := by kernel_rfl
end Go.Proofs.YtjclgkddfjbdiaaGreatDoor
