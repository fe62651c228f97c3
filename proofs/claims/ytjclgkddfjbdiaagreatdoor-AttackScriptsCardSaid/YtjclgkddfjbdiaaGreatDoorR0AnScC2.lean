/-
  AttackScripts: a closed fact about the program and the row (unfollowed).
-/
import Derived.Test.YtjclgkddfjbdiaaGreatDoorRows
import Derived.JoinedOf
import Derived.KernelRfl
set_option maxRecDepth 100000
namespace Go.Proofs.YtjclgkddfjbdiaaGreatDoor
open Go
theorem cf_ : (Rows.attackScriptsRow.unfollowed == Tryz.prog.unfollowed 3) = true := by kernel_rfl
end Go.Proofs.YtjclgkddfjbdiaaGreatDoor
