/-
  The tie of this seat, a closed fact of it (each is a text of its own, so that none takes too much memory).
-/
import Derived.Test.YtjclgkddfjbdiaaGreatDoorR0OT1
set_option maxRecDepth 100000
namespace Go.Proofs.YtjclgkddfjbdiaaGreatDoor
open Go
theorem tw5 : (Tryz.prog.funcNamed "gosem.cut.vars").isSome = true := by kernel_rfl
end Go.Proofs.YtjclgkddfjbdiaaGreatDoor
