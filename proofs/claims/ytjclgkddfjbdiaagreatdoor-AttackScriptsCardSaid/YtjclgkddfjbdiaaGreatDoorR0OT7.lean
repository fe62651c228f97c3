/-
  The tie of this seat, a closed fact of it (each is a text of its own, so that none takes too much memory).
-/
import Derived.Test.YtjclgkddfjbdiaaGreatDoorR0OT1
set_option maxRecDepth 100000
namespace Go.Proofs.YtjclgkddfjbdiaaGreatDoor
open Go
theorem tw7 : ∀ os tape, doorLeaves Tryz.prog 400 8 1000 tieL os tape = some (tieL.filter fun x => x.2.handleName?.isNone, (funcsListed tieL).map (·.2.funcsOut)) := fun _ _ => by kernel_rfl
end Go.Proofs.YtjclgkddfjbdiaaGreatDoor
