/-
  AttackNames: what is closed about the program and the statement.
-/
import Derived.Test.YtjclgkddfjbdiaaGreatDoorP04
import Derived.Test.YtjclgkddfjbdiaaGreatDoorP0AnNaC1
import Derived.Test.YtjclgkddfjbdiaaGreatDoorP0AnNaC2
import Derived.Test.YtjclgkddfjbdiaaGreatDoorP0AnNaC3
import Derived.Test.YtjclgkddfjbdiaaGreatDoorP0AnNaC4
set_option maxRecDepth 100000
namespace Go.Proofs.YtjclgkddfjbdiaaGreatDoor
open Go.ChangeShapes Go.WideShapes Go.ChangeAt
set_option maxHeartbeats 40000000 in
theorem dd_ : joinedFacts Tryz.prog 4 Tryz.f4 Rows.attackNamesSpec Rows.attackNamesRow = true := by
  unfold joinedFacts
  simp only [Bool.and_eq_true]
  refine ⟨⟨⟨⟨⟨⟨⟨⟨⟨⟨⟨⟨⟨⟨⟨⟨⟨⟨⟨⟨⟨⟨⟨⟨⟨⟨⟨⟨⟨⟨⟨?_, ?_⟩, ?_⟩, ?_⟩, ?_⟩, ?_⟩, ?_⟩, ?_⟩, ?_⟩, cK_⟩, b9_⟩, cx_⟩, dc_⟩, ?_⟩, ?_⟩, ?_⟩, ?_⟩, ?_⟩, ?_⟩, ?_⟩, ?_⟩, ?_⟩, ?_⟩, ?_⟩, ?_⟩, ?_⟩, ?_⟩, ?_⟩, ?_⟩, ?_⟩, ?_⟩, ?_⟩
  all_goals (as_aux_lemma => kernel_rfl)
theorem dx_ : Tryz.prog.funcNamed "bottomry/bottomrylaw45.AttackNames" = some 4 := by kernel_rfl
end Go.Proofs.YtjclgkddfjbdiaaGreatDoor
