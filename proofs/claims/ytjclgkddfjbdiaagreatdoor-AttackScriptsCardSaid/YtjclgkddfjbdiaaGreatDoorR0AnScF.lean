/-
  AttackScripts: what is closed about the program and the statement.
-/
import Derived.Test.YtjclgkddfjbdiaaGreatDoorR04
import Derived.Test.YtjclgkddfjbdiaaGreatDoorR0AnScC1
import Derived.Test.YtjclgkddfjbdiaaGreatDoorR0AnScC2
import Derived.Test.YtjclgkddfjbdiaaGreatDoorR0AnScC3
import Derived.Test.YtjclgkddfjbdiaaGreatDoorR0AnScC4
set_option maxRecDepth 100000
namespace Go.Proofs.YtjclgkddfjbdiaaGreatDoor
open Go.ChangeShapes Go.WideShapes Go.ChangeAt
set_option maxHeartbeats 40000000 in
theorem c5_ : joinedFacts Tryz.prog 3 Tryz.f3 Rows.attackScriptsSpec Rows.attackScriptsRow = true := by
  unfold joinedFacts
  simp only [Bool.and_eq_true]
  refine ⟨⟨⟨⟨⟨⟨⟨⟨⟨⟨⟨⟨⟨⟨⟨⟨⟨⟨⟨⟨⟨⟨⟨⟨⟨⟨⟨⟨⟨⟨⟨?_, ?_⟩, ?_⟩, ?_⟩, ?_⟩, ?_⟩, ?_⟩, ?_⟩, ?_⟩, cM_⟩, cf_⟩, cC_⟩, c4_⟩, ?_⟩, ?_⟩, ?_⟩, ?_⟩, ?_⟩, ?_⟩, ?_⟩, ?_⟩, ?_⟩, ?_⟩, ?_⟩, ?_⟩, ?_⟩, ?_⟩, ?_⟩, ?_⟩, ?_⟩, ?_⟩, ?_⟩
  all_goals (as_aux_lemma => kernel_rfl)
theorem dh_ : Tryz.prog.funcNamed "bottomry/bottomrylaw45.AttackScripts" = some 3 := by kernel_rfl
end Go.Proofs.YtjclgkddfjbdiaaGreatDoor
