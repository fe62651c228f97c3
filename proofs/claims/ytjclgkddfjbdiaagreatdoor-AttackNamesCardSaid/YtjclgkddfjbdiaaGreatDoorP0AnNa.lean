/-
  AttackNames: its card, as stated.
-/
import Derived.Test.YtjclgkddfjbdiaaGreatDoorP0AnNaK1
import Derived.Test.YtjclgkddfjbdiaaGreatDoorP0AnNaK2
import Derived.Test.YtjclgkddfjbdiaaGreatDoorP0AnNaK3
import Derived.Test.YtjclgkddfjbdiaaGreatDoorP0NoGo
import Derived.Test.YtjclgkddfjbdiaaGreatDoorP0AnNaR
import Derived.Test.YtjclgkddfjbdiaaGreatDoorP0OT
set_option maxRecDepth 100000
set_option linter.unusedVariables false
namespace Go.Proofs.YtjclgkddfjbdiaaGreatDoor
open Go.ChangeShapes Go.WideShapes Go.ChangeAt Go.RowKit
theorem AttackNamesCard_holds : Rows.AttackNamesCardSaid :=
  Claim7.holds_tied_plain_at .later [] [.pinned, .data, .sentinel, .sentinel, .data, .data, .data] true (true, "e7c109d0fd492ae8eb5bb9594a5ad814c4a8d1b1557b1eca4539f8450ee96727") true
    eB_ (fun _ h => by cases h) cz_ (fun _ h => by cases h) cH_ rfl ⟨rfl, rfl⟩ b6_ rfl
    (fun f fn hf hfn => by
      obtain rfl : f = 4 := Option.some.inj (dx_.symm.trans hf) |>.symm
      obtain rfl : fn = Tryz.f4 := (Option.some.inj (Tryz.func4.symm.trans hfn)).symm
      exact ⟨bT_, fun j t ht => by
        rw [Tryz.params4] at ht
        have h3 : t = 3 := by
          rcases j with _ | j
          · exact (Option.some.inj ht).symm
          · simp at ht
        rcases h3 with rfl
        · exact (show Tryz.prog.wantsStandIn 3 = false by kernel_rfl)⟩)
    (h1_ no_goes rfl)
#print axioms AttackNamesCard_holds
end Go.Proofs.YtjclgkddfjbdiaaGreatDoor
