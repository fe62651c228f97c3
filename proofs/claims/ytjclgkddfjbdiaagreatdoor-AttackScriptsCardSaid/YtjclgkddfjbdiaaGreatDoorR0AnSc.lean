/-
  AttackScripts: its card, as stated.
-/
import Derived.Test.YtjclgkddfjbdiaaGreatDoorR0AnScK1
import Derived.Test.YtjclgkddfjbdiaaGreatDoorR0AnScK2
import Derived.Test.YtjclgkddfjbdiaaGreatDoorR0AnScK3
import Derived.Test.YtjclgkddfjbdiaaGreatDoorR0NoGo
import Derived.Test.YtjclgkddfjbdiaaGreatDoorR0AnScR
import Derived.Test.YtjclgkddfjbdiaaGreatDoorR0OT
set_option maxRecDepth 100000
set_option linter.unusedVariables false
namespace Go.Proofs.YtjclgkddfjbdiaaGreatDoor
open Go.ChangeShapes Go.WideShapes Go.ChangeAt Go.RowKit
theorem AttackScriptsCard_holds : Rows.AttackScriptsCardSaid :=
  Claim7.holds_tied_plain_at .later [] [.pinned, .data, .sentinel, .sentinel, .data, .data, .data] true (true, "e7c109d0fd492ae8eb5bb9594a5ad814c4a8d1b1557b1eca4539f8450ee96727") true
    d5_ (fun _ h => by cases h) cz_ (fun _ h => by cases h) cH_ rfl ⟨rfl, rfl⟩ bZ_ rfl
    (fun f fn hf hfn => by
      obtain rfl : f = 3 := Option.some.inj (dh_.symm.trans hf) |>.symm
      obtain rfl : fn = Tryz.f3 := (Option.some.inj (Tryz.func3.symm.trans hfn)).symm
      exact ⟨bM_, fun j t ht => by
        rw [Tryz.params3] at ht
        have h3 : t = 3 ∨ t = 24 ∨ t = 26 ∨ t = 27 ∨ t = 3 := by
          rcases j with _ | _ | _ | _ | _ | j
          · exact .inl (Option.some.inj ht).symm
          · exact .inr (.inl (Option.some.inj ht).symm)
          · exact .inr (.inr (.inl (Option.some.inj ht).symm))
          · exact .inr (.inr (.inr (.inl (Option.some.inj ht).symm)))
          · exact .inr (.inr (.inr (.inr ((Option.some.inj ht).symm))))
          · simp at ht
        rcases h3 with rfl | rfl | rfl | rfl | rfl
        · exact (show Tryz.prog.wantsStandIn 3 = false by kernel_rfl)
        · exact (show Tryz.prog.wantsStandIn 24 = false by kernel_rfl)
        · exact (show Tryz.prog.wantsStandIn 26 = false by kernel_rfl)
        · exact (show Tryz.prog.wantsStandIn 27 = false by kernel_rfl)
        · exact (show Tryz.prog.wantsStandIn 3 = false by kernel_rfl)⟩)
    (jk_ no_goes rfl)
#print axioms AttackScriptsCard_holds
end Go.Proofs.YtjclgkddfjbdiaaGreatDoor
