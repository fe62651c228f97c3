/-
  Packed out of the texts: ExFo.
-/
import Derived.Test.YtickdhjljpnlpaaGreatDoorQ012
import Derived.Test.YtickdhjljpnlpaaGreatDoorQ0ExFoF
import Derived.Test.YtickdhjljpnlpaaGreatDoorCards
import Derived.ChangeMaps5
set_option maxRecDepth 100000
set_option linter.unusedVariables false
/-
  ExecutorFolds, as stated; its card.
-/
namespace Go.Proofs.YtickdhjljpnlpaaGreatDoor
open Go.ChangeShapes Go.WideShapes Go.ChangeAt Go.RowKit
theorem dl_ {H : Type} (enc : TypeId × Value → H) (W : World) (base : Nat) (args : Array Value) (ds : List (DataW H)) (p : List MemPlace)
    (hval : ∀ (j : Nat) t v, Tryz.f4.params[j]? = some t → args[j]? = some v → Value.okWide Tryz.prog W .any base t v)
    (hA : DataW.TrodAll enc Tryz.prog W 0 (fun _ => true) true Tryz.f4.params.toList args.toList ds p) (hL : laidMetH Tryz.prog laidL W) :
    Calls Tryz.prog 4 args W fun e W' => e = .returned (.bool true) ∧ Ext [] W W' := by
  rw [Tryz.params4] at hA hval
  obtain ⟨v0, vs0, d0, ds0, p0, s0, hargs, rfl, rfl, h0, t0⟩ := trodAll_cons hA
  obtain ⟨rfl, rfl, rfl⟩ := trodAll_nil t0
  obtain rfl : args = #[v0] := by cases args; simp_all
  obtain ⟨A0, n0, c0, rfl⟩ := okWide_slice Tryz.underlying22 (hval 0 22 v0 rfl rfl)
  obtain ⟨m0, x0⟩ := h0
  obtain ⟨l0, hl0, il0⟩ := A.open_actsX ⟨m0, _, x0⟩
  obtain ⟨es, er, he, hr, q1, q2, q3⟩ := of_laid hL
  exact A.law_ofG (A.xfolds_s he hr il0) (vals := [.slice A0 n0 c0]) ⟨_, _, rfl, A.actsX_keep (A.other_globs (by decide) he hr q1 q2 q3) (A.other_globs (by decide) he hr q1 q2 q3) hl0, rfl⟩ q1 q2 q3
theorem cG_ (os : Os) (started : os.Started) (H : Type) (enc : TypeId × Value → H) :
    ReturnsInHanded {} Tryz.checked os 4 .any (fun w args => (Rows.executorFoldsSpec.pre enc Tryz.prog Tryz.f4 [] false w args ∧ laidMetH Tryz.prog laidL w) ∧ sizedMet enc Tryz.prog Tryz.f4 (OpenSpec.ofChange Rows.executorFoldsSpec) false w args) (Rows.executorFoldsSpec.post enc Tryz.prog Tryz.f4 false true false false) :=
  jS_ (s := Rows.executorFoldsSpec) started (by kernel_rfl) Tryz.func4 rfl rfl (by kernel_rfl) (fun ds h => match ds, h with | [_], _ => rfl)
    (ChangeSpec.witness_shaped (enc := enc) (C := Tryz.checked) (os := os) (X := fun w _ => laidMetH Tryz.prog laidL w) false (World.laidAll Tryz.prog os laidL) #[.slice none 0 0] 8 (World.laidAll_os _ _ _) (World.shaped_of_ZipB (by kernel_rfl) (by kernel_rfl)) (by kernel_rfl) (by kernel_rfl) (by kernel_rfl) (laid_met os _))
    (fun W base args ds p hval hA hL => dl_ enc W base args ds p hval hA hL)
theorem dx_ : Rows.ExecutorFoldsSaid :=
  OpenClaim.holds_of_wide 4 Tryz.f4 rfl rfl rfl rfl rfl rfl rfl ⟨rfl, rfl, rfl, rfl, rfl⟩ rfl rfl rfl rfl rfl cZ_ Tryz.func4 cH_
    (of_decide_eq_true (by kernel_rfl)) (by unfold Func.isWrapper; first | (rw [if_pos (by decide +kernel)]; kernel_rfl) | (rw [if_neg (by decide +kernel)]; exact ⟨rfl, rfl⟩))
    (fun os started H enc _ => cG_ os started H enc)
theorem ExecutorFoldsCard_holds : Rows.ExecutorFoldsCardSaid :=
  Claim7.holds_tied_plain_at .later [] [.data, .data, .data, .data, .sentinel, .sentinel, .pinned] true (true, "02fe5dcf8ef9b4acadadbee8d23922c47c37a0ddfd5442304faa6713489c0f83") true
    dx_ (fun _ h => by cases h) (by kernel_rfl) (fun _ h => by cases h) executorFolds_row_tie rfl ⟨rfl, rfl⟩ (by kernel_rfl) rfl
    (fun f fn hf hfn => by
      obtain rfl : f = 4 := Option.some.inj (cZ_.symm.trans hf) |>.symm
      obtain rfl : fn = Tryz.f4 := (Option.some.inj (Tryz.func4.symm.trans hfn)).symm
      exact ⟨by kernel_rfl, fun j t ht => by
        rw [Tryz.params4] at ht
        have h3 : t = 22 := by
          rcases j with _ | j
          · exact (Option.some.inj ht).symm
          · simp at ht
        rcases h3 with rfl
        · exact (show Tryz.prog.wantsStandIn 22 = false by kernel_rfl)⟩)
    (by kernel_rfl)
#print axioms ExecutorFoldsCard_holds
end Go.Proofs.YtickdhjljpnlpaaGreatDoor
