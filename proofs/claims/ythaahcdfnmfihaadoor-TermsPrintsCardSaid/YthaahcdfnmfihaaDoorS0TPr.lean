/-
  TermsPrints, as stated; its card.
-/
import Derived.Test.YthaahcdfnmfihaaDoorS06
import Derived.Test.YthaahcdfnmfihaaDoorS0TPrF
import Derived.Test.YthaahcdfnmfihaaDoorCards
set_option maxRecDepth 100000
set_option linter.unusedVariables false
namespace Go.Proofs.YthaahcdfnmfihaaDoor
open Go.ChangeShapes Go.WideShapes Go.ChangeAt Go.RowKit
theorem TermsPrints_args {H : Type} (enc : TypeId × Value → H) (W : World) (base : Nat) (args : Array Value) (ds : List (DataW H)) (p : List MemPlace)
    (hval : ∀ (j : Nat) t v, Tryd.f4.params[j]? = some t → args[j]? = some v → Value.okWide Tryd.prog W .any base t v)
    (hA : DataW.TrodAll enc Tryd.prog W 0 (fun _ => true) true Tryd.f4.params.toList args.toList ds p) (hL : laidMetH Tryd.prog laidL W) :
    Calls Tryd.prog 4 args W fun e W' => e = .returned (.bool true) ∧ Ext [] W W' := by
  rw [Tryd.params4] at hA hval
  obtain ⟨v0, v1, d0, d1, p0, p1, rfl, rfl, rfl, h0, h1⟩ := trodAll_two hA
  obtain ⟨cs0, rfl, hcs0⟩ := okWide_struct Tryd.underlying25 (hval 0 25 v0 rfl rfl)
  obtain ⟨fuel0, hf0⟩ := h0
  obtain ⟨f, hf, _⟩ := A.open_frm (by rw [show (Value.agg cs0).cells = cs0 from rfl, Array.length_toList, hcs0]) hf0
  obtain ⟨n, rfl, rfl, rfl, hn⟩ := open_int Tryd.underlying3 (hval 1 3 v1 rfl rfl) h1
  obtain ⟨es, er, he, hr, q1, q2, q3⟩ := of_laid hL
  exact A.law_ofG (A.prints_s (f := f) (n := n) he hr) (vals := [.agg cs0, .int .i64 n]) ⟨_, _, rfl, ⟨cs0.toList, by simp, A.frm_keep (A.other_globs (by decide) he hr q1 q2 q3) f _ hf⟩, _, _, rfl, rfl, rfl⟩ q1 q2 q3
theorem TermsPrints_lifted (os : Os) (started : os.Started) (H : Type) (enc : TypeId × Value → H) :
    ReturnsInHanded {} Tryd.checked os 4 .any (fun w args => (Rows.termsPrintsSpec.pre enc Tryd.prog Tryd.f4 [] false w args ∧ laidMetH Tryd.prog laidL w) ∧ sizedMet enc Tryd.prog Tryd.f4 (OpenSpec.ofChange Rows.termsPrintsSpec) false w args) (Rows.termsPrintsSpec.post enc Tryd.prog Tryd.f4 false true false false) :=
  law_liftD (s := Rows.termsPrintsSpec) started (by kernel_rfl) Tryd.func4 rfl rfl (by kernel_rfl) (fun ds h => match ds, h with | [_, _], _ => rfl)
    (ChangeSpec.witness_shaped (enc := enc) (C := Tryd.checked) (os := os) (X := fun w _ => laidMetH Tryd.prog laidL w) false (World.laidAll Tryd.prog os laidL) #[.agg #[.int .i64 0, .int .i64 0, .slice none 0 0], .int .i64 0] 8 (World.laidAll_os _ _ _) (World.shaped_of_ZipB (by kernel_rfl) (by kernel_rfl)) (by kernel_rfl) (by kernel_rfl) (by kernel_rfl) (laid_met os _))
    (fun W base args ds p hval hA hL => TermsPrints_args enc W base args ds p hval hA hL)
theorem TermsPrints_row : Rows.TermsPrintsSaid :=
  OpenClaim.holds_of_wide 4 Tryd.f4 rfl rfl rfl rfl rfl rfl rfl ⟨rfl, rfl, rfl, rfl, rfl⟩ rfl rfl rfl rfl rfl TermsPrints_named Tryd.func4 TermsPrints_closed
    (of_decide_eq_true (by kernel_rfl)) (by unfold Func.isWrapper; first | (rw [if_pos (by decide +kernel)]; kernel_rfl) | (rw [if_neg (by decide +kernel)]; exact ⟨rfl, rfl⟩))
    (fun os started H enc _ => TermsPrints_lifted os started H enc)
theorem TermsPrintsCard_holds : Rows.TermsPrintsCardSaid :=
  Claim7.holds_tied_plain_at .later [] [.data, .data, .data, .data, .sentinel, .sentinel, .pinned] true (true, "1edb14c0301e7d54c7c7d5676a0b0e49d1ba71535139e5c7e1e74c7024103530") true
    TermsPrints_row (fun _ h => by cases h) (by kernel_rfl) (fun _ h => by cases h) termsPrints_row_tie rfl ⟨rfl, rfl⟩ (by kernel_rfl) rfl
    (fun f fn hf hfn => by
      obtain rfl : f = 4 := Option.some.inj (TermsPrints_named.symm.trans hf) |>.symm
      obtain rfl : fn = Tryd.f4 := (Option.some.inj (Tryd.func4.symm.trans hfn)).symm
      exact ⟨by kernel_rfl, fun j t ht => by
        rw [Tryd.params4] at ht
        have h3 : t = 25 ∨ t = 3 := by
          rcases j with _ | _ | j
          · exact .inl (Option.some.inj ht).symm
          · exact .inr (Option.some.inj ht).symm
          · simp at ht
        rcases h3 with rfl | rfl
        · exact (show Tryd.prog.wantsStandIn 25 = false by kernel_rfl)
        · exact (show Tryd.prog.wantsStandIn 3 = false by kernel_rfl)⟩)
    (by kernel_rfl)
#print axioms TermsPrintsCard_holds
end Go.Proofs.YthaahcdfnmfihaaDoor
