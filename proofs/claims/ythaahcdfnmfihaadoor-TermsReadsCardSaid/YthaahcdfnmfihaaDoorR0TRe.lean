/-
  TermsReads, as stated; its card.
-/
import Derived.Test.YthaahcdfnmfihaaDoorR06
import Derived.Test.YthaahcdfnmfihaaDoorR0TReF
import Derived.Test.YthaahcdfnmfihaaDoorCards
import Derived.ChangeMaps5
set_option maxRecDepth 100000
set_option linter.unusedVariables false
namespace Go.Proofs.YthaahcdfnmfihaaDoor
open Go.ChangeShapes Go.WideShapes Go.ChangeAt Go.RowKit
theorem TermsReads_args {H : Type} (enc : TypeId × Value → H) (W : World) (base : Nat) (args : Array Value) (ds : List (DataW H)) (p : List MemPlace)
    (hval : ∀ (j : Nat) t v, Tryd.f3.params[j]? = some t → args[j]? = some v → Value.okWide Tryd.prog W .any base t v)
    (hA : DataW.TrodAll enc Tryd.prog W 0 (fun _ => true) true Tryd.f3.params.toList args.toList ds p) (hL : laidMetH Tryd.prog laidL W) :
    Calls Tryd.prog 3 args W fun e W' => e = .returned (.bool true) ∧ Ext [] W W' := by
  rw [Tryd.params3] at hA hval
  obtain ⟨v0, v1, d0, d1, p0, p1, rfl, rfl, rfl, h0, h1⟩ := trodAll_two hA
  obtain ⟨s, rfl, rfl, rfl, hs⟩ := Go.ChangeMaps.open_string Tryd.underlying9 (hval 0 9 v0 rfl rfl) h0
  obtain ⟨n, rfl, rfl, rfl, hn⟩ := open_int Tryd.underlying3 (hval 1 3 v1 rfl rfl) h1
  obtain ⟨es, er, he, hr, q1, q2, q3⟩ := of_laid hL
  have hs2 : Value.string s = .string ⟨(A.tx s).toArray⟩ := congrArg Value.string (A.tx_inj (A.tx_mk _).symm)
  exact A.law_ofG (A.reads_s (l := A.tx s) (n := n) he hr) (vals := [.string s, .int .i64 n]) ⟨_, _, rfl, hs2, _, _, rfl, rfl, rfl⟩ q1 q2 q3
theorem TermsReads_lifted (os : Os) (started : os.Started) (H : Type) (enc : TypeId × Value → H) :
    ReturnsInHanded {} Tryd.checked os 3 .any (fun w args => (Rows.termsReadsSpec.pre enc Tryd.prog Tryd.f3 [] false w args ∧ laidMetH Tryd.prog laidL w) ∧ sizedMet enc Tryd.prog Tryd.f3 (OpenSpec.ofChange Rows.termsReadsSpec) false w args) (Rows.termsReadsSpec.post enc Tryd.prog Tryd.f3 false true false false) :=
  law_liftD (s := Rows.termsReadsSpec) started (by kernel_rfl) Tryd.func3 rfl rfl (by kernel_rfl) (fun ds h => match ds, h with | [_, _], _ => rfl)
    (ChangeSpec.witness_shaped (enc := enc) (C := Tryd.checked) (os := os) (X := fun w _ => laidMetH Tryd.prog laidL w) false (World.laidAll Tryd.prog os laidL) #[.string ⟨#[]⟩, .int .i64 0] 8 (World.laidAll_os _ _ _) (World.shaped_of_ZipB (by kernel_rfl) (by kernel_rfl)) (by kernel_rfl) (by kernel_rfl) (by kernel_rfl) (laid_met os _))
    (fun W base args ds p hval hA hL => TermsReads_args enc W base args ds p hval hA hL)
theorem TermsReads_row : Rows.TermsReadsSaid :=
  OpenClaim.holds_of_wide 3 Tryd.f3 rfl rfl rfl rfl rfl rfl rfl ⟨rfl, rfl, rfl, rfl, rfl⟩ rfl rfl rfl rfl rfl TermsReads_named Tryd.func3 TermsReads_closed
    (of_decide_eq_true (by kernel_rfl)) (by unfold Func.isWrapper; first | (rw [if_pos (by decide +kernel)]; kernel_rfl) | (rw [if_neg (by decide +kernel)]; exact ⟨rfl, rfl⟩))
    (fun os started H enc _ => TermsReads_lifted os started H enc)
theorem TermsReadsCard_holds : Rows.TermsReadsCardSaid :=
  Claim7.holds_tied_plain_at .later [] [.data, .data, .data, .data, .sentinel, .sentinel, .pinned] true (true, "1edb14c0301e7d54c7c7d5676a0b0e49d1ba71535139e5c7e1e74c7024103530") true
    TermsReads_row (fun _ h => by cases h) (by kernel_rfl) (fun _ h => by cases h) termsReads_row_tie rfl ⟨rfl, rfl⟩ (by kernel_rfl) rfl
    (fun f fn hf hfn => by
      obtain rfl : f = 3 := Option.some.inj (TermsReads_named.symm.trans hf) |>.symm
      obtain rfl : fn = Tryd.f3 := (Option.some.inj (Tryd.func3.symm.trans hfn)).symm
      exact ⟨by kernel_rfl, fun j t ht => by
        rw [Tryd.params3] at ht
        have h3 : t = 9 ∨ t = 3 := by
          rcases j with _ | _ | j
          · exact .inl (Option.some.inj ht).symm
          · exact .inr (Option.some.inj ht).symm
          · simp at ht
        rcases h3 with rfl | rfl
        · exact (show Tryd.prog.wantsStandIn 9 = false by kernel_rfl)
        · exact (show Tryd.prog.wantsStandIn 3 = false by kernel_rfl)⟩)
    (by kernel_rfl)
#print axioms TermsReadsCard_holds
end Go.Proofs.YthaahcdfnmfihaaDoor
