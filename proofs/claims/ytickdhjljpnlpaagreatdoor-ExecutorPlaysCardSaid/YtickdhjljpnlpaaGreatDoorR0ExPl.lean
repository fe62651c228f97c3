/-
  Packed out of the texts: ExPl.
-/
import Derived.Test.YtickdhjljpnlpaaGreatDoorR015
import Derived.Test.YtickdhjljpnlpaaGreatDoorR0ExPlF
import Derived.Test.YtickdhjljpnlpaaGreatDoorCards
import Derived.ChangeMaps5
set_option maxRecDepth 100000
set_option linter.unusedVariables false
/-
  ExecutorPlays, as stated; its card.
-/
namespace Go.Proofs.YtickdhjljpnlpaaGreatDoor
open Go.ChangeShapes Go.WideShapes Go.ChangeAt Go.RowKit
theorem dD_ {H : Type} (enc : TypeId × Value → H) (W : World) (base : Nat) (args : Array Value) (ds : List (DataW H)) (p : List MemPlace)
    (hval : ∀ (j : Nat) t v, Tryz.f5.params[j]? = some t → args[j]? = some v → Value.okWide Tryz.prog W .any base t v)
    (hA : DataW.TrodAll enc Tryz.prog W 0 (fun _ => true) true Tryz.f5.params.toList args.toList ds p) (hL : laidMetH Tryz.prog laidL W) :
    Calls Tryz.prog 5 args W fun e W' => e = .returned (.bool true) ∧ Ext [] W W' := by
  rw [Tryz.params5] at hA hval
  obtain ⟨v0, vs0, d0, ds0, p0, s0, hargs, rfl, rfl, h0, t0⟩ := trodAll_cons hA
  obtain ⟨v1, vs1, d1, ds1, p1, s1, rfl, rfl, rfl, h1, t1⟩ := trodAll_cons t0
  obtain ⟨rfl, rfl, rfl⟩ := trodAll_nil t1
  obtain rfl : args = #[v0, v1] := by cases args; simp_all
  obtain ⟨n0, rfl, _, _, hn0⟩ := open_int Tryz.underlying3 (hval 0 3 v0 rfl rfl) h0
  obtain ⟨A1, n1, c1, rfl⟩ := okWide_slice Tryz.underlying22 (hval 1 22 v1 rfl rfl)
  obtain ⟨m1, x1⟩ := h1
  obtain ⟨l1, hl1, il1⟩ := A.open_actsX ⟨m1, _, x1⟩
  obtain ⟨es, er, he, hr, q1, q2, q3⟩ := of_laid hL
  exact A.law_ofG (A.xplays_s he hr il1) (vals := [.int .i64 n0, .slice A1 n1 c1]) ⟨_, _, rfl, rfl, _, _, rfl, A.actsX_keep (A.other_globs (by decide) he hr q1 q2 q3) (A.other_globs (by decide) he hr q1 q2 q3) hl1, rfl⟩ q1 q2 q3
theorem cY_ (os : Os) (started : os.Started) (H : Type) (enc : TypeId × Value → H) :
    ReturnsInHanded {} Tryz.checked os 5 .any (fun w args => (Rows.executorPlaysSpec.pre enc Tryz.prog Tryz.f5 [] false w args ∧ laidMetH Tryz.prog laidL w) ∧ sizedMet enc Tryz.prog Tryz.f5 (OpenSpec.ofChange Rows.executorPlaysSpec) false w args) (Rows.executorPlaysSpec.post enc Tryz.prog Tryz.f5 false true false false) :=
  ky_ (s := Rows.executorPlaysSpec) started (by kernel_rfl) Tryz.func5 rfl rfl (by kernel_rfl) (fun ds h => match ds, h with | [_, _], _ => rfl)
    (ChangeSpec.witness_shaped (enc := enc) (C := Tryz.checked) (os := os) (X := fun w _ => laidMetH Tryz.prog laidL w) false (World.laidAll Tryz.prog os laidL) #[.int .i64 0, .slice none 0 0] 8 (World.laidAll_os _ _ _) (World.shaped_of_ZipB (by kernel_rfl) (by kernel_rfl)) (by kernel_rfl) (by kernel_rfl) (by kernel_rfl) (laid_met os _))
    (fun W base args ds p hval hA hL => dD_ enc W base args ds p hval hA hL)
theorem dS_ : Rows.ExecutorPlaysSaid :=
  OpenClaim.holds_of_wide 5 Tryz.f5 rfl rfl rfl rfl rfl rfl rfl ⟨rfl, rfl, rfl, rfl, rfl⟩ rfl rfl rfl rfl rfl df_ Tryz.func5 cZ_
    (of_decide_eq_true (by kernel_rfl)) (by unfold Func.isWrapper; first | (rw [if_pos (by decide +kernel)]; kernel_rfl) | (rw [if_neg (by decide +kernel)]; exact ⟨rfl, rfl⟩))
    (fun os started H enc _ => cY_ os started H enc)
theorem ExecutorPlaysCard_holds : Rows.ExecutorPlaysCardSaid :=
  Claim7.holds_tied_plain_at .later [] [.data, .data, .data, .data, .sentinel, .sentinel, .pinned] true (true, "02fe5dcf8ef9b4acadadbee8d23922c47c37a0ddfd5442304faa6713489c0f83") true
    dS_ (fun _ h => by cases h) (by kernel_rfl) (fun _ h => by cases h) executorPlays_row_tie rfl ⟨rfl, rfl⟩ (by kernel_rfl) rfl
    (fun f fn hf hfn => by
      obtain rfl : f = 5 := Option.some.inj (df_.symm.trans hf) |>.symm
      obtain rfl : fn = Tryz.f5 := (Option.some.inj (Tryz.func5.symm.trans hfn)).symm
      exact ⟨by kernel_rfl, fun j t ht => by
        rw [Tryz.params5] at ht
        have h3 : t = 3 ∨ t = 22 := by
          rcases j with _ | _ | j
          · exact .inl (Option.some.inj ht).symm
          · exact .inr ((Option.some.inj ht).symm)
          · simp at ht
        rcases h3 with rfl | rfl
        · exact (show Tryz.prog.wantsStandIn 3 = false by kernel_rfl)
        · exact (show Tryz.prog.wantsStandIn 22 = false by kernel_rfl)⟩)
    (by kernel_rfl)
#print axioms ExecutorPlaysCard_holds
end Go.Proofs.YtickdhjljpnlpaaGreatDoor
