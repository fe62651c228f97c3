/-
  AgreeHistory, as stated; its card.
-/
import Derived.Test.YtejcohlpjikjpaaGreatDoorU015
import Derived.Test.YtejcohlpjikjpaaGreatDoorU0AgHiF
import Derived.Test.YtejcohlpjikjpaaGreatDoorCards
import Derived.ChangeMaps5
set_option maxRecDepth 100000
set_option linter.unusedVariables false
namespace Go.Proofs.YtejcohlpjikjpaaGreatDoor
open Go.ChangeShapes Go.WideShapes Go.ChangeAt Go.RowKit
theorem AgreeHistory_args {H : Type} (enc : TypeId × Value → H) (W : World) (base : Nat) (args : Array Value) (ds : List (DataW H)) (p : List MemPlace)
    (hval : ∀ (j : Nat) t v, Tryz.f4.params[j]? = some t → args[j]? = some v → Value.okWide Tryz.prog W .any base t v)
    (hA : DataW.TrodAll enc Tryz.prog W 0 (fun _ => true) true Tryz.f4.params.toList args.toList ds p) (hL : laidMetH Tryz.prog laidL W) (hS : (DataW.weightsEach Tryz.prog Tryz.f4.params.toList ds).all (· ≤ reachBytes) = true) :
    Calls Tryz.prog 4 args W fun e W' => e = .returned (.bool true) ∧ Ext [] W W' := by
  rw [Tryz.params4] at hA hval
  obtain ⟨v0, vs0, d0, ds0, p0, s0, hargs, rfl, rfl, h0, t0⟩ := trodAll_cons hA
  obtain ⟨v1, vs1, d1, ds1, p1, s1, rfl, rfl, rfl, h1, t1⟩ := trodAll_cons t0
  obtain ⟨v2, vs2, d2, ds2, p2, s2, rfl, rfl, rfl, h2, t2⟩ := trodAll_cons t1
  obtain ⟨v3, vs3, d3, ds3, p3, s3, rfl, rfl, rfl, h3, t3⟩ := trodAll_cons t2
  obtain ⟨rfl, rfl, rfl⟩ := trodAll_nil t3
  obtain rfl : args = #[v0, v1, v2, v3] := by cases args; simp_all
  obtain ⟨A0, n0, c0, rfl⟩ := okWide_slice Tryz.underlying26 (hval 0 26 v0 rfl rfl)
  obtain ⟨m0, x0⟩ := h0
  obtain ⟨l0, hl0, il0⟩ := A.open_hist ⟨m0, _, x0⟩
  obtain ⟨n1, rfl, _, _, hn1⟩ := open_int Tryz.underlying3 (hval 1 3 v1 rfl rfl) h1
  obtain ⟨n2, rfl, _, _, hn2⟩ := open_int Tryz.underlying3 (hval 2 3 v2 rfl rfl) h2
  obtain ⟨n3, rfl, _, _, hn3⟩ := open_int Tryz.underlying2 (hval 3 2 v3 rfl rfl) h3
  obtain ⟨es, er, he, hr, q1, q2, q3⟩ := of_laid hL
  exact A.law_ofG (A.ahist_s he hr il0) (vals := [.slice A0 n0 c0, .int .i64 n1, .int .i64 n2, .int .i64 n3]) ⟨_, _, rfl, A.hist_keep (A.other_globs (by decide) he hr q1 q2 q3) (A.otherS_globs he hr q1 q2 q3) hl0, _, _, rfl, rfl, _, _, rfl, rfl, _, _, rfl, rfl, rfl⟩ q1 q2 q3
theorem AgreeHistory_lifted (os : Os) (started : os.Started) (H : Type) (enc : TypeId × Value → H) :
    ReturnsInHanded {} Tryz.checked os 4 .any (fun w args => (Rows.agreeHistorySpec.pre enc Tryz.prog Tryz.f4 [] false w args ∧ laidMetH Tryz.prog laidL w) ∧ sizedMet enc Tryz.prog Tryz.f4 (OpenSpec.ofChange Rows.agreeHistorySpec) false w args) (Rows.agreeHistorySpec.post enc Tryz.prog Tryz.f4 false true false false) :=
  law_liftDS (s := Rows.agreeHistorySpec) started (by kernel_rfl) Tryz.func4 rfl rfl (by kernel_rfl) (fun ds h => match ds, h with | [_, _, _, _], _ => rfl)
    (ChangeSpec.witness_shaped (enc := enc) (C := Tryz.checked) (os := os) (X := fun w _ => laidMetH Tryz.prog laidL w) false (World.laidAll Tryz.prog os laidL) #[.slice none 0 0, .int .i64 0, .int .i64 0, .int .i64 0] 8 (World.laidAll_os _ _ _) (World.shaped_of_ZipB (by kernel_rfl) (by kernel_rfl)) (by kernel_rfl) (by kernel_rfl) (by kernel_rfl) (laid_met os _))
    (fun W base args ds p hval hA hL hS => AgreeHistory_args enc W base args ds p hval hA hL hS)
theorem AgreeHistory_row : Rows.AgreeHistorySaid :=
  OpenClaim.holds_of_wide 4 Tryz.f4 rfl rfl rfl rfl rfl rfl rfl ⟨rfl, rfl, rfl, rfl, rfl⟩ rfl rfl rfl rfl rfl AgreeHistory_named Tryz.func4 AgreeHistory_closed
    (of_decide_eq_true (by kernel_rfl)) (by unfold Func.isWrapper; first | (rw [if_pos (by decide +kernel)]; kernel_rfl) | (rw [if_neg (by decide +kernel)]; exact ⟨rfl, rfl⟩))
    (fun os started H enc _ => AgreeHistory_lifted os started H enc)
theorem AgreeHistoryCard_holds : Rows.AgreeHistoryCardSaid :=
  Claim7.holds_tied_plain_at .later [] [.data, .data, .data, .data, .sentinel, .sentinel, .pinned] true (true, "b15a2a131397c596e0ec6e82751de2a6de584a023a657f5070e775dac015ad99") true
    AgreeHistory_row (fun _ h => by cases h) (by kernel_rfl) (fun _ h => by cases h) agreeHistory_row_tie rfl ⟨rfl, rfl⟩ (by kernel_rfl) rfl
    (fun f fn hf hfn => by
      obtain rfl : f = 4 := Option.some.inj (AgreeHistory_named.symm.trans hf) |>.symm
      obtain rfl : fn = Tryz.f4 := (Option.some.inj (Tryz.func4.symm.trans hfn)).symm
      exact ⟨by kernel_rfl, fun j t ht => by
        rw [Tryz.params4] at ht
        have h3 : t = 26 ∨ t = 3 ∨ t = 3 ∨ t = 2 := by
          rcases j with _ | _ | _ | _ | j
          · exact .inl (Option.some.inj ht).symm
          · exact .inr (.inl (Option.some.inj ht).symm)
          · exact .inr (.inr (.inl (Option.some.inj ht).symm))
          · exact .inr (.inr (.inr ((Option.some.inj ht).symm)))
          · simp at ht
        rcases h3 with rfl | rfl | rfl | rfl
        · exact (show Tryz.prog.wantsStandIn 26 = false by kernel_rfl)
        · exact (show Tryz.prog.wantsStandIn 3 = false by kernel_rfl)
        · exact (show Tryz.prog.wantsStandIn 3 = false by kernel_rfl)
        · exact (show Tryz.prog.wantsStandIn 2 = false by kernel_rfl)⟩)
    (by kernel_rfl)
#print axioms AgreeHistoryCard_holds
end Go.Proofs.YtejcohlpjikjpaaGreatDoor
