/-
  AgreePrefix, as stated; its card.
-/
import Derived.Test.YtejcohlpjikjpaaGreatDoorS011
import Derived.Test.YtejcohlpjikjpaaGreatDoorS0AgPrF
import Derived.Test.YtejcohlpjikjpaaGreatDoorCards
import Derived.ChangeMaps5
set_option maxRecDepth 100000
set_option linter.unusedVariables false
namespace Go.Proofs.YtejcohlpjikjpaaGreatDoor
open Go.ChangeShapes Go.WideShapes Go.ChangeAt Go.RowKit
theorem AgreePrefix_args {H : Type} (enc : TypeId × Value → H) (W : World) (base : Nat) (args : Array Value) (ds : List (DataW H)) (p : List MemPlace)
    (hval : ∀ (j : Nat) t v, Tryz.f6.params[j]? = some t → args[j]? = some v → Value.okWide Tryz.prog W .any base t v)
    (hA : DataW.TrodAll enc Tryz.prog W 0 (fun _ => true) true Tryz.f6.params.toList args.toList ds p) (hL : laidMetH Tryz.prog laidL W) (hS : (DataW.weightsEach Tryz.prog Tryz.f6.params.toList ds).all (· ≤ reachBytes) = true) :
    Calls Tryz.prog 6 args W fun e W' => e = .returned (.bool true) ∧ Ext [] W W' := by
  rw [Tryz.params6] at hA hval
  obtain ⟨v0, vs0, d0, ds0, p0, s0, hargs, rfl, rfl, h0, t0⟩ := trodAll_cons hA
  obtain ⟨v1, vs1, d1, ds1, p1, s1, rfl, rfl, rfl, h1, t1⟩ := trodAll_cons t0
  obtain ⟨v2, vs2, d2, ds2, p2, s2, rfl, rfl, rfl, h2, t2⟩ := trodAll_cons t1
  obtain ⟨rfl, rfl, rfl⟩ := trodAll_nil t2
  obtain rfl : args = #[v0, v1, v2] := by cases args; simp_all
  obtain ⟨A0, n0, c0, rfl⟩ := okWide_slice Tryz.underlying24 (hval 0 24 v0 rfl rfl)
  obtain ⟨m0, x0⟩ := h0
  obtain ⟨l0, hl0, il0, jl0⟩ := A.open_dds x0 (Wt.of (i := 0) hS (by rw [Tryz.params6]; rfl) rfl)
  obtain ⟨A1, n1, c1, rfl⟩ := okWide_slice Tryz.underlying24 (hval 1 24 v1 rfl rfl)
  obtain ⟨m1, x1⟩ := h1
  obtain ⟨l1, hl1, il1, jl1⟩ := A.open_dds x1 (Wt.of (i := 1) hS (by rw [Tryz.params6]; rfl) rfl)
  obtain ⟨n2, rfl, _, _, hn2⟩ := open_int Tryz.underlying5 (hval 2 5 v2 rfl rfl) h2
  obtain ⟨k2, hk2, rfl⟩ : ∃ k : Nat, k < 256 ∧ n2 = (k : Nat) := by
    simp [Lit.wf, IntKind.min, IntKind.max, IntKind.signed, IntKind.bits] at hn2
    exact ⟨n2.toNat, by omega, by omega⟩
  obtain ⟨es, er, he, hr, q1, q2, q3⟩ := of_laid hL
  exact A.law_ofG (A.apref_s hk2 he hr il0 il1 jl0 jl1) (vals := [.slice A0 n0 c0, .slice A1 n1 c1, .int .u8 (k2 : Nat)]) ⟨_, _, rfl, A.dds_keep (A.other_globs (by decide) he hr q1 q2 q3) hl0, _, _, rfl, A.dds_keep (A.other_globs (by decide) he hr q1 q2 q3) hl1, _, _, rfl, rfl, rfl⟩ q1 q2 q3
theorem AgreePrefix_lifted (os : Os) (started : os.Started) (H : Type) (enc : TypeId × Value → H) :
    ReturnsInHanded {} Tryz.checked os 6 .any (fun w args => (Rows.agreePrefixSpec.pre enc Tryz.prog Tryz.f6 [] false w args ∧ laidMetH Tryz.prog laidL w) ∧ sizedMet enc Tryz.prog Tryz.f6 (OpenSpec.ofChange Rows.agreePrefixSpec) false w args) (Rows.agreePrefixSpec.post enc Tryz.prog Tryz.f6 false true false false) :=
  law_liftDS (s := Rows.agreePrefixSpec) started (by kernel_rfl) Tryz.func6 rfl rfl (by kernel_rfl) (fun ds h => match ds, h with | [_, _, _], _ => rfl)
    (ChangeSpec.witness_shaped (enc := enc) (C := Tryz.checked) (os := os) (X := fun w _ => laidMetH Tryz.prog laidL w) false (World.laidAll Tryz.prog os laidL) #[.slice none 0 0, .slice none 0 0, .int .u8 0] 8 (World.laidAll_os _ _ _) (World.shaped_of_ZipB (by kernel_rfl) (by kernel_rfl)) (by kernel_rfl) (by kernel_rfl) (by kernel_rfl) (laid_met os _))
    (fun W base args ds p hval hA hL hS => AgreePrefix_args enc W base args ds p hval hA hL hS)
theorem AgreePrefix_row : Rows.AgreePrefixSaid :=
  OpenClaim.holds_of_wide 6 Tryz.f6 rfl rfl rfl rfl rfl rfl rfl ⟨rfl, rfl, rfl, rfl, rfl⟩ rfl rfl rfl rfl rfl AgreePrefix_named Tryz.func6 AgreePrefix_closed
    (of_decide_eq_true (by kernel_rfl)) (by unfold Func.isWrapper; first | (rw [if_pos (by decide +kernel)]; kernel_rfl) | (rw [if_neg (by decide +kernel)]; exact ⟨rfl, rfl⟩))
    (fun os started H enc _ => AgreePrefix_lifted os started H enc)
theorem AgreePrefixCard_holds : Rows.AgreePrefixCardSaid :=
  Claim7.holds_tied_plain_at .later [] [.data, .data, .data, .data, .sentinel, .sentinel, .pinned] true (true, "b15a2a131397c596e0ec6e82751de2a6de584a023a657f5070e775dac015ad99") true
    AgreePrefix_row (fun _ h => by cases h) (by kernel_rfl) (fun _ h => by cases h) agreePrefix_row_tie rfl ⟨rfl, rfl⟩ (by kernel_rfl) rfl
    (fun f fn hf hfn => by
      obtain rfl : f = 6 := Option.some.inj (AgreePrefix_named.symm.trans hf) |>.symm
      obtain rfl : fn = Tryz.f6 := (Option.some.inj (Tryz.func6.symm.trans hfn)).symm
      exact ⟨by kernel_rfl, fun j t ht => by
        rw [Tryz.params6] at ht
        have h3 : t = 24 ∨ t = 24 ∨ t = 5 := by
          rcases j with _ | _ | _ | j
          · exact .inl (Option.some.inj ht).symm
          · exact .inr (.inl (Option.some.inj ht).symm)
          · exact .inr (.inr ((Option.some.inj ht).symm))
          · simp at ht
        rcases h3 with rfl | rfl | rfl
        · exact (show Tryz.prog.wantsStandIn 24 = false by kernel_rfl)
        · exact (show Tryz.prog.wantsStandIn 24 = false by kernel_rfl)
        · exact (show Tryz.prog.wantsStandIn 5 = false by kernel_rfl)⟩)
    (by kernel_rfl)
#print axioms AgreePrefixCard_holds
end Go.Proofs.YtejcohlpjikjpaaGreatDoor
