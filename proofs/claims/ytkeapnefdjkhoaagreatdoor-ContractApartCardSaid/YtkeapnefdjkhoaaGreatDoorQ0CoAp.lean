/-
  ContractApart, as stated; its card.
-/
import Derived.Test.YtkeapnefdjkhoaaGreatDoorQ011
import Derived.Test.YtkeapnefdjkhoaaGreatDoorQ0CoApF
import Derived.Test.YtkeapnefdjkhoaaGreatDoorCards
import Derived.ChangeMaps5
set_option maxRecDepth 100000
set_option linter.unusedVariables false
namespace Go.Proofs.YtkeapnefdjkhoaaGreatDoor
open Go.ChangeShapes Go.WideShapes Go.ChangeAt Go.RowKit
theorem ContractApart_args {H : Type} (enc : TypeId × Value → H) (W : World) (base : Nat) (args : Array Value) (ds : List (DataW H)) (p : List MemPlace)
    (hval : ∀ (j : Nat) t v, Tryz.f4.params[j]? = some t → args[j]? = some v → Value.okWide Tryz.prog W .any base t v)
    (hA : DataW.TrodAll enc Tryz.prog W 0 (fun _ => true) true Tryz.f4.params.toList args.toList ds p) (hL : laidMetH Tryz.prog laidL W) :
    Calls Tryz.prog 4 args W fun e W' => e = .returned (.bool true) ∧ Ext [] W W' := by
  rw [Tryz.params4] at hA hval
  obtain ⟨v0, vs0, d0, ds0, p0, s0, hargs, rfl, rfl, h0, t0⟩ := trodAll_cons hA
  obtain ⟨v1, vs1, d1, ds1, p1, s1, rfl, rfl, rfl, h1, t1⟩ := trodAll_cons t0
  obtain ⟨v2, vs2, d2, ds2, p2, s2, rfl, rfl, rfl, h2, t2⟩ := trodAll_cons t1
  obtain ⟨rfl, rfl, rfl⟩ := trodAll_nil t2
  obtain rfl : args = #[v0, v1, v2] := by cases args; simp_all
  obtain ⟨cs0, rfl, hcs0⟩ := okWide_struct Tryz.underlying25 (hval 0 25 v0 rfl rfl)
  obtain ⟨fuel0, hf0⟩ := h0
  obtain ⟨l, r0, i0⟩ := A.open_lg (by rw [show (Value.agg cs0).cells = cs0 from rfl, Array.length_toList, hcs0]) hf0
  obtain ⟨cs1, rfl, hcs1⟩ := okWide_struct Tryz.underlying30 (hval 1 30 v1 rfl rfl)
  obtain ⟨fuel1, hf1⟩ := h1
  obtain ⟨e, r1, i1⟩ := A.open_enO _ (by rw [show (Value.agg cs1).cells = cs1 from rfl, Array.length_toList, hcs1]) ⟨_, _, hf1⟩
  obtain ⟨cs2, rfl, hcs2⟩ := okWide_struct Tryz.underlying30 (hval 2 30 v2 rfl rfl)
  obtain ⟨fuel2, hf2⟩ := h2
  obtain ⟨f, r2, i2⟩ := A.open_enO _ (by rw [show (Value.agg cs2).cells = cs2 from rfl, Array.length_toList, hcs2]) ⟨_, _, hf2⟩
  obtain ⟨es, er, he, hr, q1, q2, q3⟩ := of_laid hL
  exact A.law_ofG (A.apart_s (l := l) (e := e) (f := f) he hr i0 i1 i2) (vals := [.agg cs0, .agg cs1, .agg cs2]) ⟨_, _, rfl, ⟨cs0.toList, by simp, A.lg_keep (A.other_globs (by decide) he hr q1 q2 q3) r0⟩, _, _, rfl, ⟨cs1.toList, by simp, A.en_keep r1⟩, _, _, rfl, ⟨cs2.toList, by simp, A.en_keep r2⟩, rfl⟩ q1 q2 q3
theorem ContractApart_lifted (os : Os) (started : os.Started) (H : Type) (enc : TypeId × Value → H) :
    ReturnsInHanded {} Tryz.checked os 4 .any (fun w args => (Rows.contractApartSpec.pre enc Tryz.prog Tryz.f4 [] false w args ∧ laidMetH Tryz.prog laidL w) ∧ sizedMet enc Tryz.prog Tryz.f4 (OpenSpec.ofChange Rows.contractApartSpec) false w args) (Rows.contractApartSpec.post enc Tryz.prog Tryz.f4 false true false false) :=
  law_liftD (s := Rows.contractApartSpec) started (by kernel_rfl) Tryz.func4 rfl rfl (by kernel_rfl) (fun ds h => match ds, h with | [_, _, _], _ => rfl)
    (ChangeSpec.witness_shaped (enc := enc) (C := Tryz.checked) (os := os) (X := fun w _ => laidMetH Tryz.prog laidL w) false (World.laidAll Tryz.prog os laidL) #[.agg #[.int .i64 0, .int .i64 0, .slice none 0 0, .slice none 0 0], .agg #[.int .i64 0, .int .i64 0, .int .i64 0, .string ⟨#[]⟩, .int .i64 0, .int .i64 0, .string ⟨#[]⟩, .int .u32 0], .agg #[.int .i64 0, .int .i64 0, .int .i64 0, .string ⟨#[]⟩, .int .i64 0, .int .i64 0, .string ⟨#[]⟩, .int .u32 0]] 8 (World.laidAll_os _ _ _) (World.shaped_of_ZipB (by kernel_rfl) (by kernel_rfl)) (by kernel_rfl) (by kernel_rfl) (by kernel_rfl) (laid_met os _))
    (fun W base args ds p hval hA hL => ContractApart_args enc W base args ds p hval hA hL)
theorem ContractApart_row : Rows.ContractApartSaid :=
  OpenClaim.holds_of_wide 4 Tryz.f4 rfl rfl rfl rfl rfl rfl rfl ⟨rfl, rfl, rfl, rfl, rfl⟩ rfl rfl rfl rfl rfl ContractApart_named Tryz.func4 ContractApart_closed
    (of_decide_eq_true (by kernel_rfl)) (by unfold Func.isWrapper; first | (rw [if_pos (by decide +kernel)]; kernel_rfl) | (rw [if_neg (by decide +kernel)]; exact ⟨rfl, rfl⟩))
    (fun os started H enc _ => ContractApart_lifted os started H enc)
theorem ContractApartCard_holds : Rows.ContractApartCardSaid :=
  Claim7.holds_tied_plain_at .later [] [.data, .data, .data, .data, .sentinel, .sentinel, .pinned] true (true, "84e412f95502e76129e3454876f5a8b0a99f2341d72a596ff8e6d419edb3af8f") true
    ContractApart_row (fun _ h => by cases h) (by kernel_rfl) (fun _ h => by cases h) contractApart_row_tie rfl ⟨rfl, rfl⟩ (by kernel_rfl) rfl
    (fun f fn hf hfn => by
      obtain rfl : f = 4 := Option.some.inj (ContractApart_named.symm.trans hf) |>.symm
      obtain rfl : fn = Tryz.f4 := (Option.some.inj (Tryz.func4.symm.trans hfn)).symm
      exact ⟨by kernel_rfl, fun j t ht => by
        rw [Tryz.params4] at ht
        have h3 : t = 25 ∨ t = 30 ∨ t = 30 := by
          rcases j with _ | _ | _ | j
          · exact .inl (Option.some.inj ht).symm
          · exact .inr (.inl (Option.some.inj ht).symm)
          · exact .inr (.inr ((Option.some.inj ht).symm))
          · simp at ht
        rcases h3 with rfl | rfl | rfl
        · exact (show Tryz.prog.wantsStandIn 25 = false by kernel_rfl)
        · exact (show Tryz.prog.wantsStandIn 30 = false by kernel_rfl)
        · exact (show Tryz.prog.wantsStandIn 30 = false by kernel_rfl)⟩)
    (by kernel_rfl)
#print axioms ContractApartCard_holds
end Go.Proofs.YtkeapnefdjkhoaaGreatDoor
