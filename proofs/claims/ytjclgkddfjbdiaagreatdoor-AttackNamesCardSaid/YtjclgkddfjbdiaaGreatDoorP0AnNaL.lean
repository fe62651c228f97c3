/-
  AttackNames, the walk lifted.
-/
import Derived.Test.YtjclgkddfjbdiaaGreatDoorP013
import Derived.ChangeMaps5
import Derived.Test.YtjclgkddfjbdiaaGreatDoorP0PLaw
set_option maxRecDepth 100000
set_option linter.unusedVariables false
namespace Go.Proofs.YtjclgkddfjbdiaaGreatDoor
open Go.ChangeShapes Go.WideShapes Go.ChangeAt Go.RowKit
theorem dG_ {H : Type} (enc : TypeId × Value → H) (W : World) (base : Nat) (args : Array Value) (ds : List (DataW H)) (p : List MemPlace)
    (hval : ∀ (j : Nat) t v, Tryz.f4.params[j]? = some t → args[j]? = some v → Value.okWide Tryz.prog W .any base t v)
    (hA : DataW.TrodAll enc Tryz.prog W 0 (fun _ => true) true Tryz.f4.params.toList args.toList ds p) (hL : laidMetH Tryz.prog laidL W) :
    Calls Tryz.prog 4 args W fun e W' => e = .returned (.bool true) ∧ Ext [] W W' := by
  rw [Tryz.params4] at hA hval
  obtain ⟨v0, vs0, d0, ds0, p0, s0, hargs, rfl, rfl, h0, t0⟩ := trodAll_cons hA
  obtain ⟨rfl, rfl, rfl⟩ := trodAll_nil t0
  obtain rfl : args = #[v0] := by cases args; simp_all
  obtain ⟨n0, rfl, _, _, hn0⟩ := open_int Tryz.underlying3 (hval 0 3 v0 rfl rfl) h0
  exact A.law_ofE (A.names_s (A.wfIn hn0) A.fixed45_s) (vals := [.int .i64 n0]) ⟨_, _, rfl, rfl, rfl⟩
theorem db_ (os : Os) (started : os.Started) (H : Type) (enc : TypeId × Value → H) :
    ReturnsInHanded {} Tryz.checked os 4 .any (fun w args => (Rows.attackNamesSpec.pre enc Tryz.prog Tryz.f4 [] false w args ∧ laidMetH Tryz.prog laidL w) ∧ sizedMet enc Tryz.prog Tryz.f4 (OpenSpec.ofChange Rows.attackNamesSpec) false w args) (Rows.attackNamesSpec.post enc Tryz.prog Tryz.f4 false true false false) :=
  ji_ (s := Rows.attackNamesSpec) started (by kernel_rfl) Tryz.func4 rfl rfl (by kernel_rfl) (fun ds h => match ds, h with | [_], _ => rfl)
    (ChangeSpec.witness_shaped (enc := enc) (C := Tryz.checked) (os := os) (X := fun w _ => laidMetH Tryz.prog laidL w) false (World.laidAll Tryz.prog os laidL) #[.int .i64 0] 8 (World.laidAll_os _ _ _) (World.shaped_of_ZipB (by kernel_rfl) (by kernel_rfl)) (by kernel_rfl) (by kernel_rfl) (by kernel_rfl) (laid_met os _))
    (fun W base args ds p hval hA hL => dG_ enc W base args ds p hval hA hL)
end Go.Proofs.YtjclgkddfjbdiaaGreatDoor
