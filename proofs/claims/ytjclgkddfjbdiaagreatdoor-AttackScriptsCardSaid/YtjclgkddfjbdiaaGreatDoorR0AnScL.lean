/-
  AttackScripts, the walk lifted.
-/
import Derived.Test.YtjclgkddfjbdiaaGreatDoorR013
import Derived.ChangeMaps5
import Derived.Test.YtjclgkddfjbdiaaGreatDoorR0PLaw
set_option maxRecDepth 100000
set_option linter.unusedVariables false
namespace Go.Proofs.YtjclgkddfjbdiaaGreatDoor
open Go.ChangeShapes Go.WideShapes Go.ChangeAt Go.RowKit
theorem dG_ {H : Type} (enc : TypeId × Value → H) (W : World) (base : Nat) (args : Array Value) (ds : List (DataW H)) (p : List MemPlace)
    (hval : ∀ (j : Nat) t v, Tryz.f3.params[j]? = some t → args[j]? = some v → Value.okWide Tryz.prog W .any base t v)
    (hA : DataW.TrodAll enc Tryz.prog W 0 (fun _ => true) true Tryz.f3.params.toList args.toList ds p) (hL : laidMetH Tryz.prog laidL W) :
    Calls Tryz.prog 3 args W fun e W' => e = .returned (.bool true) ∧ Ext [] W W' := by
  rw [Tryz.params3] at hA hval
  obtain ⟨v0, vs0, d0, ds0, p0, s0, hargs, rfl, rfl, h0, t0⟩ := trodAll_cons hA
  obtain ⟨v1, vs1, d1, ds1, p1, s1, rfl, rfl, rfl, h1, t1⟩ := trodAll_cons t0
  obtain ⟨v2, vs2, d2, ds2, p2, s2, rfl, rfl, rfl, h2, t2⟩ := trodAll_cons t1
  obtain ⟨v3, vs3, d3, ds3, p3, s3, rfl, rfl, rfl, h3, t3⟩ := trodAll_cons t2
  obtain ⟨v4, vs4, d4, ds4, p4, s4, rfl, rfl, rfl, h4, t4⟩ := trodAll_cons t3
  obtain ⟨rfl, rfl, rfl⟩ := trodAll_nil t4
  obtain rfl : args = #[v0, v1, v2, v3, v4] := by cases args; simp_all
  obtain ⟨n0, rfl, _, _, hn0⟩ := open_int Tryz.underlying3 (hval 0 3 v0 rfl rfl) h0
  obtain ⟨n3, rfl, _, _, hn3⟩ := open_int Tryz.underlying27 (hval 3 27 v3 rfl rfl) h3
  obtain ⟨n4, rfl, _, _, hn4⟩ := open_int Tryz.underlying3 (hval 4 3 v4 rfl rfl) h4
  obtain ⟨cs1, rfl, hcs1⟩ := okWide_struct Tryz.underlying24 (hval 1 24 v1 rfl rfl)
  obtain ⟨fuel1, hf1⟩ := h1
  obtain ⟨x1, hx1, ix1⟩ := A.open_su (by rw [show (Value.agg cs1).cells = cs1 from rfl, Array.length_toList, hcs1]) hf1
  obtain ⟨cs2, rfl, hcs2⟩ := okWide_struct Tryz.underlying26 (hval 2 26 v2 rfl rfl)
  obtain ⟨fuel2, hf2⟩ := h2
  obtain ⟨x2, hx2, ix2⟩ := A.open_coS (by rw [show (Value.agg cs2).cells = cs2 from rfl, Array.length_toList, hcs2]) hf2
  obtain ⟨sd, rfl⟩ : ∃ sd : Nat, n3 = (sd : Nat) := ⟨n3.toNat, by have h := bounds_u64 hn3; omega⟩
  exact A.law_ofE (A.scripts_s (kd := n0) (many := n4) (sd := sd) ix1 ix2 A.fixed45_s) (vals := [.int .i64 n0, .agg cs1, .agg cs2, .int .u64 (sd : Nat), .int .i64 n4]) ⟨_, _, rfl, rfl, _, _, rfl, ⟨cs1.toList, by simp, hx1⟩, _, _, rfl, ⟨cs2.toList, by simp, hx2⟩, _, _, rfl, rfl, _, _, rfl, rfl, rfl⟩
theorem c3_ (os : Os) (started : os.Started) (H : Type) (enc : TypeId × Value → H) :
    ReturnsInHanded {} Tryz.checked os 3 .any (fun w args => (Rows.attackScriptsSpec.pre enc Tryz.prog Tryz.f3 [] false w args ∧ laidMetH Tryz.prog laidL w) ∧ sizedMet enc Tryz.prog Tryz.f3 (OpenSpec.ofChange Rows.attackScriptsSpec) false w args) (Rows.attackScriptsSpec.post enc Tryz.prog Tryz.f3 false true false false) :=
  kG_ (s := Rows.attackScriptsSpec) started (by kernel_rfl) Tryz.func3 rfl rfl (by kernel_rfl) (fun ds h => match ds, h with | [_, _, _, _, _], _ => rfl)
    (ChangeSpec.witness_shaped (enc := enc) (C := Tryz.checked) (os := os) (X := fun w _ => laidMetH Tryz.prog laidL w) false (World.laidAll Tryz.prog os laidL) #[.int .i64 0, .agg #[.int .i64 0, .slice none 0 0, .int .i64 0], .agg #[.int .i64 0, .int .i64 0, .int .i64 0, .string ⟨#[]⟩, .int .i64 0, .int .i64 0, .string ⟨#[]⟩], .int .u64 0, .int .i64 0] 8 (World.laidAll_os _ _ _) (World.shaped_of_ZipB (by kernel_rfl) (by kernel_rfl)) (by kernel_rfl) (by kernel_rfl) (by kernel_rfl) (laid_met os _))
    (fun W base args ds p hval hA hL => dG_ enc W base args ds p hval hA hL)
end Go.Proofs.YtjclgkddfjbdiaaGreatDoor
