/-
  PointsTold: what is told of own points are at most as many as may be told, rising, from the lowest on, up to the greatest. Of any numbers.
-/
import Derived.Test.YtjbikemecdlolaaQ07
import Derived.Test.YtjbikemecdlolaaQ0PoToF
set_option maxRecDepth 100000
namespace Go.Proofs.Ytjbikemecdlolaa
open Go.RowKit Go.ChangeShapes Go.WideShapes Go.ChangeAt
section
variable {H : Type} {enc : TypeId × Value → H} {w : World} {base : Nat} {spare : Nat → Bool} {held : Bool}
theorem open_i64 (cs : List Value) (hl : cs.length = Try.prog.cellsOf 2) (h : ∃ m y, DataW.trod enc Try.prog w base spare held m 2 cs = some y) : ∃ x : Int, A.reps [] w [A.int x] cs ∧ InR .i64 x := by
  obtain ⟨fuel, x, h⟩ := h
  rw [show Try.prog.cellsOf 2 = 1 by kernel_rfl] at hl
  have hlv : leaves Try.prog 4 2 = some [2] := by kernel_rfl
  have hh := leaves_trod 4 _ _ _ _ _ hlv (by simpa using hl.symm) h
  match cs, hl with
  | [v0], _ =>
    obtain ⟨n0, rfl, b0⟩ := (hh 0 v0 _ rfl rfl).int Try.underlying2
    exact ⟨n0, ⟨_, _, rfl, rfl, rfl⟩, A.wfIn b0⟩
theorem open_i64s {v : Value} (h : LeafAt enc Try.prog w base spare held 38 v) : ∃ xs : List Int, A.rep [] w (A.ints xs) v ∧ ∀ x ∈ xs, InR .i64 x :=
  A.open_slA (abs := fun x => [A.int x]) (Ok := fun x => InR .i64 x) (s := 1) Try.underlying38 (by kernel_rfl) h open_i64
end

set_option maxRecDepth 100000 in
theorem PointsTold_args (H : Type) (enc : TypeId × Value → H) (W : World) (base : Nat) (args : Array Value) (ds : List (DataW H)) (p : List MemPlace)
    (hval : ∀ (j : Nat) t v, Try.f4.params[j]? = some t → args[j]? = some v → Value.okWide Try.prog W .any base t v)
    (hA : DataW.TrodAll enc Try.prog W 0 (fun _ => true) true Try.f4.params.toList args.toList ds p)
    (_hsz : (DataW.weightsEach Try.prog Try.f4.params.toList ds).all (· ≤ reachBytes) = true) :
    Calls Try.prog 4 args W fun e W' => e = .returned (.bool true) ∧ Ext [] W W' := by
  rw [Try.params4] at hA hval
  obtain ⟨v0, vs0, d0, ds0, p0, q0, hargs, rfl, rfl, h0, r0⟩ := trodAll_cons hA
  obtain ⟨rfl, rfl, rfl⟩ := trodAll_nil r0
  obtain rfl : args = #[v0] := by cases args; simp_all
  obtain ⟨A0, n0, c0, rfl⟩ := okWide_slice Try.underlying38 (hval 0 38 v0 rfl rfl)
  obtain ⟨m0, e0⟩ := h0
  obtain ⟨l0, hl0, ok0⟩ := open_i64s ⟨m0, _, e0⟩
  exact A.law_of (A.ptold_law_s (ss := l0) ok0) (vals := [.slice A0 n0 c0]) ⟨_, _, rfl, hl0, rfl⟩

set_option maxRecDepth 100000 in
theorem PointsTold_lifted (os : Os) (started : os.Started) (H : Type) (enc : TypeId × Value → H) :
    ReturnsInHanded {} Try.checked os 4 .any (Rows.pointsToldSpec.pre6 enc Try.prog Try.f4 Rows.pointsToldRow.domain false) (Rows.pointsToldSpec.post enc Try.prog Try.f4 false true false false) :=
  law_lift (s := Rows.pointsToldSpec) started (by kernel_rfl) Try.func4 rfl rfl (by kernel_rfl) (fun ds h => match ds, h with | [_], _ => rfl)
    (ChangeSpec.witness6 (enc := enc) (C := Try.checked) false ⟨#[], #[.slice none 0 0], []⟩ 8 (by kernel_rfl) (by kernel_rfl) (by kernel_rfl) (by kernel_rfl))
    (fun W base args ds p hval hA hsz => PointsTold_args H enc W base args ds p hval hA hsz)
theorem PointsTold_holds : Rows.PointsToldSaid :=
  OpenClaim.holds_of_wide 4 Try.f4 rfl rfl rfl rfl rfl rfl rfl ⟨rfl, rfl, rfl, rfl, rfl⟩ rfl rfl rfl rfl rfl PointsTold_named Try.func4 PointsTold_closed
    (of_decide_eq_true (by kernel_rfl)) (by unfold Func.isWrapper; first | (rw [if_pos (by decide +kernel)]; kernel_rfl) | (rw [if_neg (by decide +kernel)]; exact ⟨rfl, rfl⟩))
    (fun os started H enc _ => PointsTold_lifted os started H enc)
#print axioms PointsTold_holds
end Go.Proofs.Ytjbikemecdlolaa
