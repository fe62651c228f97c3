/-
  Packed out of the texts: AdPl.
-/
import Derived.Test.YtggajaigfkekhaaGreatQ014
import Derived.Test.YtggajaigfkekhaaGreatQ0AdPlF
set_option maxRecDepth 100000
/-
  AdmitPlays: whatever changes are taken, and acked, one behind the other, each answer is the document's. Of any acts.
-/
namespace Go.Proofs.YtggajaigfkekhaaGreat
open Go.RowKit Go.ChangeShapes Go.WideShapes Go.ChangeAt

set_option maxRecDepth 100000 in
theorem fv_ (H : Type) (enc : TypeId × Value → H) (W : World) (base : Nat) (args : Array Value) (ds : List (DataW H)) (p : List MemPlace)
    (hval : ∀ (j : Nat) t v, Tryz.f4.params[j]? = some t → args[j]? = some v → Value.okWide Tryz.prog W .any base t v)
    (hA : DataW.TrodAll enc Tryz.prog W 0 (fun _ => true) true Tryz.f4.params.toList args.toList ds p)
    (_hsz : (DataW.weightsEach Tryz.prog Tryz.f4.params.toList ds).all (· ≤ reachBytes) = true) :
    Calls Tryz.prog 4 args W fun e W' => e = .returned (.bool true) ∧ Ext [] W W' := by
  rw [Tryz.params4] at hA hval
  obtain ⟨v0, vs0, d0, ds0, p0, q0, hargs, rfl, rfl, h0, r0⟩ := trodAll_cons hA
  obtain ⟨v1, vs1, d1, ds1, p1, q1, rfl, rfl, rfl, h1, r1⟩ := trodAll_cons r0
  obtain ⟨v2, vs2, d2, ds2, p2, q2, rfl, rfl, rfl, h2, r2⟩ := trodAll_cons r1
  obtain ⟨rfl, rfl, rfl⟩ := trodAll_nil r2
  obtain rfl : args = #[v0, v1, v2] := by cases args; simp_all
  obtain ⟨a0, rfl, rfl, rfl, w0⟩ := open_int Tryz.underlying3 (hval 0 3 v0 rfl rfl) h0
  obtain ⟨A1, n1, c1, rfl⟩ := okWide_slice Tryz.underlying28 (hval 1 28 v1 rfl rfl)
  obtain ⟨m1, e1⟩ := h1
  obtain ⟨l1, hl1, ok1⟩ := kP_ ⟨m1, _, e1⟩
  obtain ⟨a2, rfl, rfl, rfl, w2⟩ := open_int Tryz.underlying2 (hval 2 2 v2 rfl rfl) h2
  by_cases hg : 1 ≤ a0 ∧ a0 ≤ 7
  · obtain ⟨n, hn⟩ : ∃ n : Nat, a0 = n := ⟨a0.toNat, by omega⟩
    subst hn
    exact A.law_of (A.aplaysok_s (n := n) (view := a2) (l := l1) (by omega) (by omega) (A.wfIn w2) ok1) (vals := [.int .i64 (n : Nat), .slice A1 n1 c1, .int .i64 a2]) ⟨_, _, rfl, rfl, _, _, rfl, hl1, _, _, rfl, rfl, rfl⟩
  · exact A.law_of (A.aplaysno_s (nI := a0) (view := a2) (l := l1) hg) (vals := [.int .i64 a0, .slice A1 n1 c1, .int .i64 a2]) ⟨_, _, rfl, rfl, _, _, rfl, hl1, _, _, rfl, rfl, rfl⟩

set_option maxRecDepth 100000 in
theorem ef_ (os : Os) (started : os.Started) (H : Type) (enc : TypeId × Value → H) :
    ReturnsInHanded {} Tryz.checked os 4 .any (Rows.admitPlaysSpec.pre6 enc Tryz.prog Tryz.f4 Rows.admitPlaysRow.domain false) (Rows.admitPlaysSpec.post enc Tryz.prog Tryz.f4 false true false false) :=
  law_lift (s := Rows.admitPlaysSpec) started (by kernel_rfl) Tryz.func4 rfl rfl (by kernel_rfl) (fun ds h => match ds, h with | [_, _, _], _ => rfl)
    (ChangeSpec.witness6 (enc := enc) (C := Tryz.checked) false ⟨#[], #[.int .i64 0, .slice none 0 0, .int .i64 0], []⟩ 8 (by kernel_rfl) (by kernel_rfl) (by kernel_rfl) (by kernel_rfl))
    (fun W base args ds p hval hA hsz => fv_ H enc W base args ds p hval hA hsz)
theorem AdmitPlays_holds : Rows.AdmitPlaysSaid :=
  OpenClaim.holds_of_wide 4 Tryz.f4 rfl rfl rfl rfl rfl rfl rfl ⟨rfl, rfl, rfl, rfl, rfl⟩ rfl rfl rfl rfl rfl ev_ Tryz.func4 eg_
    (of_decide_eq_true (by kernel_rfl)) (by unfold Func.isWrapper; first | (rw [if_pos (by decide +kernel)]; kernel_rfl) | (rw [if_neg (by decide +kernel)]; exact ⟨rfl, rfl⟩))
    (fun os started H enc _ => ef_ os started H enc)
#print axioms AdmitPlays_holds
end Go.Proofs.YtggajaigfkekhaaGreat
