/-
  Packed out of the texts: AdRe.
-/
import Derived.Test.YtggajaigfkekhaaGreatP012
import Derived.Test.YtggajaigfkekhaaGreatP0AdReF
set_option maxRecDepth 100000
/-
  AdmitReal: nobody's word is made up: what an honest replica never said is not real, and what is certain at one is real at another. Of any changes and acks.
-/
namespace Go.Proofs.YtggajaigfkekhaaGreat
open Go.RowKit Go.ChangeShapes Go.WideShapes Go.ChangeAt

set_option maxRecDepth 100000 in
theorem eJ_ (H : Type) (enc : TypeId × Value → H) (W : World) (base : Nat) (args : Array Value) (ds : List (DataW H)) (p : List MemPlace)
    (hval : ∀ (j : Nat) t v, Tryz.f3.params[j]? = some t → args[j]? = some v → Value.okWide Tryz.prog W .any base t v)
    (hA : DataW.TrodAll enc Tryz.prog W 0 (fun _ => true) true Tryz.f3.params.toList args.toList ds p)
    (_hsz : (DataW.weightsEach Tryz.prog Tryz.f3.params.toList ds).all (· ≤ reachBytes) = true) :
    Calls Tryz.prog 3 args W fun e W' => e = .returned (.bool true) ∧ Ext [] W W' := by
  rw [Tryz.params3] at hA hval
  obtain ⟨v0, vs0, d0, ds0, p0, q0, hargs, rfl, rfl, h0, r0⟩ := trodAll_cons hA
  obtain ⟨v1, vs1, d1, ds1, p1, q1, rfl, rfl, rfl, h1, r1⟩ := trodAll_cons r0
  obtain ⟨v2, vs2, d2, ds2, p2, q2, rfl, rfl, rfl, h2, r2⟩ := trodAll_cons r1
  obtain ⟨v3, vs3, d3, ds3, p3, q3, rfl, rfl, rfl, h3, r3⟩ := trodAll_cons r2
  obtain ⟨v4, vs4, d4, ds4, p4, q4, rfl, rfl, rfl, h4, r4⟩ := trodAll_cons r3
  obtain ⟨v5, vs5, d5, ds5, p5, q5, rfl, rfl, rfl, h5, r5⟩ := trodAll_cons r4
  obtain ⟨rfl, rfl, rfl⟩ := trodAll_nil r5
  obtain rfl : args = #[v0, v1, v2, v3, v4, v5] := by cases args; simp_all
  obtain ⟨a0, rfl, rfl, rfl, w0⟩ := open_int Tryz.underlying5 (hval 0 5 v0 rfl rfl) h0
  obtain ⟨f0, rfl⟩ : ∃ f : UInt8, a0 = (f.toNat : Int) := by
    have hw := w0
    simp only [Lit.wf, Bool.and_eq_true, decide_eq_true_eq] at hw
    have c0 : (0 : Int) ≤ a0 := hw.1
    have c1 : a0 ≤ (255 : Int) := hw.2
    exact ⟨UInt8.ofNat a0.toNat, by simp; omega⟩
  obtain ⟨A1, n1, c1, rfl⟩ := okWide_slice Tryz.underlying22 (hval 1 22 v1 rfl rfl)
  obtain ⟨m1, e1⟩ := h1
  obtain ⟨l1, hl1, ok1⟩ := iL_ ⟨m1, _, e1⟩
  obtain ⟨cs2, rfl, hcs2⟩ := okWide_struct Tryz.underlying26 (hval 2 26 v2 rfl rfl)
  obtain ⟨fuel2, hf2⟩ := h2
  obtain ⟨x2, hx2, ok2⟩ := A.open_chg (by rw [show (Value.agg cs2).cells = cs2 from rfl, Array.length_toList, hcs2]) hf2
  obtain ⟨A3, n3, c3, rfl⟩ := okWide_slice Tryz.underlying27 (hval 3 27 v3 rfl rfl)
  obtain ⟨m3, e3⟩ := h3
  obtain ⟨l3, hl3⟩ := hn_ ⟨m3, _, e3⟩
  obtain ⟨A4, n4, c4, rfl⟩ := okWide_slice Tryz.underlying28 (hval 4 28 v4 rfl rfl)
  obtain ⟨m4, e4⟩ := h4
  obtain ⟨l4, hl4, ok4⟩ := iN_ ⟨m4, _, e4⟩
  obtain ⟨A5, n5, c5, rfl⟩ := okWide_slice Tryz.underlying27 (hval 5 27 v5 rfl rfl)
  obtain ⟨m5, e5⟩ := h5
  obtain ⟨l5, hl5⟩ := hn_ ⟨m5, _, e5⟩
  exact A.law_of (A.areal_law_s (f := f0) (said := l1) (other := x2) (liars := l3) (lies := l4) (got := l5) ok1 ok2 fun a h => (ok4 a h).1) (vals := [.int .u8 f0.toNat, .slice A1 n1 c1, .agg cs2, .slice A3 n3 c3, .slice A4 n4 c4, .slice A5 n5 c5]) ⟨_, _, rfl, rfl, _, _, rfl, hl1, _, _, rfl, ⟨_, rfl, hx2⟩, _, _, rfl, hl3, _, _, rfl, hl4, _, _, rfl, hl5, rfl⟩

set_option maxRecDepth 100000 in
theorem dM_ (os : Os) (started : os.Started) (H : Type) (enc : TypeId × Value → H) :
    ReturnsInHanded {} Tryz.checked os 3 .any (Rows.admitRealSpec.pre6 enc Tryz.prog Tryz.f3 Rows.admitRealRow.domain false) (Rows.admitRealSpec.post enc Tryz.prog Tryz.f3 false true false false) :=
  law_lift (s := Rows.admitRealSpec) started (by kernel_rfl) Tryz.func3 rfl rfl (by kernel_rfl) (fun ds h => match ds, h with | [_, _, _, _, _, _], _ => rfl)
    (ChangeSpec.witness6 (enc := enc) (C := Tryz.checked) false ⟨#[], #[.int .u8 0, .slice none 0 0, .agg #[.int .i64 0, .int .i64 0, .slice none 0 0, .slice none 0 0, .slice none 0 0], .slice none 0 0, .slice none 0 0, .slice none 0 0], []⟩ 8 (by kernel_rfl) (by kernel_rfl) (by kernel_rfl) (by kernel_rfl))
    (fun W base args ds p hval hA hsz => eJ_ H enc W base args ds p hval hA hsz)
theorem AdmitReal_holds : Rows.AdmitRealSaid :=
  OpenClaim.holds_of_wide 3 Tryz.f3 rfl rfl rfl rfl rfl rfl rfl ⟨rfl, rfl, rfl, rfl, rfl⟩ rfl rfl rfl rfl rfl eD_ Tryz.func3 dN_
    (of_decide_eq_true (by kernel_rfl)) (by unfold Func.isWrapper; first | (rw [if_pos (by decide +kernel)]; kernel_rfl) | (rw [if_neg (by decide +kernel)]; exact ⟨rfl, rfl⟩))
    (fun os started H enc _ => dM_ os started H enc)
#print axioms AdmitReal_holds
end Go.Proofs.YtggajaigfkekhaaGreat
