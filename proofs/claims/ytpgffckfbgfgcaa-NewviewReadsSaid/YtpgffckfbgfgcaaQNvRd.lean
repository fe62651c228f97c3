/-
  NewviewReads: the program reads bytes as a proof of a new view just as the document does. Of any bytes.
-/
import Derived.Test.YtpgffckfbgfgcaaQ15
import Derived.Test.YtpgffckfbgfgcaaQNvRdF
set_option maxRecDepth 100000
namespace Go.Proofs.Ytpgffckfbgfgcaa
open Go.RowKit Go.ChangeShapes Go.WideShapes Go.ChangeAt
theorem BytesV.rowA {w : World} {v : Value} {l : List UInt8} (h : BytesV w v l) : IsRow [] w v l.length (l.map bc) := by
  obtain ⟨A, c, rfl, h1, h2, h3, h4⟩ := h
  refine ⟨⟨A, c, rfl, h1, h2, h3⟩, fun hn => ?_⟩
  obtain ⟨b, off, rfl, hc⟩ := h4 hn
  exact ⟨b, off, _, _, rfl, by simp, hc⟩

set_option maxRecDepth 100000 in
theorem NewviewReads_args (H : Type) (enc : TypeId × Value → H) (W : World) (base : Nat) (args : Array Value) (ds : List (DataW H)) (p : List MemPlace)
    (hval : ∀ (j : Nat) t v, Try.f5.params[j]? = some t → args[j]? = some v → Value.okWide Try.prog W .any base t v)
    (hA : DataW.TrodAll enc Try.prog W 0 (fun _ => true) true Try.f5.params.toList args.toList ds p)
    (_hsz : (DataW.weightsEach Try.prog Try.f5.params.toList ds).all (· ≤ reachBytes) = true) :
    Calls Try.prog 5 args W fun e W' => e = .returned (.bool true) ∧ Ext [] W W' := by
  rw [Try.params5] at hA hval
  obtain ⟨v0, vs0, d0, ds0, p0, q0, hargs, rfl, rfl, h0, r0⟩ := trodAll_cons hA
  obtain ⟨v1, vs1, d1, ds1, p1, q1, rfl, rfl, rfl, h1, r1⟩ := trodAll_cons r0
  obtain ⟨rfl, rfl, rfl⟩ := trodAll_nil r1
  obtain rfl : args = #[v0, v1] := by cases args; simp_all
  obtain ⟨a1, rfl, rfl, rfl, w1⟩ := open_int Try.underlying3 (hval 1 3 v1 rfl rfl) h1
  obtain ⟨A0, n0, c0, rfl⟩ := okWide_slice Try.underlying34 (hval 0 34 v0 rfl rfl)
  obtain ⟨fuel0, hf0⟩ := h0
  obtain ⟨l0, hl0⟩ := open_bytesV hf0
  exact A.law_of (A.nreads_s (b := l0) (n := a1)) (vals := [.slice A0 n0 c0, .int .i64 a1]) ⟨_, _, rfl, A.rep_byt.2 hl0.rowA, _, _, rfl, rfl, rfl⟩

set_option maxRecDepth 100000 in
theorem NewviewReads_lifted (os : Os) (started : os.Started) (H : Type) (enc : TypeId × Value → H) :
    ReturnsInHanded {} Try.checked os 5 .any (Rows.newviewReadsSpec.pre6 enc Try.prog Try.f5 Rows.newviewReadsRow.domain false) (Rows.newviewReadsSpec.post enc Try.prog Try.f5 false true false false) :=
  law_lift (s := Rows.newviewReadsSpec) started (by kernel_rfl) Try.func5 rfl rfl (by kernel_rfl) (fun ds h => match ds, h with | [_, _], _ => rfl)
    (ChangeSpec.witness6 (enc := enc) (C := Try.checked) false ⟨#[], #[.slice none 0 0, .int .i64 0], []⟩ 8 (by kernel_rfl) (by kernel_rfl) (by kernel_rfl) (by kernel_rfl))
    (fun W base args ds p hval hA hsz => NewviewReads_args H enc W base args ds p hval hA hsz)
theorem NewviewReads_holds : Rows.NewviewReadsSaid :=
  OpenClaim.holds_of_wide 5 Try.f5 rfl rfl rfl rfl rfl rfl rfl ⟨rfl, rfl, rfl, rfl, rfl⟩ rfl rfl rfl rfl rfl NewviewReads_named Try.func5 NewviewReads_closed
    (of_decide_eq_true (by kernel_rfl)) (by unfold Func.isWrapper; first | (rw [if_pos (by decide +kernel)]; kernel_rfl) | (rw [if_neg (by decide +kernel)]; exact ⟨rfl, rfl⟩))
    (fun os started H enc _ => NewviewReads_lifted os started H enc)
#print axioms NewviewReads_holds
end Go.Proofs.Ytpgffckfbgfgcaa
