/-
  KeysTells: keys, digests and tags are the document's, whoever asks, and in whatever order. Of any seed, numbers and text.
-/
import Derived.Test.YtpgffckfbgfgcaaE010
import Derived.Test.YtpgffckfbgfgcaaE0KyTeF
set_option maxRecDepth 100000
namespace Go.Proofs.Ytpgffckfbgfgcaa
open Go.RowKit Go.ChangeShapes Go.WideShapes Go.ChangeAt
theorem BytesV.rowA {w : World} {v : Value} {l : List UInt8} (h : BytesV w v l) : IsRow [] w v l.length (l.map bc) := by
  obtain ⟨A, c, rfl, h1, h2, h3, h4⟩ := h
  refine ⟨⟨A, c, rfl, h1, h2, h3⟩, fun hn => ?_⟩
  obtain ⟨b, off, rfl, hc⟩ := h4 hn
  exact ⟨b, off, _, _, rfl, by simp, hc⟩
section
variable {H : Type} {enc : TypeId × Value → H} {w : World} {base : Nat} {spare : Nat → Bool} {held : Bool}
theorem open_txt {v : Value} (h : LeafAt enc Try.prog w base spare held 34 v) : ∃ l : List UInt8, A.rep [] w (A.byt l) v := by
  obtain ⟨fuel, x, h⟩ := h
  obtain ⟨A0, n, c, rfl⟩ : ∃ A n c, v = .slice A n c := by
    rcases Deep.open_slice Try.underlying34 h with ⟨hcs, _⟩ | ⟨a, len, cap, m, n', D, Pl, hcs, _⟩
    · simp at hcs; exact ⟨_, _, _, hcs⟩
    · simp at hcs; exact ⟨_, _, _, hcs⟩
  obtain ⟨l, hl⟩ := open_bytesV h
  exact ⟨l, A.rep_byt.2 hl.rowA⟩
theorem okWide_array {P : Program} {w : World} {r : Reach} {base : Nat} {t e : TypeId} {v : Value} {n : Nat} (ht : P.underlying t = some (.array n e)) (h : Value.okWide P w r base t v) : ∃ cs, v = .agg cs ∧ cs.size = P.cellsOf t := by
  simp only [Value.okWide, ht] at h
  obtain ⟨cs, h1, h2, _⟩ := h
  exact ⟨cs, h1, h2⟩
theorem tag_leaves : leaves Try.prog 4 120 = some (List.replicate 32 5) := by kernel_rfl
theorem open_tag (cs : List Value) (hl : cs.length = 32) (h : ∃ m y, DataW.trod enc Try.prog w base spare held m 120 cs = some y) : ∃ d : List UInt8, cs = d.map bc := by
  obtain ⟨fuel, x, h⟩ := h
  have hh := leaves_trod 4 _ _ _ _ _ tag_leaves (by simpa using hl.symm) h
  exact A.open_u8 (cs := cs) fun v hv => by
    obtain ⟨j, hj, rfl⟩ := List.getElem_of_mem hv
    exact hh j cs[j] _ (List.getElem?_eq_getElem hj) (by rw [List.getElem?_replicate, if_pos (by omega)])
end

set_option maxRecDepth 100000 in
theorem KeysTells_args (H : Type) (enc : TypeId × Value → H) (W : World) (base : Nat) (args : Array Value) (ds : List (DataW H)) (p : List MemPlace)
    (hval : ∀ (j : Nat) t v, Try.f11.params[j]? = some t → args[j]? = some v → Value.okWide Try.prog W .any base t v)
    (hA : DataW.TrodAll enc Try.prog W 0 (fun _ => true) true Try.f11.params.toList args.toList ds p)
    (_hsz : (DataW.weightsEach Try.prog Try.f11.params.toList ds).all (· ≤ reachBytes) = true) :
    Calls Try.prog 11 args W fun e W' => e = .returned (.bool true) ∧ Ext [] W W' := by
  rw [Try.params11] at hA hval
  obtain ⟨v0, vs0, d0, ds0, p0, q0, hargs, rfl, rfl, h0, r0⟩ := trodAll_cons hA
  obtain ⟨v1, vs1, d1, ds1, p1, q1, rfl, rfl, rfl, h1, r1⟩ := trodAll_cons r0
  obtain ⟨v2, vs2, d2, ds2, p2, q2, rfl, rfl, rfl, h2, r2⟩ := trodAll_cons r1
  obtain ⟨v3, vs3, d3, ds3, p3, q3, rfl, rfl, rfl, h3, r3⟩ := trodAll_cons r2
  obtain ⟨v4, vs4, d4, ds4, p4, q4, rfl, rfl, rfl, h4, r4⟩ := trodAll_cons r3
  obtain ⟨rfl, rfl, rfl⟩ := trodAll_nil r4
  obtain rfl : args = #[v0, v1, v2, v3, v4] := by cases args; simp_all
  obtain ⟨a1, rfl, rfl, rfl, w1⟩ := open_int Try.underlying3 (hval 1 3 v1 rfl rfl) h1
  obtain ⟨a2, rfl, rfl, rfl, w2⟩ := open_int Try.underlying3 (hval 2 3 v2 rfl rfl) h2
  obtain ⟨a3, rfl, rfl, rfl, w3⟩ := open_int Try.underlying3 (hval 3 3 v3 rfl rfl) h3
  obtain ⟨A0, n0, c0, rfl⟩ := okWide_slice Try.underlying34 (hval 0 34 v0 rfl rfl)
  obtain ⟨m0, e0⟩ := h0
  obtain ⟨l0, hl0⟩ := open_txt ⟨m0, _, e0⟩
  obtain ⟨A4, n4, c4, rfl⟩ := okWide_slice Try.underlying34 (hval 4 34 v4 rfl rfl)
  obtain ⟨m4, e4⟩ := h4
  obtain ⟨l4, hl4⟩ := open_txt ⟨m4, _, e4⟩
  exact A.law_of (A.tells_s (seed := l0) (a := a1) (b := a2) (k := a3) (l := l4)) (vals := [.slice A0 n0 c0, .int .i64 a1, .int .i64 a2, .int .i64 a3, .slice A4 n4 c4]) ⟨_, _, rfl, hl0, _, _, rfl, rfl, _, _, rfl, rfl, _, _, rfl, rfl, _, _, rfl, hl4, rfl⟩

set_option maxRecDepth 100000 in
theorem KeysTells_lifted (os : Os) (started : os.Started) (H : Type) (enc : TypeId × Value → H) :
    ReturnsInHanded {} Try.checked os 11 .any (Rows.keysTellsSpec.pre6 enc Try.prog Try.f11 Rows.keysTellsRow.domain false) (Rows.keysTellsSpec.post enc Try.prog Try.f11 false true false false) :=
  law_lift (s := Rows.keysTellsSpec) started (by kernel_rfl) Try.func11 rfl rfl (by kernel_rfl) (fun ds h => match ds, h with | [_, _, _, _, _], _ => rfl)
    (ChangeSpec.witness6 (enc := enc) (C := Try.checked) false ⟨#[], #[.slice none 0 0, .int .i64 0, .int .i64 0, .int .i64 0, .slice none 0 0], []⟩ 8 (by kernel_rfl) (by kernel_rfl) (by kernel_rfl) (by kernel_rfl))
    (fun W base args ds p hval hA hsz => KeysTells_args H enc W base args ds p hval hA hsz)
theorem KeysTells_holds : Rows.KeysTellsSaid :=
  OpenClaim.holds_of_wide 11 Try.f11 rfl rfl rfl rfl rfl rfl rfl ⟨rfl, rfl, rfl, rfl, rfl⟩ rfl rfl rfl rfl rfl KeysTells_named Try.func11 KeysTells_closed
    (of_decide_eq_true (by kernel_rfl)) (by unfold Func.isWrapper; first | (rw [if_pos (by decide +kernel)]; kernel_rfl) | (rw [if_neg (by decide +kernel)]; exact ⟨rfl, rfl⟩))
    (fun os started H enc _ => KeysTells_lifted os started H enc)
#print axioms KeysTells_holds
end Go.Proofs.Ytpgffckfbgfgcaa
