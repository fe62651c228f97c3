/-
  BookApart: two texts have one digest just if they are the same, of one kind; a tag holds for just what it was made for. Of any arguments.
-/
import Derived.Test.YtdbeinbgekdnmaaBookWalk
import Derived.Test.YtdbeinbgekdnmaaOpenBytes
set_option maxRecDepth 100000
namespace Go.Proofs.Ytdbeinbgekdnmaa
open Go.RowKit Go.ChangeShapes Go.WideShapes Go.ChangeAt

set_option maxRecDepth 100000 in
theorem BookApart_args (H : Type) (enc : TypeId × Value → H) (W : World) (base : Nat) (args : Array Value) (ds : List (DataW H)) (p : List MemPlace)
    (hval : ∀ (j : Nat) t v, Try.f7.params[j]? = some t → args[j]? = some v → Value.okWide Try.prog W .any base t v)
    (hA : DataW.TrodAll enc Try.prog W 0 (fun _ => true) true Try.f7.params.toList args.toList ds p)
    (_hsz : (DataW.weightsEach Try.prog Try.f7.params.toList ds).all (· ≤ reachBytes) = true) :
    Calls Try.prog 7 args W fun e W' => e = .returned (.bool true) ∧ Ext [] W W' := by
  rw [Try.params7] at hA hval
  obtain ⟨v0, vs0, d0, ds0, p0, q0, hargs, rfl, rfl, h0, r0⟩ := trodAll_cons hA
  obtain ⟨v1, vs1, d1, ds1, p1, q1, rfl, rfl, rfl, h1, r1⟩ := trodAll_cons r0
  obtain ⟨v2, vs2, d2, ds2, p2, q2, rfl, rfl, rfl, h2, r2⟩ := trodAll_cons r1
  obtain ⟨v3, vs3, d3, ds3, p3, q3, rfl, rfl, rfl, h3, r3⟩ := trodAll_cons r2
  obtain ⟨v4, vs4, d4, ds4, p4, q4, rfl, rfl, rfl, h4, r4⟩ := trodAll_cons r3
  obtain ⟨v5, vs5, d5, ds5, p5, q5, rfl, rfl, rfl, h5, r5⟩ := trodAll_cons r4
  obtain ⟨v6, vs6, d6, ds6, p6, q6, rfl, rfl, rfl, h6, r6⟩ := trodAll_cons r5
  obtain ⟨v7, vs7, d7, ds7, p7, q7, rfl, rfl, rfl, h7, r7⟩ := trodAll_cons r6
  obtain ⟨rfl, rfl, rfl⟩ := trodAll_nil r7
  obtain rfl : args = #[v0, v1, v2, v3, v4, v5, v6, v7] := by cases args; simp_all
  obtain ⟨a0, rfl, rfl, rfl, w0⟩ := open_int Try.underlying3 (hval 0 3 v0 rfl rfl) h0
  obtain ⟨a2, rfl, rfl, rfl, w2⟩ := open_int Try.underlying3 (hval 2 3 v2 rfl rfl) h2
  obtain ⟨a4, rfl, rfl, rfl, w4⟩ := open_int Try.underlying3 (hval 4 3 v4 rfl rfl) h4
  obtain ⟨a5, rfl, rfl, rfl, w5⟩ := open_int Try.underlying3 (hval 5 3 v5 rfl rfl) h5
  obtain ⟨a6, rfl, rfl, rfl, w6⟩ := open_int Try.underlying3 (hval 6 3 v6 rfl rfl) h6
  obtain ⟨A1, n1, c1, rfl⟩ := okWide_slice Try.underlying34 (hval 1 34 v1 rfl rfl)
  obtain ⟨fuel1, hf1⟩ := h1
  obtain ⟨l1, hl1⟩ := open_bytesV hf1
  obtain rfl : l1.length = n1 := by
    obtain ⟨_, _, he, _⟩ := hl1
    simp at he
    omega
  obtain ⟨A3, n3, c3, rfl⟩ := okWide_slice Try.underlying34 (hval 3 34 v3 rfl rfl)
  obtain ⟨fuel3, hf3⟩ := h3
  obtain ⟨l3, hl3⟩ := open_bytesV hf3
  obtain rfl : l3.length = n3 := by
    obtain ⟨_, _, he, _⟩ := hl3
    simp at he
    omega
  obtain ⟨A7, n7, c7, rfl⟩ := okWide_slice Try.underlying42 (hval 7 42 v7 rfl rfl)
  obtain ⟨fuel7, hf7⟩ := h7
  obtain ⟨_, _, xs, hxl, hrow, hxs⟩ := open_bytesRows hf7
  by_cases hbig : 100 < l1.length ∨ 100 < l3.length ∨ 50 < n7
  · exact apart_big W a0 a2 a4 a5 a6 A1 A3 A7 _ _ _ _ _ _ hbig
  · have b4 := bounds_i64 w4
    have b5 := bounds_i64 w5
    have b6 := bounds_i64 w6
    exact apart_walk W a0 a2 a4 a5 a6 A1 A3 A7 c1 c3 n7 c7 l1 l3 xs hl1 hl3 hxl hrow hxs (by omega) (by omega) (by omega) (by unfold i64r; omega) (by unfold i64r; omega) (by unfold i64r; omega)

set_option maxRecDepth 100000 in
theorem BookApart_lifted (os : Os) (started : os.Started) (H : Type) (enc : TypeId × Value → H) :
    ReturnsInHanded {} Try.checked os 7 .any (Rows.bookApartSpec.pre6 enc Try.prog Try.f7 Rows.bookApartRow.domain false) (Rows.bookApartSpec.post enc Try.prog Try.f7 false true false false) :=
  law_lift (s := Rows.bookApartSpec) started (by kernel_rfl) Try.func7 rfl rfl (by kernel_rfl) (fun ds h => match ds, h with | [_, _, _, _, _, _, _, _], _ => rfl)
    (ChangeSpec.witness6 (enc := enc) (C := Try.checked) false ⟨#[], #[.int .i64 0, .slice none 0 0, .int .i64 0, .slice none 0 0, .int .i64 0, .int .i64 0, .int .i64 0, .slice none 0 0], []⟩ 8 (by kernel_rfl) (by kernel_rfl) (by kernel_rfl) (by kernel_rfl))
    (fun W base args ds p hval hA hsz => BookApart_args H enc W base args ds p hval hA hsz)
theorem BookApart_holds : Rows.BookApartSaid :=
  OpenClaim.holds_of_wide 7 Try.f7 rfl rfl rfl rfl rfl rfl rfl ⟨rfl, rfl, rfl, rfl, rfl⟩ rfl rfl rfl rfl rfl (by kernel_rfl) Try.func7 (by kernel_rfl)
    (of_decide_eq_true (by kernel_rfl)) (by unfold Func.isWrapper; first | (rw [if_pos (by decide +kernel)]; kernel_rfl) | (rw [if_neg (by decide +kernel)]; exact ⟨rfl, rfl⟩))
    (fun os started H enc _ => BookApart_lifted os started H enc)
#print axioms BookApart_holds
end Go.Proofs.Ytdbeinbgekdnmaa
