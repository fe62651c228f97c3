/-
  EndorseMasks: who stands behind any request, as any replica sees it, is what the document says, whoever of the signers really signed, by a book. Of any request, signers and numbers.
-/
import Derived.Test.YtbhjchlflkgjbaaM011
import Derived.Test.YtbhjchlflkgjbaaM0EnMaF
set_option maxRecDepth 100000
namespace Go.Proofs.Ytbhjchlflkgjbaa
open Go.RowKit Go.ChangeShapes Go.WideShapes Go.ChangeAt
section
variable {H : Type} {enc : TypeId × Value → H} {w : World} {base : Nat} {spare : Nat → Bool} {held : Bool}
theorem open_int1 (cs : List Value) (hl : cs.length = Try.prog.cellsOf 3) (h : ∃ m y, DataW.trod enc Try.prog w base spare held m 3 cs = some y) : ∃ x : Int, A.reps [] w [A.int x] cs ∧ InR .i64 x := by
  obtain ⟨fuel, x, h⟩ := h
  rw [show Try.prog.cellsOf 3 = 1 by kernel_rfl] at hl
  have hlv : leaves Try.prog 4 3 = some [3] := by kernel_rfl
  have hh := leaves_trod 4 _ _ _ _ _ hlv (by simpa using hl.symm) h
  match cs, hl with
  | [v0], _ =>
    obtain ⟨n0, rfl, b0⟩ := (hh 0 v0 _ rfl rfl).int Try.underlying3
    exact ⟨n0, ⟨_, _, rfl, rfl, rfl⟩, A.wfIn b0⟩
theorem open_ints {v : Value} (h : LeafAt enc Try.prog w base spare held 27 v) : ∃ xs : List Int, A.rep [] w (A.ints xs) v ∧ ∀ x ∈ xs, InR .i64 x :=
  A.open_slA (abs := fun x => [A.int x]) (Ok := fun x => InR .i64 x) (s := 1) Try.underlying27 (by kernel_rfl) h open_int1
end

set_option maxRecDepth 100000 in
theorem EndorseMasks_args (H : Type) (enc : TypeId × Value → H) (W : World) (base : Nat) (args : Array Value) (ds : List (DataW H)) (p : List MemPlace)
    (hval : ∀ (j : Nat) t v, Try.f3.params[j]? = some t → args[j]? = some v → Value.okWide Try.prog W .any base t v)
    (hA : DataW.TrodAll enc Try.prog W 0 (fun _ => true) true Try.f3.params.toList args.toList ds p)
    (_hsz : (DataW.weightsEach Try.prog Try.f3.params.toList ds).all (· ≤ reachBytes) = true) :
    Calls Try.prog 3 args W fun e W' => e = .returned (.bool true) ∧ Ext [] W W' := by
  rw [Try.params3] at hA hval
  obtain ⟨v0, vs0, d0, ds0, p0, q0, hargs, rfl, rfl, h0, r0⟩ := trodAll_cons hA
  obtain ⟨v1, vs1, d1, ds1, p1, q1, rfl, rfl, rfl, h1, r1⟩ := trodAll_cons r0
  obtain ⟨v2, vs2, d2, ds2, p2, q2, rfl, rfl, rfl, h2, r2⟩ := trodAll_cons r1
  obtain ⟨v3, vs3, d3, ds3, p3, q3, rfl, rfl, rfl, h3, r3⟩ := trodAll_cons r2
  obtain ⟨rfl, rfl, rfl⟩ := trodAll_nil r3
  obtain rfl : args = #[v0, v1, v2, v3] := by cases args; simp_all
  obtain ⟨cs0, rfl, hcs0⟩ := okWide_struct Try.underlying26 (hval 0 26 v0 rfl rfl)
  obtain ⟨fuel0, hf0⟩ := h0
  obtain ⟨q, hq, hci, ho⟩ := A.open_rq (by rw [show (Value.agg cs0).cells = cs0 from rfl, Array.length_toList, hcs0]) hf0
  obtain ⟨A1, n1, c1, rfl⟩ := okWide_slice Try.underlying27 (hval 1 27 v1 rfl rfl)
  obtain ⟨m1, e1⟩ := h1
  obtain ⟨l1, hl1, ok1⟩ := open_ints ⟨m1, _, e1⟩
  obtain ⟨a2, rfl, rfl, rfl, w2⟩ := open_int Try.underlying3 (hval 2 3 v2 rfl rfl) h2
  obtain ⟨a3, rfl, rfl, rfl, w3⟩ := open_int Try.underlying3 (hval 3 3 v3 rfl rfl) h3
  exact A.law_of (A.emasks_s (q := q) (ss := l1) (n := a2) (who := a3)) (vals := [.agg cs0, .slice A1 n1 c1, .int .i64 a2, .int .i64 a3]) ⟨_, _, rfl, ⟨cs0.toList, by simp, hq⟩, _, _, rfl, hl1, _, _, rfl, rfl, _, _, rfl, rfl, rfl⟩

set_option maxRecDepth 100000 in
theorem EndorseMasks_lifted (os : Os) (started : os.Started) (H : Type) (enc : TypeId × Value → H) :
    ReturnsInHanded {} Try.checked os 3 .any (Rows.endorseMasksSpec.pre6 enc Try.prog Try.f3 Rows.endorseMasksRow.domain false) (Rows.endorseMasksSpec.post enc Try.prog Try.f3 false true false false) :=
  law_lift (s := Rows.endorseMasksSpec) started (by kernel_rfl) Try.func3 rfl rfl (by kernel_rfl) (fun ds h => match ds, h with | [_, _, _, _], _ => rfl)
    (ChangeSpec.witness6 (enc := enc) (C := Try.checked) false ⟨#[], #[.agg #[.int .i64 0, .int .i64 0, .int .i64 0, .string ⟨#[]⟩, .int .i64 0, .int .i64 0, .string ⟨#[]⟩, .slice none 0 0], .slice none 0 0, .int .i64 0, .int .i64 0], []⟩ 8 (by kernel_rfl) (by kernel_rfl) (by kernel_rfl) (by kernel_rfl))
    (fun W base args ds p hval hA hsz => EndorseMasks_args H enc W base args ds p hval hA hsz)
theorem EndorseMasks_holds : Rows.EndorseMasksSaid :=
  OpenClaim.holds_of_wide 3 Try.f3 rfl rfl rfl rfl rfl rfl rfl ⟨rfl, rfl, rfl, rfl, rfl⟩ rfl rfl rfl rfl rfl EndorseMasks_named Try.func3 EndorseMasks_closed
    (of_decide_eq_true (by kernel_rfl)) (by unfold Func.isWrapper; first | (rw [if_pos (by decide +kernel)]; kernel_rfl) | (rw [if_neg (by decide +kernel)]; exact ⟨rfl, rfl⟩))
    (fun os started H enc _ => EndorseMasks_lifted os started H enc)
#print axioms EndorseMasks_holds
end Go.Proofs.Ytbhjchlflkgjbaa
