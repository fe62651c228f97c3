/-
  TallyPlays: whoever votes for what, one behind the other, and anew, all that a tally tells is the document's. Of any votes.
-/
import Derived.Test.YtonceioajbimaaaG010
import Derived.Test.YtonceioajbimaaaG0TaPlF
set_option maxRecDepth 100000
namespace Go.Proofs.Ytonceioajbimaaa
open Go.RowKit Go.ChangeShapes Go.WideShapes Go.ChangeAt
section
variable {H : Type} {enc : TypeId × Value → H} {w : World} {base : Nat} {spare : Nat → Bool} {held : Bool}
theorem act20_leaves : leaves Try.prog 4 33 = some (5 :: 3 :: 2 :: 2 :: List.replicate 32 5) := by kernel_rfl
theorem open_act20 (cs : List Value) (hl : cs.length = Try.prog.cellsOf 33) (h : ∃ m y, DataW.trod enc Try.prog w base spare held m 33 cs = some y) : ∃ x : A.Act20, A.reps [] w (A.actC x) cs ∧ x.ok := by
  obtain ⟨fuel, x, h⟩ := h
  rw [show Try.prog.cellsOf 33 = 36 by kernel_rfl] at hl
  have hh := leaves_trod 4 _ _ _ _ _ act20_leaves (by simpa using hl.symm) h
  match cs, hl with
  | v0 :: v1 :: v2 :: v3 :: cs, hl =>
    obtain ⟨k, hk⟩ := A.open_u8 (cs := [v0]) fun v hv => by
      rw [List.mem_singleton.1 hv]
      exact hh 0 v0 _ rfl rfl
    obtain ⟨c, rfl⟩ : ∃ c, k = [c] := by
      have := congrArg List.length hk
      simp at this
      exact List.length_eq_one_iff.1 this.symm
    have hk : v0 = bc c := by simpa using hk
    subst hk
    obtain ⟨n1, rfl, b1⟩ := (hh 1 v1 _ rfl rfl).int Try.underlying3
    obtain ⟨n2, rfl, b2⟩ := (hh 2 v2 _ rfl rfl).int Try.underlying2
    obtain ⟨n3, rfl, b3⟩ := (hh 3 v3 _ rfl rfl).int Try.underlying2
    have hl2 : cs.length = 32 := by simpa using hl
    obtain ⟨d, rfl⟩ := A.open_u8 (cs := cs) fun v hv => by
      obtain ⟨j, hj, rfl⟩ := List.getElem_of_mem hv
      exact hh (j + 4) cs[j] _ (by rw [List.getElem?_cons_succ, List.getElem?_cons_succ, List.getElem?_cons_succ, List.getElem?_cons_succ, List.getElem?_eq_getElem hj]) (by rw [List.getElem?_cons_succ, List.getElem?_cons_succ, List.getElem?_cons_succ, List.getElem?_cons_succ, List.getElem?_replicate, if_pos (by omega)])
    refine ⟨⟨c, n1, ⟨n2, n3, d, by simpa using hl2⟩⟩, ?_, ⟨A.wfIn b1, A.wfIn b2, A.wfIn b3⟩⟩
    exact ⟨_, _, rfl, rfl, _, _, rfl, rfl, A.reps_plain.2 rfl⟩
theorem open_acts20 {v : Value} (h : LeafAt enc Try.prog w base spare held 22 v) : ∃ xs : List A.Act20, A.rep [] w (A.actsA xs) v ∧ ∀ x ∈ xs, x.ok :=
  A.open_slA (abs := A.actC) (Ok := A.Act20.ok) (s := 36) Try.underlying22 (by kernel_rfl) h open_act20
end

set_option maxRecDepth 100000 in
theorem TallyPlays_args (H : Type) (enc : TypeId × Value → H) (W : World) (base : Nat) (args : Array Value) (ds : List (DataW H)) (p : List MemPlace)
    (hval : ∀ (j : Nat) t v, Try.f3.params[j]? = some t → args[j]? = some v → Value.okWide Try.prog W .any base t v)
    (hA : DataW.TrodAll enc Try.prog W 0 (fun _ => true) true Try.f3.params.toList args.toList ds p)
    (_hsz : (DataW.weightsEach Try.prog Try.f3.params.toList ds).all (· ≤ reachBytes) = true) :
    Calls Try.prog 3 args W fun e W' => e = .returned (.bool true) ∧ Ext [] W W' := by
  rw [Try.params3] at hA hval
  obtain ⟨v0, vs0, d0, ds0, p0, q0, hargs, rfl, rfl, h0, r0⟩ := trodAll_cons hA
  obtain ⟨v1, vs1, d1, ds1, p1, q1, rfl, rfl, rfl, h1, r1⟩ := trodAll_cons r0
  obtain ⟨rfl, rfl, rfl⟩ := trodAll_nil r1
  obtain rfl : args = #[v0, v1] := by cases args; simp_all
  obtain ⟨A0, n0, c0, rfl⟩ := okWide_slice Try.underlying22 (hval 0 22 v0 rfl rfl)
  obtain ⟨m0, e0⟩ := h0
  obtain ⟨l0, hl0, ok0⟩ := open_acts20 ⟨m0, _, e0⟩
  obtain ⟨a1, rfl, rfl, rfl, w1⟩ := open_int Try.underlying3 (hval 1 3 v1 rfl rfl) h1
  exact A.law_of (A.tplays_s (l := l0) (at_ := a1) ok0) (vals := [.slice A0 n0 c0, .int .i64 a1]) ⟨_, _, rfl, hl0, _, _, rfl, rfl, rfl⟩

set_option maxRecDepth 100000 in
theorem TallyPlays_lifted (os : Os) (started : os.Started) (H : Type) (enc : TypeId × Value → H) :
    ReturnsInHanded {} Try.checked os 3 .any (Rows.tallyPlaysSpec.pre6 enc Try.prog Try.f3 Rows.tallyPlaysRow.domain false) (Rows.tallyPlaysSpec.post enc Try.prog Try.f3 false true false false) :=
  law_lift (s := Rows.tallyPlaysSpec) started (by kernel_rfl) Try.func3 rfl rfl (by kernel_rfl) (fun ds h => match ds, h with | [_, _], _ => rfl)
    (ChangeSpec.witness6 (enc := enc) (C := Try.checked) false ⟨#[], #[.slice none 0 0, .int .i64 0], []⟩ 8 (by kernel_rfl) (by kernel_rfl) (by kernel_rfl) (by kernel_rfl))
    (fun W base args ds p hval hA hsz => TallyPlays_args H enc W base args ds p hval hA hsz)
theorem TallyPlays_holds : Rows.TallyPlaysSaid :=
  OpenClaim.holds_of_wide 3 Try.f3 rfl rfl rfl rfl rfl rfl rfl ⟨rfl, rfl, rfl, rfl, rfl⟩ rfl rfl rfl rfl rfl TallyPlays_named Try.func3 TallyPlays_closed
    (of_decide_eq_true (by kernel_rfl)) (by unfold Func.isWrapper; first | (rw [if_pos (by decide +kernel)]; kernel_rfl) | (rw [if_neg (by decide +kernel)]; exact ⟨rfl, rfl⟩))
    (fun os started H enc _ => TallyPlays_lifted os started H enc)
#print axioms TallyPlays_holds
end Go.Proofs.Ytonceioajbimaaa
