/-
  WindowPlays: whatever is asked of a log, one behind the other, each answer is the document's, and its slots, marks, and what is said in them. Of any number of replicas and any acts.
-/
import Derived.Test.YtoifikgnbblbgaaI010
import Derived.Test.YtoifikgnbblbgaaI0WiPlF
set_option maxRecDepth 100000
namespace Go.Proofs.Ytoifikgnbblbgaa
open Go.RowKit Go.ChangeShapes Go.WideShapes Go.ChangeAt
section
variable {H : Type} {enc : TypeId × Value → H} {w : World} {base : Nat} {spare : Nat → Bool} {held : Bool}
theorem act22_leaves : leaves Try.prog 4 43 = some (5 :: 2 :: 3 :: List.replicate 32 5) := by kernel_rfl
theorem open_act22 (cs : List Value) (hl : cs.length = Try.prog.cellsOf 43) (h : ∃ m y, DataW.trod enc Try.prog w base spare held m 43 cs = some y) : ∃ x : A.Act22, A.reps [] w (A.a22 x) cs ∧ x.ok := by
  obtain ⟨fuel, x, h⟩ := h
  rw [show Try.prog.cellsOf 43 = 35 by kernel_rfl] at hl
  have hh := leaves_trod 4 _ _ _ _ _ act22_leaves (by simpa using hl.symm) h
  match cs, hl with
  | v0 :: v1 :: v2 :: cs, hl =>
    obtain ⟨k, hk⟩ := A.open_u8 (cs := [v0]) fun v hv => by
      rw [List.mem_singleton.1 hv]
      exact hh 0 v0 _ rfl rfl
    obtain ⟨c, rfl⟩ : ∃ c, k = [c] := by
      have := congrArg List.length hk
      simp at this
      exact List.length_eq_one_iff.1 this.symm
    have hk : v0 = bc c := by simpa using hk
    subst hk
    obtain ⟨n1, rfl, b1⟩ := (hh 1 v1 _ rfl rfl).int Try.underlying2
    obtain ⟨n2, rfl, b2⟩ := (hh 2 v2 _ rfl rfl).int Try.underlying3
    have hl2 : cs.length = 32 := by simpa using hl
    obtain ⟨d, rfl⟩ := A.open_u8 (cs := cs) fun v hv => by
      obtain ⟨j, hj, rfl⟩ := List.getElem_of_mem hv
      exact hh (j + 3) cs[j] _ (by rw [List.getElem?_cons_succ, List.getElem?_cons_succ, List.getElem?_cons_succ, List.getElem?_eq_getElem hj]) (by rw [List.getElem?_cons_succ, List.getElem?_cons_succ, List.getElem?_cons_succ, List.getElem?_replicate, if_pos (by omega)])
    refine ⟨⟨c, n1, n2, ⟨d, by simpa using hl2⟩⟩, ?_, ⟨A.wfIn b1, A.wfIn b2⟩⟩
    exact ⟨_, _, rfl, rfl, _, _, rfl, rfl, _, _, rfl, rfl, A.reps_plain.2 rfl⟩
theorem open_acts22 {v : Value} (h : LeafAt enc Try.prog w base spare held 32 v) : ∃ xs : List A.Act22, A.rep [] w (A.acts22 xs) v ∧ ∀ x ∈ xs, x.ok :=
  A.open_slA (abs := A.a22) (Ok := A.Act22.ok) (s := 35) Try.underlying32 (by kernel_rfl) h open_act22
end

set_option maxRecDepth 100000 in
theorem WindowPlays_args (H : Type) (enc : TypeId × Value → H) (W : World) (base : Nat) (args : Array Value) (ds : List (DataW H)) (p : List MemPlace)
    (hval : ∀ (j : Nat) t v, Try.f4.params[j]? = some t → args[j]? = some v → Value.okWide Try.prog W .any base t v)
    (hA : DataW.TrodAll enc Try.prog W 0 (fun _ => true) true Try.f4.params.toList args.toList ds p)
    (_hsz : (DataW.weightsEach Try.prog Try.f4.params.toList ds).all (· ≤ reachBytes) = true) :
    Calls Try.prog 4 args W fun e W' => e = .returned (.bool true) ∧ Ext [] W W' := by
  rw [Try.params4] at hA hval
  obtain ⟨v0, vs0, d0, ds0, p0, q0, hargs, rfl, rfl, h0, r0⟩ := trodAll_cons hA
  obtain ⟨v1, vs1, d1, ds1, p1, q1, rfl, rfl, rfl, h1, r1⟩ := trodAll_cons r0
  obtain ⟨rfl, rfl, rfl⟩ := trodAll_nil r1
  obtain rfl : args = #[v0, v1] := by cases args; simp_all
  obtain ⟨a0, rfl, rfl, rfl, w0⟩ := open_int Try.underlying3 (hval 0 3 v0 rfl rfl) h0
  obtain ⟨A1, n1, c1, rfl⟩ := okWide_slice Try.underlying32 (hval 1 32 v1 rfl rfl)
  obtain ⟨m1, e1⟩ := h1
  obtain ⟨l1, hl1, ok1⟩ := open_acts22 ⟨m1, _, e1⟩
  by_cases hn : 1 ≤ a0 ∧ a0 ≤ 7
  · exact A.law_of (A.wplaysK_s (n := a0) (l := l1) hn ok1) (vals := [.int .i64 a0, .slice A1 n1 c1]) ⟨_, _, rfl, rfl, _, _, rfl, hl1, rfl⟩
  · exact A.law_of (A.wplaysN_s (n := a0) (l := l1) hn) (vals := [.int .i64 a0, .slice A1 n1 c1]) ⟨_, _, rfl, rfl, _, _, rfl, hl1, rfl⟩

set_option maxRecDepth 100000 in
theorem WindowPlays_lifted (os : Os) (started : os.Started) (H : Type) (enc : TypeId × Value → H) :
    ReturnsInHanded {} Try.checked os 4 .any (Rows.windowPlaysSpec.pre6 enc Try.prog Try.f4 Rows.windowPlaysRow.domain false) (Rows.windowPlaysSpec.post enc Try.prog Try.f4 false true false false) :=
  law_lift (s := Rows.windowPlaysSpec) started (by kernel_rfl) Try.func4 rfl rfl (by kernel_rfl) (fun ds h => match ds, h with | [_, _], _ => rfl)
    (ChangeSpec.witness6 (enc := enc) (C := Try.checked) false ⟨#[], #[.int .i64 0, .slice none 0 0], []⟩ 8 (by kernel_rfl) (by kernel_rfl) (by kernel_rfl) (by kernel_rfl))
    (fun W base args ds p hval hA hsz => WindowPlays_args H enc W base args ds p hval hA hsz)
theorem WindowPlays_holds : Rows.WindowPlaysSaid :=
  OpenClaim.holds_of_wide 4 Try.f4 rfl rfl rfl rfl rfl rfl rfl ⟨rfl, rfl, rfl, rfl, rfl⟩ rfl rfl rfl rfl rfl WindowPlays_named Try.func4 WindowPlays_closed
    (of_decide_eq_true (by kernel_rfl)) (by unfold Func.isWrapper; first | (rw [if_pos (by decide +kernel)]; kernel_rfl) | (rw [if_neg (by decide +kernel)]; exact ⟨rfl, rfl⟩))
    (fun os started H enc _ => WindowPlays_lifted os started H enc)
#print axioms WindowPlays_holds
end Go.Proofs.Ytoifikgnbblbgaa
