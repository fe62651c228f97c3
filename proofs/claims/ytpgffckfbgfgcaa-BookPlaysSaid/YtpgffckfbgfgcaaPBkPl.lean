/-
  BookPlays: whatever is digested, tagged and asked of a book, one behind the other, each answer is the document's. Of any acts.
-/
import Derived.Test.YtpgffckfbgfgcaaP14
import Derived.Test.YtpgffckfbgfgcaaPBkPlF
set_option maxRecDepth 100000
namespace Go.Proofs.Ytpgffckfbgfgcaa
open Go.RowKit Go.ChangeShapes Go.WideShapes Go.ChangeAt
theorem BytesV.rowA {w : World} {v : Value} {l : List UInt8} (h : BytesV w v l) : IsRow [] w v l.length (l.map bc) := by
  obtain ⟨A, c, rfl, h1, h2, h3, h4⟩ := h
  refine ⟨⟨A, c, rfl, h1, h2, h3⟩, fun hn => ?_⟩
  obtain ⟨b, off, rfl, hc⟩ := h4 hn
  exact ⟨b, off, _, _, rfl, by simp, hc⟩
section
variable {H : Type} {enc : TypeId × Value → H} {w : World} {base : Nat} {spare : Nat → Bool} {held : Bool}
theorem open_txt {v : Value} (h : LeafAt enc Try.prog w base spare held 34 v) : ∃ l : List UInt8, A.rep [] w (A.byt l) v := by
  obtain ⟨fuel, x, h⟩ := h
  obtain ⟨A0, n, c, rfl⟩ : ∃ A n c, v = .slice A n c := by
    rcases Deep.open_slice Try.underlying34 h with ⟨hcs, _⟩ | ⟨a, len, cap, m, n', D, Pl, hcs, _⟩
    · simp at hcs; exact ⟨_, _, _, hcs⟩
    · simp at hcs; exact ⟨_, _, _, hcs⟩
  obtain ⟨l, hl⟩ := open_bytesV h
  exact ⟨l, A.rep_byt.2 hl.rowA⟩
theorem act_leaves : leaves Try.prog 4 135 = some (5 :: 3 :: 3 :: 34 :: List.replicate 32 5) := by kernel_rfl
theorem open_act (cs : List Value) (hl : cs.length = Try.prog.cellsOf 135) (h : ∃ m y, DataW.trod enc Try.prog w base spare held m 135 cs = some y) : ∃ x : A.Act5, A.reps [] w x.abs cs ∧ x.Ok := by
  obtain ⟨fuel, x, h⟩ := h
  rw [show Try.prog.cellsOf 135 = 36 by kernel_rfl] at hl
  have hh := leaves_trod 4 _ _ _ _ _ act_leaves (by simpa using hl.symm) h
  match cs, hl with
  | v0 :: v1 :: v2 :: v3 :: cs, hl =>
    obtain ⟨k, hk⟩ := A.open_u8 (cs := [v0]) fun v hv => by
      rw [List.mem_singleton.1 hv]
      exact hh 0 v0 _ rfl rfl
    obtain ⟨c, rfl⟩ : ∃ c, k = [c] := by
      have := congrArg List.length hk
      simp at this
      exact List.length_eq_one_iff.1 this.symm
    have hk : v0 = bc c := by simpa using hk
    subst hk
    obtain ⟨n1, rfl, b1⟩ := (hh 1 v1 _ rfl rfl).int Try.underlying3
    obtain ⟨n2, rfl, b2⟩ := (hh 2 v2 _ rfl rfl).int Try.underlying3
    obtain ⟨l, hl3⟩ := open_txt (hh 3 v3 _ rfl rfl)
    have hl2 : cs.length = 32 := by simpa using hl
    obtain ⟨d, rfl⟩ := A.open_u8 (cs := cs) fun v hv => by
      obtain ⟨j, hj, rfl⟩ := List.getElem_of_mem hv
      exact hh (j + 4) cs[j] _ (by rw [List.getElem?_cons_succ, List.getElem?_cons_succ, List.getElem?_cons_succ, List.getElem?_cons_succ, List.getElem?_eq_getElem hj]) (by rw [List.getElem?_cons_succ, List.getElem?_cons_succ, List.getElem?_cons_succ, List.getElem?_cons_succ, List.getElem?_replicate, if_pos (by omega)])
    exact ⟨⟨c, n1, n2, l, d, by simpa using hl2⟩, ⟨_, _, rfl, rfl, _, _, rfl, rfl, _, _, rfl, rfl, _, _, rfl, hl3, A.reps_dig d⟩, ⟨A.wfIn b1, A.wfIn b2⟩⟩
end

set_option maxRecDepth 100000 in
theorem BookPlays_args (H : Type) (enc : TypeId × Value → H) (W : World) (base : Nat) (args : Array Value) (ds : List (DataW H)) (p : List MemPlace)
    (hval : ∀ (j : Nat) t v, Try.f13.params[j]? = some t → args[j]? = some v → Value.okWide Try.prog W .any base t v)
    (hA : DataW.TrodAll enc Try.prog W 0 (fun _ => true) true Try.f13.params.toList args.toList ds p)
    (_hsz : (DataW.weightsEach Try.prog Try.f13.params.toList ds).all (· ≤ reachBytes) = true) :
    Calls Try.prog 13 args W fun e W' => e = .returned (.bool true) ∧ Ext [] W W' := by
  rw [Try.params13] at hA hval
  obtain ⟨v0, vs0, d0, ds0, p0, q0, hargs, rfl, rfl, h0, r0⟩ := trodAll_cons hA
  obtain ⟨rfl, rfl, rfl⟩ := trodAll_nil r0
  obtain rfl : args = #[v0] := by cases args; simp_all
  obtain ⟨A1, n1, c1, rfl⟩ := okWide_slice Try.underlying128 (hval 0 128 v0 rfl rfl)
  obtain ⟨fuel1, hf1⟩ := h0
  obtain ⟨l, hl, hs⟩ := A.open_slA (abs := A.Act5.abs) (Ok := A.Act5.Ok) (s := 36) Try.underlying128 (by kernel_rfl) ⟨fuel1, _, hf1⟩ open_act
  exact A.law_of (A.plays_s hs) (vals := [.slice A1 n1 c1]) ⟨_, _, rfl, hl, rfl⟩

set_option maxRecDepth 100000 in
theorem BookPlays_lifted (os : Os) (started : os.Started) (H : Type) (enc : TypeId × Value → H) :
    ReturnsInHanded {} Try.checked os 13 .any (Rows.bookPlaysSpec.pre6 enc Try.prog Try.f13 Rows.bookPlaysRow.domain false) (Rows.bookPlaysSpec.post enc Try.prog Try.f13 false true false false) :=
  law_lift (s := Rows.bookPlaysSpec) started (by kernel_rfl) Try.func13 rfl rfl (by kernel_rfl) (fun ds h => match ds, h with | [_], _ => rfl)
    (ChangeSpec.witness6 (enc := enc) (C := Try.checked) false ⟨#[], #[.slice none 0 0], []⟩ 8 (by kernel_rfl) (by kernel_rfl) (by kernel_rfl) (by kernel_rfl))
    (fun W base args ds p hval hA hsz => BookPlays_args H enc W base args ds p hval hA hsz)
theorem BookPlays_holds : Rows.BookPlaysSaid :=
  OpenClaim.holds_of_wide 13 Try.f13 rfl rfl rfl rfl rfl rfl rfl ⟨rfl, rfl, rfl, rfl, rfl⟩ rfl rfl rfl rfl rfl BookPlays_named Try.func13 BookPlays_closed
    (of_decide_eq_true (by kernel_rfl)) (by unfold Func.isWrapper; first | (rw [if_pos (by decide +kernel)]; kernel_rfl) | (rw [if_neg (by decide +kernel)]; exact ⟨rfl, rfl⟩))
    (fun os started H enc _ => BookPlays_lifted os started H enc)
#print axioms BookPlays_holds
end Go.Proofs.Ytpgffckfbgfgcaa
