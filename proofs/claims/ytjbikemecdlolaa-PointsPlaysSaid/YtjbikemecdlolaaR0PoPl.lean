/-
  PointsPlays: whatever points are made, voted for, and let go, one behind the other, each answer is the document's, and all that is told of them.
-/
import Derived.Test.YtjbikemecdlolaaR09
import Derived.Test.YtjbikemecdlolaaR0PoPlF
set_option maxRecDepth 100000
namespace Go.Proofs.Ytjbikemecdlolaa
open Go.RowKit Go.ChangeShapes Go.WideShapes Go.ChangeAt
theorem BytesV.rowA {w : World} {v : Value} {l : List UInt8} (h : BytesV w v l) : IsRow [] w v l.length (l.map bc) := by
  obtain ⟨A, c, rfl, h1, h2, h3, h4⟩ := h
  refine ⟨⟨A, c, rfl, h1, h2, h3⟩, fun hn => ?_⟩
  obtain ⟨b, off, rfl, hc⟩ := h4 hn
  exact ⟨b, off, _, _, rfl, by simp, hc⟩
section
variable {H : Type} {enc : TypeId × Value → H} {w : World} {base : Nat} {spare : Nat → Bool} {held : Bool}
theorem open_txt {v : Value} (h : LeafAt enc Try.prog w base spare held 23 v) : ∃ l : List UInt8, A.rep [] w (A.byt l) v := by
  obtain ⟨fuel, x, h⟩ := h
  obtain ⟨A0, n, c, rfl⟩ : ∃ A n c, v = .slice A n c := by
    rcases Deep.open_slice Try.underlying23 h with ⟨hcs, _⟩ | ⟨a, len, cap, m, n', D, Pl, hcs, _⟩
    · simp at hcs; exact ⟨_, _, _, hcs⟩
    · simp at hcs; exact ⟨_, _, _, hcs⟩
  obtain ⟨l, hl⟩ := open_bytesV h
  exact ⟨l, A.rep_byt.2 hl.rowA⟩
theorem pac_leaves : leaves Try.prog 4 32 = some (5 :: 3 :: 2 :: (List.replicate 32 5 ++ [23])) := by kernel_rfl
theorem open_pac (cs : List Value) (hl : cs.length = Try.prog.cellsOf 32) (h : ∃ m y, DataW.trod enc Try.prog w base spare held m 32 cs = some y) : ∃ a : A.PAc, A.reps [] w a.abs cs ∧ A.PAcIn a := by
  obtain ⟨fuel, x, h⟩ := h
  rw [show Try.prog.cellsOf 32 = 36 by kernel_rfl] at hl
  have hh := leaves_trod 4 _ _ _ _ _ pac_leaves (by simpa using hl.symm) h
  match cs, hl with
  | v0 :: v1 :: v2 :: cs, hl =>
    obtain ⟨k, hk⟩ := A.open_u8 (cs := [v0]) fun v hv => by
      rw [List.mem_singleton.1 hv]
      exact hh 0 v0 _ rfl rfl
    obtain ⟨c, rfl⟩ : ∃ c, k = [c] := by
      have := congrArg List.length hk
      simp at this
      exact List.length_eq_one_iff.1 this.symm
    have hk : v0 = bc c := by simpa using hk
    subst hk
    obtain ⟨n1, rfl, b1⟩ := (hh 1 v1 _ rfl rfl).int Try.underlying3
    obtain ⟨n2, rfl, b2⟩ := (hh 2 v2 _ rfl rfl).int Try.underlying2
    have hl2 : cs.length = 33 := by simpa using hl
    obtain ⟨ds, v, rfl⟩ : ∃ ds v, cs = ds ++ [v] := ⟨cs.take 32, cs[32], by
      have h9 : cs.drop 32 = [cs[32]] := by
        rw [List.drop_eq_getElem_cons (by omega), List.drop_eq_nil_of_le (by omega)]
      rw [← h9, List.take_append_drop]⟩
    have hl3 : ds.length = 32 := by simpa using hl2
    obtain ⟨d, rfl⟩ := A.open_u8 (cs := ds) fun u hu => by
      obtain ⟨j, hj, rfl⟩ := List.getElem_of_mem hu
      exact hh (j + 3) ds[j] _ (by rw [List.getElem?_cons_succ, List.getElem?_cons_succ, List.getElem?_cons_succ, List.getElem?_append_left hj, List.getElem?_eq_getElem hj]) (by rw [List.getElem?_cons_succ, List.getElem?_cons_succ, List.getElem?_cons_succ, List.getElem?_append_left (by simp; omega), List.getElem?_replicate, if_pos (by omega)])
    obtain ⟨r, hr⟩ := open_txt (hh 35 v _ (by rw [List.getElem?_cons_succ, List.getElem?_cons_succ, List.getElem?_cons_succ, List.getElem?_append_right (by omega), hl3]; rfl) rfl)
    refine ⟨⟨c, n1, ⟨n2, d, by simpa using hl3⟩, r⟩, ?_, ⟨A.wfIn b1, A.wfIn b2⟩⟩
    exact ⟨_, _, rfl, rfl, _, _, rfl, rfl, A.reps_append (ps := A.Pnt.abs ⟨n2, d, by simpa using hl3⟩) (bs := [A.byt r]) (us := .int .i64 n2 :: d.map bc) (vs := [v]) ⟨_, _, rfl, rfl, A.reps_dig d⟩ ⟨_, _, rfl, hr, rfl⟩⟩
theorem open_pacs {v : Value} (h : LeafAt enc Try.prog w base spare held 22 v) : ∃ xs : List A.PAc, A.rep [] w (.sl 36 (xs.map A.PAc.abs)) v ∧ ∀ x ∈ xs, A.PAcIn x :=
  A.open_slA (abs := A.PAc.abs) (Ok := A.PAcIn) (s := 36) Try.underlying22 (by kernel_rfl) h open_pac
end

set_option maxRecDepth 100000 in
theorem PointsPlays_args (H : Type) (enc : TypeId × Value → H) (W : World) (base : Nat) (args : Array Value) (ds : List (DataW H)) (p : List MemPlace)
    (hval : ∀ (j : Nat) t v, Try.f5.params[j]? = some t → args[j]? = some v → Value.okWide Try.prog W .any base t v)
    (hA : DataW.TrodAll enc Try.prog W 0 (fun _ => true) true Try.f5.params.toList args.toList ds p)
    (_hsz : (DataW.weightsEach Try.prog Try.f5.params.toList ds).all (· ≤ reachBytes) = true) :
    Calls Try.prog 5 args W fun e W' => e = .returned (.bool true) ∧ Ext [] W W' := by
  rw [Try.params5] at hA hval
  obtain ⟨v0, vs0, d0, ds0, p0, q0, hargs, rfl, rfl, h0, r0⟩ := trodAll_cons hA
  obtain ⟨v1, vs1, d1, ds1, p1, q1, rfl, rfl, rfl, h1, r1⟩ := trodAll_cons r0
  obtain ⟨v2, vs2, d2, ds2, p2, q2, rfl, rfl, rfl, h2, r2⟩ := trodAll_cons r1
  obtain ⟨v3, vs3, d3, ds3, p3, q3, rfl, rfl, rfl, h3, r3⟩ := trodAll_cons r2
  obtain ⟨rfl, rfl, rfl⟩ := trodAll_nil r3
  obtain rfl : args = #[v0, v1, v2, v3] := by cases args; simp_all
  obtain ⟨a0, rfl, rfl, rfl, w0⟩ := open_int Try.underlying3 (hval 0 3 v0 rfl rfl) h0
  obtain ⟨a1, rfl, rfl, rfl, w1⟩ := open_int Try.underlying3 (hval 1 3 v1 rfl rfl) h1
  obtain ⟨A2, n2, c2, rfl⟩ := okWide_slice Try.underlying22 (hval 2 22 v2 rfl rfl)
  obtain ⟨m2, e2⟩ := h2
  obtain ⟨l2, hl2, ok2⟩ := open_pacs ⟨m2, _, e2⟩
  obtain ⟨a3, rfl, rfl, rfl, w3⟩ := open_int Try.underlying2 (hval 3 2 v3 rfl rfl) h3
  by_cases hg : 1 ≤ a0 ∧ a0 ≤ 7 ∧ 0 ≤ a1 ∧ a1 < a0
  · obtain ⟨n, hn⟩ : ∃ n : Nat, a0 = n := ⟨a0.toNat, by omega⟩
    obtain ⟨m, hm⟩ : ∃ m : Nat, a1 = m := ⟨a1.toNat, by omega⟩
    subst hn hm
    exact A.law_of (A.pplaysok_s (n := n) (me := m) (above := a3) (l := l2) (by omega) (by omega) (by omega) ok2) (vals := [.int .i64 (n : Nat), .int .i64 (m : Nat), .slice A2 n2 c2, .int .i64 a3]) ⟨_, _, rfl, rfl, _, _, rfl, rfl, _, _, rfl, hl2, _, _, rfl, rfl, rfl⟩
  · exact A.law_of (A.pplaysno_s (nI := a0) (meI := a1) (above := a3) (l := l2) hg) (vals := [.int .i64 a0, .int .i64 a1, .slice A2 n2 c2, .int .i64 a3]) ⟨_, _, rfl, rfl, _, _, rfl, rfl, _, _, rfl, hl2, _, _, rfl, rfl, rfl⟩

set_option maxRecDepth 100000 in
theorem PointsPlays_lifted (os : Os) (started : os.Started) (H : Type) (enc : TypeId × Value → H) :
    ReturnsInHanded {} Try.checked os 5 .any (Rows.pointsPlaysSpec.pre6 enc Try.prog Try.f5 Rows.pointsPlaysRow.domain false) (Rows.pointsPlaysSpec.post enc Try.prog Try.f5 false true false false) :=
  law_lift (s := Rows.pointsPlaysSpec) started (by kernel_rfl) Try.func5 rfl rfl (by kernel_rfl) (fun ds h => match ds, h with | [_, _, _, _], _ => rfl)
    (ChangeSpec.witness6 (enc := enc) (C := Try.checked) false ⟨#[], #[.int .i64 0, .int .i64 0, .slice none 0 0, .int .i64 0], []⟩ 8 (by kernel_rfl) (by kernel_rfl) (by kernel_rfl) (by kernel_rfl))
    (fun W base args ds p hval hA hsz => PointsPlays_args H enc W base args ds p hval hA hsz)
theorem PointsPlays_holds : Rows.PointsPlaysSaid :=
  OpenClaim.holds_of_wide 5 Try.f5 rfl rfl rfl rfl rfl rfl rfl ⟨rfl, rfl, rfl, rfl, rfl⟩ rfl rfl rfl rfl rfl PointsPlays_named Try.func5 PointsPlays_closed
    (of_decide_eq_true (by kernel_rfl)) (by unfold Func.isWrapper; first | (rw [if_pos (by decide +kernel)]; kernel_rfl) | (rw [if_neg (by decide +kernel)]; exact ⟨rfl, rfl⟩))
    (fun os started H enc _ => PointsPlays_lifted os started H enc)
#print axioms PointsPlays_holds
end Go.Proofs.Ytjbikemecdlolaa
