/-
  VectorSigns: what is signed holds, by a table of keys and by a book, for each at his place; by a book for nobody else, and for no other kind, body or sender. Of any seed, message and receivers.
-/
import Derived.Test.YtgfndlibbfamfaaH09
import Derived.Test.YtgfndlibbfamfaaH0VcSiF
set_option maxRecDepth 100000
namespace Go.Proofs.Ytgfndlibbfamfaa
open Go.RowKit Go.ChangeShapes Go.WideShapes Go.ChangeAt
theorem BytesV.rowA {w : World} {v : Value} {l : List UInt8} (h : BytesV w v l) : IsRow [] w v l.length (l.map bc) := by
  obtain ⟨A, c, rfl, h1, h2, h3, h4⟩ := h
  refine ⟨⟨A, c, rfl, h1, h2, h3⟩, fun hn => ?_⟩
  obtain ⟨b, off, rfl, hc⟩ := h4 hn
  exact ⟨b, off, _, _, rfl, by simp, hc⟩
section
variable {H : Type} {enc : TypeId × Value → H} {w : World} {base : Nat} {spare : Nat → Bool} {held : Bool}
theorem open_txt {v : Value} (h : LeafAt enc Try.prog w base spare held 22 v) : ∃ l : List UInt8, A.rep [] w (A.byt l) v := by
  obtain ⟨fuel, x, h⟩ := h
  obtain ⟨A0, n, c, rfl⟩ : ∃ A n c, v = .slice A n c := by
    rcases Deep.open_slice Try.underlying22 h with ⟨hcs, _⟩ | ⟨a, len, cap, m, n', D, Pl, hcs, _⟩
    · simp at hcs; exact ⟨_, _, _, hcs⟩
    · simp at hcs; exact ⟨_, _, _, hcs⟩
  obtain ⟨l, hl⟩ := open_bytesV h
  exact ⟨l, A.rep_byt.2 hl.rowA⟩
theorem open_tg (cs : List Value) (hl : cs.length = Try.prog.cellsOf 37) (h : ∃ m y, DataW.trod enc Try.prog w base spare held m 37 cs = some y) : ∃ x : A.Tg, A.reps [] w x.abs cs ∧ True := by
  obtain ⟨fuel, x, h⟩ := h
  rw [show Try.prog.cellsOf 37 = 32 by kernel_rfl] at hl
  have hlv : leaves Try.prog 4 37 = some (List.replicate 32 5) := by kernel_rfl
  have hh := leaves_trod 4 _ _ _ _ _ hlv (by simpa using hl.symm) h
  obtain ⟨d, rfl⟩ := A.open_u8 (cs := cs) fun v hv => by
    obtain ⟨j, hj, rfl⟩ := List.getElem_of_mem hv
    exact hh j cs[j] _ (List.getElem?_eq_getElem hj) (by rw [List.getElem?_replicate, if_pos (by omega)])
  exact ⟨⟨d, by simpa using hl⟩, A.reps_dig d, trivial⟩
theorem msg_leaves : leaves Try.prog 4 26 = some [3, 3, 22, 24] := by kernel_rfl
theorem open_msg {cs : List Value} {fuel : Nat} {x : DataW H × List MemPlace} (hl : cs.length = Try.prog.cellsOf 26) (h : DataW.trod enc Try.prog w base spare held fuel 26 cs = some x) : ∃ m : A.Msg, A.reps [] w m.abs cs ∧ InR .i64 m.from_ := by
  rw [show Try.prog.cellsOf 26 = 4 by kernel_rfl] at hl
  have hh := leaves_trod 4 _ _ _ _ _ msg_leaves (by simpa using hl.symm) h
  match cs, hl with
  | [v0, v1, v2, v3], _ =>
    obtain ⟨n0, rfl, b0⟩ := (hh 0 v0 _ rfl rfl).int Try.underlying3
    obtain ⟨n1, rfl, b1⟩ := (hh 1 v1 _ rfl rfl).int Try.underlying3
    obtain ⟨l, hl2⟩ := open_txt (hh 2 v2 _ rfl rfl)
    obtain ⟨ts, ht, _⟩ := A.open_slA (abs := A.Tg.abs) (Ok := fun _ => True) (s := 32) Try.underlying24 (by kernel_rfl) (hh 3 v3 _ rfl rfl) open_tg
    exact ⟨⟨n0, n1, l, ts⟩, ⟨_, _, rfl, rfl, _, _, rfl, rfl, _, _, rfl, hl2, _, _, rfl, ht, rfl⟩, A.wfIn b1⟩
theorem open_int1 (cs : List Value) (hl : cs.length = Try.prog.cellsOf 3) (h : ∃ m y, DataW.trod enc Try.prog w base spare held m 3 cs = some y) : ∃ x : Int, A.reps [] w [A.int x] cs ∧ InR .i64 x := by
  obtain ⟨fuel, x, h⟩ := h
  rw [show Try.prog.cellsOf 3 = 1 by kernel_rfl] at hl
  have hlv : leaves Try.prog 4 3 = some [3] := by kernel_rfl
  have hh := leaves_trod 4 _ _ _ _ _ hlv (by simpa using hl.symm) h
  match cs, hl with
  | [v0], _ =>
    obtain ⟨n0, rfl, b0⟩ := (hh 0 v0 _ rfl rfl).int Try.underlying3
    exact ⟨n0, ⟨_, _, rfl, rfl, rfl⟩, A.wfIn b0⟩
theorem open_ints {v : Value} (h : LeafAt enc Try.prog w base spare held 23 v) : ∃ xs : List Int, A.rep [] w (A.ints xs) v ∧ ∀ x ∈ xs, InR .i64 x :=
  A.open_slA (abs := fun x => [A.int x]) (Ok := fun x => InR .i64 x) (s := 1) Try.underlying23 (by kernel_rfl) h open_int1
theorem inr_r {a : Int} (h : InR .i64 a) : i64r a := by
  simp only [InR, lo, hi] at h
  unfold i64r
  omega
end

set_option maxRecDepth 100000 in
theorem VectorSigns_args (H : Type) (enc : TypeId × Value → H) (W : World) (base : Nat) (args : Array Value) (ds : List (DataW H)) (p : List MemPlace)
    (hval : ∀ (j : Nat) t v, Try.f3.params[j]? = some t → args[j]? = some v → Value.okWide Try.prog W .any base t v)
    (hA : DataW.TrodAll enc Try.prog W 0 (fun _ => true) true Try.f3.params.toList args.toList ds p)
    (_hsz : (DataW.weightsEach Try.prog Try.f3.params.toList ds).all (· ≤ reachBytes) = true) :
    Calls Try.prog 3 args W fun e W' => e = .returned (.bool true) ∧ Ext [] W W' := by
  rw [Try.params3] at hA hval
  obtain ⟨v0, vs0, d0, ds0, p0, q0, hargs, rfl, rfl, h0, r0⟩ := trodAll_cons hA
  obtain ⟨v1, vs1, d1, ds1, p1, q1, rfl, rfl, rfl, h1, r1⟩ := trodAll_cons r0
  obtain ⟨v2, vs2, d2, ds2, p2, q2, rfl, rfl, rfl, h2, r2⟩ := trodAll_cons r1
  obtain ⟨v3, vs3, d3, ds3, p3, q3, rfl, rfl, rfl, h3, r3⟩ := trodAll_cons r2
  obtain ⟨v4, vs4, d4, ds4, p4, q4, rfl, rfl, rfl, h4, r4⟩ := trodAll_cons r3
  obtain ⟨v5, vs5, d5, ds5, p5, q5, rfl, rfl, rfl, h5, r5⟩ := trodAll_cons r4
  obtain ⟨v6, vs6, d6, ds6, p6, q6, rfl, rfl, rfl, h6, r6⟩ := trodAll_cons r5
  obtain ⟨v7, vs7, d7, ds7, p7, q7, rfl, rfl, rfl, h7, r7⟩ := trodAll_cons r6
  obtain ⟨rfl, rfl, rfl⟩ := trodAll_nil r7
  obtain rfl : args = #[v0, v1, v2, v3, v4, v5, v6, v7] := by cases args; simp_all
  obtain ⟨a1, rfl, rfl, rfl, w1⟩ := open_int Try.underlying3 (hval 1 3 v1 rfl rfl) h1
  obtain ⟨a2, rfl, rfl, rfl, w2⟩ := open_int Try.underlying3 (hval 2 3 v2 rfl rfl) h2
  obtain ⟨a5, rfl, rfl, rfl, w5⟩ := open_int Try.underlying3 (hval 5 3 v5 rfl rfl) h5
  obtain ⟨a6, rfl, rfl, rfl, w6⟩ := open_int Try.underlying3 (hval 6 3 v6 rfl rfl) h6
  obtain ⟨A0, n0, c0, rfl⟩ := okWide_slice Try.underlying22 (hval 0 22 v0 rfl rfl)
  obtain ⟨m0, e0⟩ := h0
  obtain ⟨l0, hl0⟩ := open_txt ⟨m0, _, e0⟩
  obtain ⟨A3, n3, c3, rfl⟩ := okWide_slice Try.underlying22 (hval 3 22 v3 rfl rfl)
  obtain ⟨m3, e3⟩ := h3
  obtain ⟨l3, hl3⟩ := open_txt ⟨m3, _, e3⟩
  obtain ⟨A4, n4, c4, rfl⟩ := okWide_slice Try.underlying23 (hval 4 23 v4 rfl rfl)
  obtain ⟨m4, e4⟩ := h4
  obtain ⟨l4, hl4, ok4⟩ := open_ints ⟨m4, _, e4⟩
  obtain ⟨cs7, rfl, hcs7⟩ := okWide_struct Try.underlying26 (hval 7 26 v7 rfl rfl)
  obtain ⟨fuel7, hf7⟩ := h7
  obtain ⟨o, ho, hof⟩ := open_msg (by rw [show (Value.agg cs7).cells = cs7 from rfl, Array.length_toList, hcs7]) hf7
  exact A.law_of (A.vsigns_s (seed := l0) (k := a1) (f := a2) (body := l3) (to := l4) (place := a5) (who := a6) (o := o) (inr_r (A.wfIn w2)) (fun x hx => inr_r (ok4 x hx)) (inr_r (A.wfIn w6)) (inr_r hof))
    (vals := [.slice A0 n0 c0, .int .i64 a1, .int .i64 a2, .slice A3 n3 c3, .slice A4 n4 c4, .int .i64 a5, .int .i64 a6, .agg cs7]) ⟨_, _, rfl, hl0, _, _, rfl, rfl, _, _, rfl, rfl, _, _, rfl, hl3, _, _, rfl, hl4, _, _, rfl, rfl, _, _, rfl, rfl, _, _, rfl, ⟨cs7.toList, by simp, ho⟩, rfl⟩

set_option maxRecDepth 100000 in
theorem VectorSigns_lifted (os : Os) (started : os.Started) (H : Type) (enc : TypeId × Value → H) :
    ReturnsInHanded {} Try.checked os 3 .any (Rows.vectorSignsSpec.pre6 enc Try.prog Try.f3 Rows.vectorSignsRow.domain false) (Rows.vectorSignsSpec.post enc Try.prog Try.f3 false true false false) :=
  law_lift (s := Rows.vectorSignsSpec) started (by kernel_rfl) Try.func3 rfl rfl (by kernel_rfl) (fun ds h => match ds, h with | [_, _, _, _, _, _, _, _], _ => rfl)
    (ChangeSpec.witness6 (enc := enc) (C := Try.checked) false ⟨#[], #[.slice none 0 0, .int .i64 0, .int .i64 0, .slice none 0 0, .slice none 0 0, .int .i64 0, .int .i64 0, .agg #[.int .i64 0, .int .i64 0, .slice none 0 0, .slice none 0 0]], []⟩ 8 (by kernel_rfl) (by kernel_rfl) (by kernel_rfl) (by kernel_rfl))
    (fun W base args ds p hval hA hsz => VectorSigns_args H enc W base args ds p hval hA hsz)
theorem VectorSigns_holds : Rows.VectorSignsSaid :=
  OpenClaim.holds_of_wide 3 Try.f3 rfl rfl rfl rfl rfl rfl rfl ⟨rfl, rfl, rfl, rfl, rfl⟩ rfl rfl rfl rfl rfl VectorSigns_named Try.func3 VectorSigns_closed
    (of_decide_eq_true (by kernel_rfl)) (by unfold Func.isWrapper; first | (rw [if_pos (by decide +kernel)]; kernel_rfl) | (rw [if_neg (by decide +kernel)]; exact ⟨rfl, rfl⟩))
    (fun os started H enc _ => VectorSigns_lifted os started H enc)
#print axioms VectorSigns_holds
end Go.Proofs.Ytgfndlibbfamfaa
