/-
  VectorAll: the first n are told as the document says; without a Crypto nothing is signed, and nothing holds. Of any message.
-/
import Derived.Test.YtpgffckfbgfgcaaV015
import Derived.Test.YtpgffckfbgfgcaaV0VcAlF
set_option maxRecDepth 100000
namespace Go.Proofs.Ytpgffckfbgfgcaa
open Go.RowKit Go.ChangeShapes Go.WideShapes Go.ChangeAt
theorem BytesV.rowA {w : World} {v : Value} {l : List UInt8} (h : BytesV w v l) : IsRow [] w v l.length (l.map bc) := by
  obtain ⟨A, c, rfl, h1, h2, h3, h4⟩ := h
  refine ⟨⟨A, c, rfl, h1, h2, h3⟩, fun hn => ?_⟩
  obtain ⟨b, off, rfl, hc⟩ := h4 hn
  exact ⟨b, off, _, _, rfl, by simp, hc⟩
section
variable {H : Type} {enc : TypeId × Value → H} {w : World} {base : Nat} {spare : Nat → Bool} {held : Bool}
theorem open_txt {v : Value} (h : LeafAt enc Try.prog w base spare held 34 v) : ∃ l : List UInt8, A.rep [] w (A.byt l) v := by
  obtain ⟨fuel, x, h⟩ := h
  obtain ⟨A0, n, c, rfl⟩ : ∃ A n c, v = .slice A n c := by
    rcases Deep.open_slice Try.underlying34 h with ⟨hcs, _⟩ | ⟨a, len, cap, m, n', D, Pl, hcs, _⟩
    · simp at hcs; exact ⟨_, _, _, hcs⟩
    · simp at hcs; exact ⟨_, _, _, hcs⟩
  obtain ⟨l, hl⟩ := open_bytesV h
  exact ⟨l, A.rep_byt.2 hl.rowA⟩
theorem open_tg (cs : List Value) (hl : cs.length = Try.prog.cellsOf 120) (h : ∃ m y, DataW.trod enc Try.prog w base spare held m 120 cs = some y) : ∃ x : A.Tg, A.reps [] w x.abs cs ∧ True := by
  obtain ⟨fuel, x, h⟩ := h
  rw [show Try.prog.cellsOf 120 = 32 by kernel_rfl] at hl
  have hlv : leaves Try.prog 4 120 = some (List.replicate 32 5) := by kernel_rfl
  have hh := leaves_trod 4 _ _ _ _ _ hlv (by simpa using hl.symm) h
  obtain ⟨d, rfl⟩ := A.open_u8 (cs := cs) fun v hv => by
    obtain ⟨j, hj, rfl⟩ := List.getElem_of_mem hv
    exact hh j cs[j] _ (List.getElem?_eq_getElem hj) (by rw [List.getElem?_replicate, if_pos (by omega)])
  exact ⟨⟨d, by simpa using hl⟩, A.reps_dig d, trivial⟩
theorem msg_leaves : leaves Try.prog 4 141 = some [3, 3, 34, 139] := by kernel_rfl
theorem open_msg {cs : List Value} {fuel : Nat} {x : DataW H × List MemPlace} (hl : cs.length = Try.prog.cellsOf 141) (h : DataW.trod enc Try.prog w base spare held fuel 141 cs = some x) : ∃ m : A.Msg, A.reps [] w m.abs cs := by
  rw [show Try.prog.cellsOf 141 = 4 by kernel_rfl] at hl
  have hh := leaves_trod 4 _ _ _ _ _ msg_leaves (by simpa using hl.symm) h
  match cs, hl with
  | [v0, v1, v2, v3], _ =>
    obtain ⟨n0, rfl, b0⟩ := (hh 0 v0 _ rfl rfl).int Try.underlying3
    obtain ⟨n1, rfl, b1⟩ := (hh 1 v1 _ rfl rfl).int Try.underlying3
    obtain ⟨l, hl2⟩ := open_txt (hh 2 v2 _ rfl rfl)
    obtain ⟨ts, ht, _⟩ := A.open_slA (abs := A.Tg.abs) (Ok := fun _ => True) (s := 32) Try.underlying139 (by kernel_rfl) (hh 3 v3 _ rfl rfl) open_tg
    exact ⟨⟨n0, n1, l, ts⟩, ⟨_, _, rfl, rfl, _, _, rfl, rfl, _, _, rfl, hl2, _, _, rfl, ht, rfl⟩⟩
end

set_option maxRecDepth 100000 in
theorem VectorAll_args (H : Type) (enc : TypeId × Value → H) (W : World) (base : Nat) (args : Array Value) (ds : List (DataW H)) (p : List MemPlace)
    (hval : ∀ (j : Nat) t v, Try.f14.params[j]? = some t → args[j]? = some v → Value.okWide Try.prog W .any base t v)
    (hA : DataW.TrodAll enc Try.prog W 0 (fun _ => true) true Try.f14.params.toList args.toList ds p)
    (_hsz : (DataW.weightsEach Try.prog Try.f14.params.toList ds).all (· ≤ reachBytes) = true) :
    Calls Try.prog 14 args W fun e W' => e = .returned (.bool true) ∧ Ext [] W W' := by
  rw [Try.params14] at hA hval
  obtain ⟨v0, vs0, d0, ds0, p0, q0, hargs, rfl, rfl, h0, r0⟩ := trodAll_cons hA
  obtain ⟨v1, vs1, d1, ds1, p1, q1, rfl, rfl, rfl, h1, r1⟩ := trodAll_cons r0
  obtain ⟨v2, vs2, d2, ds2, p2, q2, rfl, rfl, rfl, h2, r2⟩ := trodAll_cons r1
  obtain ⟨rfl, rfl, rfl⟩ := trodAll_nil r2
  obtain rfl : args = #[v0, v1, v2] := by cases args; simp_all
  obtain ⟨a0, rfl, rfl, rfl, w0⟩ := open_int Try.underlying3 (hval 0 3 v0 rfl rfl) h0
  obtain ⟨a2, rfl, rfl, rfl, w2⟩ := open_int Try.underlying3 (hval 2 3 v2 rfl rfl) h2
  obtain ⟨cs, rfl, hcs⟩ := okWide_struct Try.underlying141 (hval 1 141 v1 rfl rfl)
  obtain ⟨fuel1, hf1⟩ := h1
  obtain ⟨m, hm⟩ := open_msg (by rw [show (Value.agg cs).cells = cs from rfl, Array.length_toList, hcs]) hf1
  exact A.law_of (A.vall_s (n := a0) (m := m) (place := a2)) (vals := [.int .i64 a0, .agg cs, .int .i64 a2]) ⟨_, _, rfl, rfl, _, _, rfl, ⟨cs.toList, by simp, hm⟩, _, _, rfl, rfl, rfl⟩

set_option maxRecDepth 100000 in
theorem VectorAll_lifted (os : Os) (started : os.Started) (H : Type) (enc : TypeId × Value → H) :
    ReturnsInHanded {} Try.checked os 14 .any (Rows.vectorAllSpec.pre6 enc Try.prog Try.f14 Rows.vectorAllRow.domain false) (Rows.vectorAllSpec.post enc Try.prog Try.f14 false true false false) :=
  law_lift (s := Rows.vectorAllSpec) started (by kernel_rfl) Try.func14 rfl rfl (by kernel_rfl) (fun ds h => match ds, h with | [_, _, _], _ => rfl)
    (ChangeSpec.witness6 (enc := enc) (C := Try.checked) false ⟨#[], #[.int .i64 0, .agg #[.int .i64 0, .int .i64 0, .slice none 0 0, .slice none 0 0], .int .i64 0], []⟩ 8 (by kernel_rfl) (by kernel_rfl) (by kernel_rfl) (by kernel_rfl))
    (fun W base args ds p hval hA hsz => VectorAll_args H enc W base args ds p hval hA hsz)
theorem VectorAll_holds : Rows.VectorAllSaid :=
  OpenClaim.holds_of_wide 14 Try.f14 rfl rfl rfl rfl rfl rfl rfl ⟨rfl, rfl, rfl, rfl, rfl⟩ rfl rfl rfl rfl rfl VectorAll_named Try.func14 VectorAll_closed
    (of_decide_eq_true (by kernel_rfl)) (by unfold Func.isWrapper; first | (rw [if_pos (by decide +kernel)]; kernel_rfl) | (rw [if_neg (by decide +kernel)]; exact ⟨rfl, rfl⟩))
    (fun os started H enc _ => VectorAll_lifted os started H enc)
#print axioms VectorAll_holds
end Go.Proofs.Ytpgffckfbgfgcaa
