/-
  NewviewBack: whether any proof of a new view may be, and its bytes, are the document's; one that may be is told by them. Of any signed changes.
-/
import Derived.Test.YtpgffckfbgfgcaaQ15
import Derived.Test.YtpgffckfbgfgcaaQNvBkF
set_option maxRecDepth 100000
namespace Go.Proofs.Ytpgffckfbgfgcaa
open Go.RowKit Go.ChangeShapes Go.WideShapes Go.ChangeAt
section
variable {H : Type} {enc : TypeId × Value → H} {w : World} {base : Nat} {spare : Nat → Bool} {held : Bool}
theorem sgn_leaves : leaves Try.prog 4 173 = some [3, 2, 2, 49, 50, 50] := by kernel_rfl
theorem open_sgn (cs : List Value) (hl : cs.length = Try.prog.cellsOf 173) (h : ∃ m y, DataW.trod enc Try.prog w base spare held m 173 cs = some y) : ∃ s : A.Sgn, A.reps [] w s.abs cs ∧ s.Lits := by
  obtain ⟨fuel, x, h⟩ := h
  rw [show Try.prog.cellsOf 173 = 6 by kernel_rfl] at hl
  have hh := leaves_trod 4 _ _ _ _ _ sgn_leaves (by simpa using hl.symm) h
  match cs, hl with
  | [v, v0, v1, v2, v3, v4], _ =>
    obtain ⟨m0, rfl, b⟩ := (hh 0 v _ rfl rfl).int Try.underlying3
    obtain ⟨n0, rfl, b0⟩ := (hh 1 v0 _ rfl rfl).int Try.underlying2
    obtain ⟨n1, rfl, b1⟩ := (hh 2 v1 _ rfl rfl).int Try.underlying2
    obtain ⟨ps, hp, hps⟩ := A.open_slA (abs := A.Pnt.abs) (Ok := fun p => InR .i64 p.seq) Try.underlying49 (by kernel_rfl) (hh 3 v2 _ rfl rfl) A.open_pnt
    obtain ⟨ps1, ha, has⟩ := A.open_slA (abs := A.Prf.abs) (Ok := A.Prf.Lits) Try.underlying50 (by kernel_rfl) (hh 4 v3 _ rfl rfl) A.open_prf
    obtain ⟨bs, hb, hbs⟩ := A.open_slA (abs := A.Prf.abs) (Ok := A.Prf.Lits) Try.underlying50 (by kernel_rfl) (hh 5 v4 _ rfl rfl) A.open_prf
    exact ⟨⟨m0, ⟨n0, n1, ps, ps1, bs⟩⟩, ⟨_, _, rfl, rfl, _, _, rfl, rfl, _, _, rfl, rfl, _, _, rfl, hp, _, _, rfl, ha, _, _, rfl, hb, rfl⟩, ⟨A.wfIn b, ⟨A.wfIn b0, A.wfIn b1, hps, has, hbs⟩⟩⟩
end

set_option maxRecDepth 100000 in
theorem NewviewBack_args (H : Type) (enc : TypeId × Value → H) (W : World) (base : Nat) (args : Array Value) (ds : List (DataW H)) (p : List MemPlace)
    (hval : ∀ (j : Nat) t v, Try.f4.params[j]? = some t → args[j]? = some v → Value.okWide Try.prog W .any base t v)
    (hA : DataW.TrodAll enc Try.prog W 0 (fun _ => true) true Try.f4.params.toList args.toList ds p)
    (_hsz : (DataW.weightsEach Try.prog Try.f4.params.toList ds).all (· ≤ reachBytes) = true) :
    Calls Try.prog 4 args W fun e W' => e = .returned (.bool true) ∧ Ext [] W W' := by
  rw [Try.params4] at hA hval
  obtain ⟨v0, vs0, d0, ds0, p0, q0, hargs, rfl, rfl, h0, r0⟩ := trodAll_cons hA
  obtain ⟨v1, vs1, d1, ds1, p1, q1, rfl, rfl, rfl, h1, r1⟩ := trodAll_cons r0
  obtain ⟨v2, vs2, d2, ds2, p2, q2, rfl, rfl, rfl, h2, r2⟩ := trodAll_cons r1
  obtain ⟨rfl, rfl, rfl⟩ := trodAll_nil r2
  obtain rfl : args = #[v0, v1, v2] := by cases args; simp_all
  obtain ⟨a0, rfl, rfl, rfl, w0⟩ := open_int Try.underlying2 (hval 0 2 v0 rfl rfl) h0
  obtain ⟨a2, rfl, rfl, rfl, w2⟩ := open_int Try.underlying3 (hval 2 3 v2 rfl rfl) h2
  obtain ⟨A1, n1, c1, rfl⟩ := okWide_slice Try.underlying39 (hval 1 39 v1 rfl rfl)
  obtain ⟨fuel1, hf1⟩ := h1
  obtain ⟨l, hl, hs⟩ := A.open_slA (abs := A.Sgn.abs) (Ok := A.Sgn.Lits) (s := 6) Try.underlying39 (by kernel_rfl) ⟨fuel1, _, hf1⟩ open_sgn
  have hlen : l.length ≤ 9223372036854775807 := by
    obtain ⟨us, hr, hp⟩ := hl
    obtain ⟨A', c', hv, g1, g2, _⟩ := hr.shape
    have hmax : maxLen = 9223372036854775807 := rfl
    rw [List.length_map] at g1
    omega
  exact A.law_of (A.nback_s (view := a0) (n := a2) (A.wfIn w0) hs hlen) (vals := [.int .i64 a0, .slice A1 n1 c1, .int .i64 a2]) ⟨_, _, rfl, rfl, _, _, rfl, hl, _, _, rfl, rfl, rfl⟩

set_option maxRecDepth 100000 in
theorem NewviewBack_lifted (os : Os) (started : os.Started) (H : Type) (enc : TypeId × Value → H) :
    ReturnsInHanded {} Try.checked os 4 .any (Rows.newviewBackSpec.pre6 enc Try.prog Try.f4 Rows.newviewBackRow.domain false) (Rows.newviewBackSpec.post enc Try.prog Try.f4 false true false false) :=
  law_lift (s := Rows.newviewBackSpec) started (by kernel_rfl) Try.func4 rfl rfl (by kernel_rfl) (fun ds h => match ds, h with | [_, _, _], _ => rfl)
    (ChangeSpec.witness6 (enc := enc) (C := Try.checked) false ⟨#[], #[.int .i64 0, .slice none 0 0, .int .i64 0], []⟩ 8 (by kernel_rfl) (by kernel_rfl) (by kernel_rfl) (by kernel_rfl))
    (fun W base args ds p hval hA hsz => NewviewBack_args H enc W base args ds p hval hA hsz)
theorem NewviewBack_holds : Rows.NewviewBackSaid :=
  OpenClaim.holds_of_wide 4 Try.f4 rfl rfl rfl rfl rfl rfl rfl ⟨rfl, rfl, rfl, rfl, rfl⟩ rfl rfl rfl rfl rfl NewviewBack_named Try.func4 NewviewBack_closed
    (of_decide_eq_true (by kernel_rfl)) (by unfold Func.isWrapper; first | (rw [if_pos (by decide +kernel)]; kernel_rfl) | (rw [if_neg (by decide +kernel)]; exact ⟨rfl, rfl⟩))
    (fun os started H enc _ => NewviewBack_lifted os started H enc)
#print axioms NewviewBack_holds
end Go.Proofs.Ytpgffckfbgfgcaa
