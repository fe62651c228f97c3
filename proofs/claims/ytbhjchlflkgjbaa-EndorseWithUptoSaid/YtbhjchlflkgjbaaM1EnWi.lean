/-
  EndorseWith: a request with an endorsement put in, as the program has it, is what the document says; and whether those behind it are enough, too. Of any request, endorsement, policy, set and number, where what is read is of bulk at most 1048576.
-/
import Derived.Test.YtbhjchlflkgjbaaM112
import Derived.Test.YtbhjchlflkgjbaaM1EnWiF
set_option maxRecDepth 100000
namespace Go.Proofs.Ytbhjchlflkgjbaa
open Go.RowKit Go.ChangeShapes Go.WideShapes Go.ChangeAt

set_option maxRecDepth 100000 in
theorem EndorseWith_args (H : Type) (enc : TypeId × Value → H) (W : World) (base : Nat) (args : Array Value) (ds : List (DataW H)) (p : List MemPlace)
    (hval : ∀ (j : Nat) t v, Try.f4.params[j]? = some t → args[j]? = some v → Value.okWide Try.prog W .any base t v)
    (hA : DataW.TrodAll enc Try.prog W 0 (fun _ => true) true Try.f4.params.toList args.toList ds p)
    (hk : Rows.uptoSmall H ds = true) :
    Calls Try.prog 4 args W fun e W' => e = .returned (.bool true) ∧ Ext [] W W' := by
  rw [Try.params4] at hA hval
  obtain ⟨v0, vs0, d0, ds0, p0, q0, hargs, rfl, rfl, h0, r0⟩ := trodAll_cons hA
  obtain ⟨v1, vs1, d1, ds1, p1, q1, rfl, rfl, rfl, h1, r1⟩ := trodAll_cons r0
  obtain ⟨v2, vs2, d2, ds2, p2, q2, rfl, rfl, rfl, h2, r2⟩ := trodAll_cons r1
  obtain ⟨v3, vs3, d3, ds3, p3, q3, rfl, rfl, rfl, h3, r3⟩ := trodAll_cons r2
  obtain ⟨v4, vs4, d4, ds4, p4, q4, rfl, rfl, rfl, h4, r4⟩ := trodAll_cons r3
  obtain ⟨rfl, rfl, rfl⟩ := trodAll_nil r4
  obtain rfl : args = #[v0, v1, v2, v3, v4] := by cases args; simp_all
  obtain ⟨cs0, rfl, hcs0⟩ := okWide_struct Try.underlying26 (hval 0 26 v0 rfl rfl)
  obtain ⟨fuel0, hf0⟩ := h0
  obtain ⟨q, hq, hci, ho⟩ := A.open_rq (by rw [show (Value.agg cs0).cells = cs0 from rfl, Array.length_toList, hcs0]) hf0
  obtain ⟨cs1, rfl, hcs1⟩ := okWide_struct Try.underlying34 (hval 1 34 v1 rfl rfl)
  obtain ⟨fuel1, hf1⟩ := h1
  obtain ⟨e, he, heo⟩ := A.open_en (by rw [show (Value.agg cs1).cells = cs1 from rfl, Array.length_toList, hcs1]) hf1
  obtain ⟨cs2, rfl, hcs2⟩ := okWide_struct Try.underlying45 (hval 2 45 v2 rfl rfl)
  obtain ⟨fuel2, hf2⟩ := h2
  obtain ⟨f, hf, hfn⟩ := A.open_frm (by rw [show (Value.agg cs2).cells = cs2 from rfl, Array.length_toList, hcs2]) hf2
  obtain ⟨a3, rfl, rfl, rfl, w3⟩ := open_int Try.underlying37 (hval 3 37 v3 rfl rfl) h3
  obtain ⟨a4, rfl, rfl, rfl, w4⟩ := open_int Try.underlying3 (hval 4 3 v4 rfl rfl) h4
  obtain ⟨s, hs⟩ := A.open_wo w3
  rw [hs]
  have hk2 : Rows.uptoBulk d2 ≤ 1048576 := by
    have h9 := of_decide_eq_true hk
    simp only [Rows.uptoBulkAll] at h9
    omega
  exact A.law_of (A.ewith_s (q := q) (e := e) (f := f) (s := s) (n := a4) hci (Nat.le_trans hfn (Nat.le_trans hk2 (by decide)))) (vals := [.agg cs0, .agg cs1, .agg cs2, .int .u32 (s.toNat : Nat), .int .i64 a4]) ⟨_, _, rfl, ⟨cs0.toList, by simp, hq⟩, _, _, rfl, ⟨cs1.toList, by simp, he⟩, _, _, rfl, ⟨cs2.toList, by simp, hf⟩, _, _, rfl, rfl, _, _, rfl, rfl, rfl⟩

set_option maxRecDepth 100000 in
theorem EndorseWith_lifted (os : Os) (started : os.Started) (H : Type) (enc : TypeId × Value → H) (F : Stop.Interp) :
    ReturnsInHanded {} Try.checked os 4 .any ((Rows.OpenSpec.upto Rows.endorseWithSpec).pre6 enc Try.prog Try.f4 Rows.endorseWithUptoRow.domain false) (((Rows.OpenSpec.upto Rows.endorseWithSpec).at F).post enc Try.prog Try.f4 false true false false) :=
  law_lift_upto (s := Rows.endorseWithSpec) started F (by kernel_rfl) Try.func4 rfl rfl (by kernel_rfl) (fun ds h => match ds, h with | [_, _, _, _, _], _ => rfl)
    (OpenSpec.witness (enc := enc) (C := Try.checked) (s := Rows.OpenSpec.upto Rows.endorseWithSpec) (k := Rows.uptoSmall) rfl false ⟨#[], #[.agg #[.int .i64 0, .int .i64 0, .int .i64 0, .string ⟨#[]⟩, .int .i64 0, .int .i64 0, .string ⟨#[]⟩, .slice none 0 0], .agg #[.int .i64 0, .slice none 0 0], .agg #[.int .i64 0, .int .i64 0, .slice none 0 0], .int .u32 0, .int .i64 0], []⟩ 8 (by kernel_rfl) (by kernel_rfl) (by kernel_rfl)
      (x := (DataW.whole enc Try.prog (World.plainHolding Try.prog os ⟨#[], #[.agg #[.int .i64 0, .int .i64 0, .int .i64 0, .string ⟨#[]⟩, .int .i64 0, .int .i64 0, .string ⟨#[]⟩, .slice none 0 0], .agg #[.int .i64 0, .slice none 0 0], .agg #[.int .i64 0, .int .i64 0, .slice none 0 0], .int .u32 0, .int .i64 0], []⟩).memory Try.f4.params.toList [] false [.agg #[.int .i64 0, .int .i64 0, .int .i64 0, .string ⟨#[]⟩, .int .i64 0, .int .i64 0, .string ⟨#[]⟩, .slice none 0 0], .agg #[.int .i64 0, .slice none 0 0], .agg #[.int .i64 0, .int .i64 0, .slice none 0 0], .int .u32 0, .int .i64 0] 8).get (by kernel_rfl)) (Option.some_get _).symm rfl (by kernel_rfl))
    (fun W base args ds p hval hA hk => EndorseWith_args H enc W base args ds p hval hA hk)
theorem EndorseWithUpto_holds : Rows.EndorseWithUptoSaid :=
  OpenClaim.holds_of_cond 4 Try.f4 rfl rfl rfl rfl rfl rfl rfl ⟨rfl, rfl, rfl, rfl, rfl⟩ rfl rfl rfl rfl rfl EndorseWith_named Try.func4 EndorseWith_closed
    (of_decide_eq_true (by kernel_rfl)) (by unfold Func.isWrapper; first | (rw [if_pos (by decide +kernel)]; kernel_rfl) | (rw [if_neg (by decide +kernel)]; exact ⟨rfl, rfl⟩))
    (fun os started H enc _ F => EndorseWith_lifted os started H enc F)
#print axioms EndorseWithUpto_holds
end Go.Proofs.Ytbhjchlflkgjbaa
