/-
  TermsBlanks, as stated; its card.
-/
import Derived.Test.YthaahcdfnmfihaaDoorU06
import Derived.Test.YthaahcdfnmfihaaDoorU0TBlF
import Derived.Test.YthaahcdfnmfihaaDoorCards
set_option maxRecDepth 100000
set_option linter.unusedVariables false
namespace Go.Proofs.YthaahcdfnmfihaaDoor
open Go.ChangeShapes Go.WideShapes Go.ChangeAt Go.RowKit
theorem BytesV.rowA {w : World} {v : Value} {l : List UInt8} (h : BytesV w v l) : IsRow [] w v l.length (l.map bc) := by
  obtain ⟨A, c, rfl, h1, h2, h3, h4⟩ := h
  refine ⟨⟨A, c, rfl, h1, h2, h3⟩, fun hn => ?_⟩
  obtain ⟨b, off, rfl, hc⟩ := h4 hn
  exact ⟨b, off, _, _, rfl, by simp, hc⟩
section
variable {H : Type} {enc : TypeId × Value → H} {w : World} {base : Nat} {spare : Nat → Bool} {held : Bool}
theorem open_txt {v : Value} (h : LeafAt enc Tryd.prog w base spare held 36 v) : ∃ l : List UInt8, A.rep [] w (A.byt l) v := by
  obtain ⟨fuel, x, h⟩ := h
  obtain ⟨A0, n, c, rfl⟩ : ∃ A n c, v = .slice A n c := by
    rcases Deep.open_slice Tryd.underlying36 h with ⟨hcs, _⟩ | ⟨a, len, cap, m, n', D, Pl, hcs, _⟩
    · simp at hcs; exact ⟨_, _, _, hcs⟩
    · simp at hcs; exact ⟨_, _, _, hcs⟩
  obtain ⟨l, hl⟩ := open_bytesV h
  exact ⟨l, A.rep_byt.2 hl.rowA⟩
end
theorem TermsBlanks_args {H : Type} (enc : TypeId × Value → H) (W : World) (base : Nat) (args : Array Value) (ds : List (DataW H)) (p : List MemPlace)
    (hval : ∀ (j : Nat) t v, Tryd.f5.params[j]? = some t → args[j]? = some v → Value.okWide Tryd.prog W .any base t v)
    (hA : DataW.TrodAll enc Tryd.prog W 0 (fun _ => true) true Tryd.f5.params.toList args.toList ds p) (hL : laidMetH Tryd.prog laidL W) :
    Calls Tryd.prog 5 args W fun e W' => e = .returned (.bool true) ∧ Ext [] W W' := by
  rw [Tryd.params5] at hA hval
  obtain ⟨v0, v1, d0, d1, p0, p1, rfl, rfl, rfl, h0, h1⟩ := trodAll_two hA
  obtain ⟨cs0, rfl, hcs0⟩ := okWide_struct Tryd.underlying25 (hval 0 25 v0 rfl rfl)
  obtain ⟨fuel0, hf0⟩ := h0
  obtain ⟨f, hf, _⟩ := A.open_frm (by rw [show (Value.agg cs0).cells = cs0 from rfl, Array.length_toList, hcs0]) hf0
  obtain ⟨A1, n1, c1, rfl⟩ := okWide_slice Tryd.underlying36 (hval 1 36 v1 rfl rfl)
  obtain ⟨m1, e1⟩ := h1
  obtain ⟨l, hl⟩ := open_txt ⟨m1, _, e1⟩
  obtain ⟨es, er, he, hr, q1, q2, q3⟩ := of_laid hL
  exact A.law_ofG (A.blanks_law (f := f) (l := l) he hr) (vals := [.agg cs0, .slice A1 n1 c1]) ⟨_, _, rfl, ⟨cs0.toList, by simp, A.frm_keep (A.other_globs (by decide) he hr q1 q2 q3) f _ hf⟩, _, _, rfl, A.byt_keep (A.other_globs (by decide) he hr q1 q2 q3) hl, rfl⟩ q1 q2 q3
theorem TermsBlanks_lifted (os : Os) (started : os.Started) (H : Type) (enc : TypeId × Value → H) :
    ReturnsInHanded {} Tryd.checked os 5 .any (fun w args => (Rows.termsBlanksSpec.pre enc Tryd.prog Tryd.f5 [] false w args ∧ laidMetH Tryd.prog laidL w) ∧ sizedMet enc Tryd.prog Tryd.f5 (OpenSpec.ofChange Rows.termsBlanksSpec) false w args) (Rows.termsBlanksSpec.post enc Tryd.prog Tryd.f5 false true false false) :=
  law_liftD (s := Rows.termsBlanksSpec) started (by kernel_rfl) Tryd.func5 rfl rfl (by kernel_rfl) (fun ds h => match ds, h with | [_, _], _ => rfl)
    (ChangeSpec.witness_shaped (enc := enc) (C := Tryd.checked) (os := os) (X := fun w _ => laidMetH Tryd.prog laidL w) false (World.laidAll Tryd.prog os laidL) #[.agg #[.int .i64 0, .int .i64 0, .slice none 0 0], .slice none 0 0] 8 (World.laidAll_os _ _ _) (World.shaped_of_ZipB (by kernel_rfl) (by kernel_rfl)) (by kernel_rfl) (by kernel_rfl) (by kernel_rfl) (laid_met os _))
    (fun W base args ds p hval hA hL => TermsBlanks_args enc W base args ds p hval hA hL)
theorem TermsBlanks_row : Rows.TermsBlanksSaid :=
  OpenClaim.holds_of_wide 5 Tryd.f5 rfl rfl rfl rfl rfl rfl rfl ⟨rfl, rfl, rfl, rfl, rfl⟩ rfl rfl rfl rfl rfl TermsBlanks_named Tryd.func5 TermsBlanks_closed
    (of_decide_eq_true (by kernel_rfl)) (by unfold Func.isWrapper; first | (rw [if_pos (by decide +kernel)]; kernel_rfl) | (rw [if_neg (by decide +kernel)]; exact ⟨rfl, rfl⟩))
    (fun os started H enc _ => TermsBlanks_lifted os started H enc)
theorem TermsBlanksCard_holds : Rows.TermsBlanksCardSaid :=
  Claim7.holds_tied_plain_at .later [] [.data, .data, .data, .data, .sentinel, .sentinel, .pinned] true (true, "1edb14c0301e7d54c7c7d5676a0b0e49d1ba71535139e5c7e1e74c7024103530") true
    TermsBlanks_row (fun _ h => by cases h) (by kernel_rfl) (fun _ h => by cases h) termsBlanks_row_tie rfl ⟨rfl, rfl⟩ (by kernel_rfl) rfl
    (fun f fn hf hfn => by
      obtain rfl : f = 5 := Option.some.inj (TermsBlanks_named.symm.trans hf) |>.symm
      obtain rfl : fn = Tryd.f5 := (Option.some.inj (Tryd.func5.symm.trans hfn)).symm
      exact ⟨by kernel_rfl, fun j t ht => by
        rw [Tryd.params5] at ht
        have h3 : t = 25 ∨ t = 36 := by
          rcases j with _ | _ | j
          · exact .inl (Option.some.inj ht).symm
          · exact .inr (Option.some.inj ht).symm
          · simp at ht
        rcases h3 with rfl | rfl
        · exact (show Tryd.prog.wantsStandIn 25 = false by kernel_rfl)
        · exact (show Tryd.prog.wantsStandIn 36 = false by kernel_rfl)⟩)
    (by kernel_rfl)
#print axioms TermsBlanksCard_holds
end Go.Proofs.YthaahcdfnmfihaaDoor
