/-
  Layer 5: BookApart, walked.
-/
import Derived.Test.YtdbeinbgekdnmaaBookInv
import Derived.Test.YtdbeinbgekdnmaaElems
set_option maxRecDepth 100000
namespace Go.Proofs.Ytdbeinbgekdnmaa
open Go.RowKit

/-- The guards ahead of all. -/
theorem apart_big (w : World) (k m x y z : Int) (A B C : Option Addr) (a b c a' b' c' : Nat) (h : 100 < a ∨ 100 < b ∨ 50 < c) :
    Calls Try.prog 7 #[.int .i64 k, .slice A a a', .int .i64 m, .slice B b b', .int .i64 x, .int .i64 y, .int .i64 z, .slice C c c'] w fun e w' => e = .returned (.bool true) ∧ Ext [] w w' := by
  by_cases h1 : 100 < a
  · go_enter Try.func7, Try.ntmps7
    go_wp2_with (go_at_call 37; refine (fixed05 _).mono ?_; rintro e w1 ⟨rfl, x1⟩)
    go_ret
    exact ⟨rfl, x1⟩
  · by_cases h2 : 100 < b
    · go_enter Try.func7, Try.ntmps7
      go_wp2_with (go_at_call 37; refine (fixed05 _).mono ?_; rintro e w1 ⟨rfl, x1⟩)
      go_ret
      exact ⟨rfl, x1⟩
    · have h3 : 50 < c := by omega
      clear h
      go_enter Try.func7, Try.ntmps7
      go_wp2_with (go_at_call 37; refine (fixed05 _).mono ?_; rintro e w1 ⟨rfl, x1⟩)
      go_ret
      exact ⟨rfl, x1⟩
end Go.Proofs.Ytdbeinbgekdnmaa
