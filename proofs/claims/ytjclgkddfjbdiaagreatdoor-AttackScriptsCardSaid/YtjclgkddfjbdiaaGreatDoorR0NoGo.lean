/-
  No function of the program starts a goroutine; so a call does not, either.
-/
import Derived.Test.YtjclgkddfjbdiaaGreatDoorRows
import GoSem.ClaimGoes
import Derived.KernelRfl
set_option maxRecDepth 100000
namespace Go.Proofs.YtjclgkddfjbdiaaGreatDoor
open Go
theorem no_goes : Tryz.pinned.checked.prog.funcs.any Func.goes = false := by kernel_rfl
theorem jk_ {c : OpenClaim} {P : Program} (h : P.funcs.any Func.goes = false) (hs : c.start = .entering) : false = c.goesBy P := by
  have h1 : ∀ g, P.goes g = false := fun g => by
    unfold Program.goes
    rw [h, Bool.and_false, Bool.or_false, List.any_eq_false]
    intro x _ hx
    cases hf : P.funcs[x]? with
    | none => rw [hf] at hx; cases hx
    | some fn =>
      rw [hf] at hx
      obtain ⟨hlt, he⟩ := Array.getElem?_eq_some_iff.1 hf
      have h2 := (Array.any_eq_false.1 h) x hlt
      rw [he] at h2
      exact h2 hx
  unfold OpenClaim.goesBy Program.goesAt Program.goesFrom
  rw [hs]
  cases hq : P.funcNamed c.func with
  | none => rfl
  | some g => show false = (P.goes g || false); rw [h1]; rfl
end Go.Proofs.YtjclgkddfjbdiaaGreatDoor
