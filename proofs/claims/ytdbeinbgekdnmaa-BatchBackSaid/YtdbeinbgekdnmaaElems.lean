/-
  Rows of elements of several cells each.
-/
import Derived.Test.YtdbeinbgekdnmaaFlat
namespace Go.Proofs.Ytdbeinbgekdnmaa
open Go.RowKit

theorem flatMap_get {α β : Type} {f : α → List β} {sz : Nat} (hf : ∀ a, (f a).length = sz) : ∀ (xs : List α) (k j : Nat) (hk : k < xs.length), j < sz → (xs.flatMap f)[k * sz + j]? = (f xs[k])[j]? := by
  intro xs
  induction xs with
  | nil => intro k j hk; simp at hk
  | cons x xs ih =>
    intro k j hk hj
    rw [List.flatMap_cons, List.getElem?_append]
    cases k with
    | zero => rw [if_pos (by rw [hf]; omega)]; simp
    | succ k =>
      have hk' : k < xs.length := by simpa using hk
      rw [if_neg (by rw [hf, Nat.succ_mul]; omega), hf]
      rw [show (k + 1) * sz + j - sz = k * sz + j by rw [Nat.succ_mul]; omega, ih k j hk' hj]
      simp
theorem flatMap_length {α β : Type} {f : α → List β} {sz : Nat} (hf : ∀ a, (f a).length = sz) (xs : List α) : (xs.flatMap f).length = xs.length * sz := by
  induction xs with
  | nil => simp
  | cons x xs ih => rw [List.flatMap_cons, List.length_append, ih, hf, List.length_cons, Nat.succ_mul, Nat.add_comm]
/-- The cells of element k. -/
theorem Row.elem {α : Type} {f : α → List Value} {sz : Nat} (hf : ∀ a, (f a).length = sz) (hsz : 0 < sz) {w : World} {A : Option Addr} {xs : List α} (h : Row w A (xs.flatMap f)) {k : Nat} (hk : k < xs.length) :
    ∃ b off : Nat, A = some ⟨b, off, none⟩ ∧ ∀ j u, (f xs[k])[j]? = some u → w.cell? ⟨b, off + k * sz + j, none⟩ = some u := by
  obtain ⟨b, off, rfl, hc⟩ := h (by
    intro h0
    have := flatMap_length hf xs
    rw [h0] at this
    have h1 : 0 < xs.length * sz := Nat.mul_pos (by omega) hsz
    simp at this
    omega)
  refine ⟨b, off, rfl, fun j u hu => ?_⟩
  have hj : j < sz := by rw [← hf xs[k]]; exact (List.getElem?_eq_some_iff.1 hu).1
  rw [Nat.add_assoc]
  exact hc _ u (by rw [flatMap_get hf xs k j hk hj]; exact hu)
end Go.Proofs.Ytdbeinbgekdnmaa
