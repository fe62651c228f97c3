/-
  Layer 5, in plain Lean: whose number is the first one's.
-/
import Derived.Test.YtdbeinbgekdnmaaBookLaw
set_option maxRecDepth 100000
namespace Go.Proofs.Ytdbeinbgekdnmaa
open Go.RowKit

section
variable {α : Type} [DecidableEq α] {m : List (α × Nat)} {k c : α}
/-- k has number 1, and no other key has it. -/
structure Inv1 (m : List (α × Nat)) (k : α) : Prop where
  one : aget m k = some 1
  only : ∀ c, aget m c = some 1 → c = k
  pos : 1 ≤ m.length
theorem Inv1.start (k : α) : Inv1 (pm [] k) k := by
  have h : pm [] k = [(k, 1)] := by simp [pm, aget, aput]
  rw [h]
  refine ⟨by simp [aget], fun c hc => ?_, by simp⟩
  unfold aget at hc
  by_cases hk : k = c
  · exact hk.symm
  · simp [hk] at hc
theorem Inv1.step (h : Inv1 m k) (c : α) : Inv1 (pm m c) k := by
  unfold pm
  split
  · exact h
  · rename_i hn
    have hck : ¬ k = c := by
      rintro rfl
      rw [h.one] at hn
      simp at hn
    refine ⟨?_, fun d hd => ?_, ?_⟩
    · rw [aget_aput, if_neg hck]; exact h.one
    · rw [aget_aput] at hd
      split at hd
      · have := h.pos
        have := Option.some.inj hd
        omega
      · exact h.only d hd
    · rw [aput_length, if_neg hn]; omega
theorem Inv1.pl (h : Inv1 m k) (c : α) : pl m c = 1 ↔ c = k := by
  unfold Proofs.Ytdbeinbgekdnmaa.pl
  have hp := h.pos
  constructor
  · intro he
    cases hc : aget m c with
    | none => rw [hc] at he; change m.length + 1 = 1 at he; omega
    | some v =>
      rw [hc] at he
      simp at he
      subst he
      exact h.only c hc
  · rintro rfl
    rw [h.one]
    rfl
theorem pm_length (m : List (α × Nat)) (c : α) : (pm m c).length ≤ m.length + 1 := by
  unfold pm
  split
  · omega
  · rename_i hn; rw [aput_length, if_neg hn]; omega
end
theorem beBytes_inj (n : Nat) : ∀ v v', beBytes v n = beBytes v' n → v % 256 ^ n = v' % 256 ^ n := by
  induction n with
  | zero => intro v v' _; simp [Nat.mod_one]
  | succ n ih =>
    intro v v' h
    simp only [beBytes] at h
    have hl : (beBytes (v / 256) n).length = (beBytes (v' / 256) n).length := by rw [beBytes_length, beBytes_length]
    obtain ⟨h1, h2⟩ := List.append_inj h hl
    have h3 := ih _ _ h1
    have h4 : v % 256 = v' % 256 := by
      have := congrArg (List.map UInt8.toNat) h2
      simpa using this
    rw [Nat.pow_succ, Nat.mul_comm, Nat.mod_mul, Nat.mod_mul, h3, h4]
theorem numB_inj {f n f' n' : Nat} (hf : f < 256) (hf' : f' < 256) (hn : n < 18446744073709551616) (hn' : n' < 18446744073709551616) (h : numB f n = numB f' n') : f = f' ∧ n = n' := by
  unfold numB at h
  rw [List.cons.injEq] at h
  obtain ⟨h1, h2⟩ := h
  have h3 := List.append_cancel_left h2
  have h4 := beBytes_inj 8 _ _ h3
  rw [Nat.mod_eq_of_lt (by omega), Nat.mod_eq_of_lt (by omega)] at h4
  refine ⟨?_, h4⟩
  have := congrArg UInt8.toNat h1
  simp at this
  omega
end Go.Proofs.Ytdbeinbgekdnmaa
