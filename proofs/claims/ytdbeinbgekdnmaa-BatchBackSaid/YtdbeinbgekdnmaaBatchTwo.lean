/-
  Batches, in plain Lean: the program's Parse answers as the document's.
-/
import Derived.Test.YtdbeinbgekdnmaaBatch6
set_option maxRecDepth 100000
namespace Go.Proofs.Ytdbeinbgekdnmaa
open Go.RowKit

theorem Rd.fixed_bad {s : Rd} (h : s.e ≠ 0) (n : Int) : s.fixed n = s := if_pos h
theorem Rd.row_bad {s : Rd} (h : s.e ≠ 0) (m : Int) : s.row m = s := by
  unfold Rd.row
  rw [Rd.fixed_bad h, if_pos h]
theorem Rd.end_bad {s : Rd} (h : s.e ≠ 0) : s.end_ ≠ 0 := by
  unfold Rd.end_
  rw [if_neg (fun h2 => h h2.1)]
  exact h
theorem Rd.fixed_ok {s : Rd} {n : Int} (h : (s.fixed n).e = 0) : s.e = 0 ∧ 0 ≤ n ∧ n ≤ s.l.length ∧ s.fixed n = ⟨tailV s.v n.toNat, s.l.drop n.toNat, 0⟩ := by
  by_cases he : s.e = 0
  · by_cases hb : s.bad n
    · rw [Rd.fixed, if_neg (by simpa using he), if_pos hb] at h
      exact absurd h (by show ¬ (2 : Int) = 0; decide)
    · rw [Rd.fixed, if_neg (by simpa using he), if_neg hb]
      unfold Rd.bad at hb
      exact ⟨he, by omega, by omega, rfl⟩
  · rw [Rd.fixed_bad he] at h
    exact absurd h he
theorem row_two {s : Rd} {L M : Int} (h1 : (s.l.length : Int) ≤ L) (h2 : L ≤ M) : ((s.row L).e ≠ 0 ∧ (s.row M).e ≠ 0) ∨ (s.row L = s.row M ∧ s.rowOut L = s.rowOut M) := by
  have h4 := s.fixed_length 4
  unfold Rd.row Rd.rowOut
  by_cases he : (s.fixed 4).e = 0
  · simp only [he, ne_eq, not_true_eq_false, if_false]
    by_cases hL : L < s.num 4
    · refine .inl ⟨?_, ?_⟩
      · rw [if_pos hL]; show ¬ (3 : Int) = 0; decide
      · split
        · show ¬ (3 : Int) = 0; decide
        · rw [Rd.fixed, if_neg (by simpa using he), if_pos (show (s.fixed 4).bad _ from Or.inr (by omega))]
          show ¬ (2 : Int) = 0; decide
    · refine .inr ?_
      have hM : ¬ M < s.num 4 := by omega
      simp only [hL, hM, if_false, and_self]
  · refine .inl ?_
    rw [if_pos he, if_pos he]
    exact ⟨he, he⟩
theorem row_less {s : Rd} {L : Int} (h : (s.row L).e = 0) : (s.row L).l.length + 4 ≤ s.l.length := by
  unfold Rd.row at h ⊢
  by_cases he : (s.fixed 4).e = 0
  · obtain ⟨_, _, h3, h4⟩ := Rd.fixed_ok he
    rw [if_neg (by simpa using he)] at h ⊢
    split at h
    · exact absurd h (by show ¬ (3 : Int) = 0; decide)
    · rename_i hn
      rw [if_neg hn]
      have h5 := (s.fixed 4).fixed_length (s.num 4)
      have h6 : (s.fixed 4).l.length = s.l.length - 4 := by rw [h4]; simp
      omega
  · rw [if_pos he] at h
    exact absurd h he
theorem core_two {s : Rd} {L M : Int} (h1 : (s.l.length : Int) ≤ L) (h2 : L ≤ M) : ((s.coreEnd L).e ≠ 0 ∧ (s.coreEnd M).e ≠ 0) ∨ (s.coreEnd L = s.coreEnd M ∧ s.core L = s.core M) := by
  have l1 := s.fixed_length 1
  have l2 := (s.fixed 1).fixed_length 8
  have l3 : s.c3.l.length ≤ ((s.fixed 1).fixed 8).l.length := ((s.fixed 1).fixed 8).fixed_length 1
  have l4 : (s.c4 L).l.length ≤ s.c3.l.length := s.c3.row_length _
  have l5 := (s.c4 L).fixed_length 8
  have l6 : (s.c6 L).l.length ≤ ((s.c4 L).fixed 8).l.length := ((s.c4 L).fixed 8).fixed_length 8
  have bad : ∀ m, (s.c4 m).e ≠ 0 → (s.coreEnd m).e ≠ 0 := fun m h => by
    have e6 : s.c6 m = s.c4 m := by unfold Rd.c6; rw [Rd.fixed_bad h, Rd.fixed_bad h]
    unfold Rd.coreEnd
    rw [e6, Rd.row_bad h]
    exact h
  rcases row_two (s := s.c3) (L := L) (M := M) (by omega) h2 with ⟨a, b⟩ | ⟨a, b⟩
  · exact .inl ⟨bad L a, bad M b⟩
  · have a' : s.c4 L = s.c4 M := a
    have a6 : s.c6 L = s.c6 M := by unfold Rd.c6; rw [a']
    rcases row_two (s := s.c6 L) (L := L) (M := M) (by omega) h2 with ⟨c, d⟩ | ⟨c, d⟩
    · exact .inl ⟨c, by unfold Rd.coreEnd; rw [← a6]; exact d⟩
    · refine .inr ⟨by unfold Rd.coreEnd; rw [← a6]; exact c, ?_⟩
      unfold Rd.core
      rw [b, a', ← a6, d]
theorem okOf_two {r : List UInt8} {M : Int} (h : (r.length : Int) ≤ M) : (okOf r r.length = false ∧ okOf r M = false) ∨ (okOf r r.length = okOf r M ∧ coreOf r r.length = coreOf r M) := by
  rcases core_two (s := Rd.of r) (L := r.length) (M := M) (Int.le_refl _) h with ⟨a, b⟩ | ⟨a, b⟩
  · refine .inl ⟨decide_eq_false ?_, decide_eq_false ?_⟩
    · exact Rd.end_bad a
    · exact Rd.end_bad b
  · refine .inr ⟨?_, b⟩
    unfold okOf
    rw [a]
/-- Once a reader has failed, nothing comes of it. -/
theorem ents_bad {n most : Int} : ∀ (k : Nat) {s : Rd} (acc : List Ent), s.e ≠ 0 → parse2 n (s.ents most k acc) = ([], 2)
  | 0, s, acc, h => by
    simp only [Rd.ents, parse2]
    rw [if_pos (Rd.end_bad h)]
  | k + 1, s, acc, h => by
    simp only [Rd.ents]
    split
    · rfl
    · refine ents_bad k _ ?_
      rw [Rd.row_bad h, Rd.fixed_bad h]
      exact h
theorem rents_bad {n : Int} (k : Nat) {s : Rd} (acc : List Ent) (ok : Bool) (h : s.e ≠ 0) : rparse2 n (s.rents k acc ok) = ([], 2) := by
  rw [rents_stop h, rparse2, if_pos (.inl (Rd.end_bad h))]
theorem rents_flag : ∀ (k : Nat) (s : Rd) (acc : List Ent), (s.rents k acc false).2.1 = false
  | 0, _, _ => rfl
  | k + 1, s, acc => by
    simp only [Rd.rents, Bool.false_and]
    split
    · rfl
    · exact rents_flag k _ _
theorem parse_steps {n L : Int} (hL : L ≤ 1048576) : ∀ (k j : Nat) (s : Rd) (acc : List Ent), s.e = 0 → (s.l.length : Int) ≤ L → (k = j ∨ (s.l.length < k ∧ s.l.length < j)) → parse2 n (s.ents L k acc) = rparse2 n (s.rents j acc true)
  | 0, j, s, acc, he, hs, hk => by
    have : j = 0 := by omega
    subst this
    simp only [Rd.ents, Rd.rents, parse2, rparse2]
    by_cases h1 : s.end_ = 0 <;> by_cases h2 : chkB acc n = 0 <;> simp [h1, h2]
  | k + 1, j, s, acc, he, hs, hk => by
    obtain ⟨i, rfl⟩ : ∃ i, j = i + 1 := ⟨j - 1, by omega⟩
    simp only [Rd.ents, Rd.rents]
    rw [if_neg (by simpa using he : ¬ s.e ≠ 0)]
    rcases row_two (s := s) hs hL with ⟨a, b⟩ | ⟨a, b⟩
    · rw [rents_bad i _ _ (by rw [Rd.fixed_bad b]; exact b)]
      split
      · rfl
      · exact ents_bad k _ (by rw [Rd.fixed_bad a]; exact a)
    · rw [← a, ← b]
      have h5 := s.rowOut_length L
      have h6 := (s.row L).fixed_length 1
      by_cases he1 : ((s.row L).fixed 1).e = 0
      · have h7 := Rd.fixed_ok he1
        have h8 := row_less h7.1
        rcases okOf_two (r := s.rowOut L) (M := 1048576) (by omega) with ⟨c, d⟩ | ⟨c, d⟩
        · rw [if_pos c, d, Bool.true_and, rparse2, if_pos (.inr (rents_flag _ _ _))]
          rfl
        · rw [← c, ← d]
          split
          · rename_i hc
            rw [hc, Bool.true_and, rparse2, if_pos (.inr (rents_flag _ _ _))]
            rfl
          · rename_i hc
            rw [Bool.not_eq_false] at hc
            rw [hc, Bool.true_and]
            exact parse_steps hL k i _ _ he1 (by omega) (by omega)
      · rw [rents_bad i _ _ he1]
        split
        · rfl
        · exact ents_bad k _ he1
/-- The program's Parse and the document's answer alike. -/
theorem parse_two {l : List UInt8} {n : Int} (hl : l.length ≤ 1000000) : parseS l n = rparseS l n := by
  unfold parseS rparseS
  by_cases he : ((Rd.of l).fixed 2).e = 0
  · have h1 := (Rd.of l).fixed_length 2
    have h2 : (Rd.of l).l = l := rfl
    rw [h2] at h1
    refine parse_steps (by omega) _ _ _ _ he (by omega) ?_
    unfold manyOf
    omega
  · rw [ents_bad _ _ he, rents_bad _ _ _ he]
end Go.Proofs.Ytdbeinbgekdnmaa
