/-
  Layer 10: a letter, step by step: the program and the document.
-/
import Derived.Test.YtdbeinbgekdnmaaMoney
namespace Go.Proofs.Ytdbeinbgekdnmaa
open Go.RowKit

/-- A letter, as a Lean value. -/
structure Ltr where
  name : ByteArray
  state : Int
  amount : Int
  due : Int
  policy : ByteArray
  papers : ByteArray
def Ltr.cells (l : Ltr) : Array Value := #[.string l.name, .int .i64 l.state, .int .i64 l.amount, .int .i64 l.due, .string l.policy, .string l.papers]
def Ltr.none : Ltr := ⟨ByteArray.empty, 0, 0, 0, ByteArray.empty, ByteArray.empty⟩

/-- Where a step leads; 0: nowhere. -/
def ltrRow (op : Int) : List Int :=
   if op = 1 then [1, 0, 0, 0, 0, 0, 0, 0]
  else if op = 2 then [0, 2, 0, 0, 0, 0, 0, 0]
  else if op = 3 then [0, 0, 2, 0, 0, 0, 0, 0]
  else if op = 4 then [0, 0, 3, 0, 0, 0, 0, 0]
  else if op = 5 then [0, 0, 0, 4, 0, 0, 0, 0]
  else if op = 6 then [0, 0, 0, 2, 0, 0, 0, 0]
  else if op = 7 then [0, 0, 0, 0, 5, 0, 0, 0]
  else if op = 8 then [0, 6, 6, 6, 0, 0, 0, 0]
  else if op = 9 then [0, 7, 7, 0, 0, 0, 0, 0]
  else [0, 0, 0, 0, 0, 0, 0, 0]
def ltrNext (state op : Int) : Int := if state < 0 then 0 else (ltrRow op).getD state.toNat 0
def tableCells : Array Value := #[.int .i64 0, .int .i64 0, .int .i64 0, .int .i64 0, .int .i64 0, .int .i64 0, .int .i64 0, .int .i64 0, .int .i64 1, .int .i64 0, .int .i64 0, .int .i64 0, .int .i64 0, .int .i64 0, .int .i64 0, .int .i64 0, .int .i64 0, .int .i64 2, .int .i64 0, .int .i64 0, .int .i64 0, .int .i64 0, .int .i64 0, .int .i64 0, .int .i64 0, .int .i64 0, .int .i64 2, .int .i64 0, .int .i64 0, .int .i64 0, .int .i64 0, .int .i64 0, .int .i64 0, .int .i64 0, .int .i64 3, .int .i64 0, .int .i64 0, .int .i64 0, .int .i64 0, .int .i64 0, .int .i64 0, .int .i64 0, .int .i64 0, .int .i64 4, .int .i64 0, .int .i64 0, .int .i64 0, .int .i64 0, .int .i64 0, .int .i64 0, .int .i64 0, .int .i64 2, .int .i64 0, .int .i64 0, .int .i64 0, .int .i64 0, .int .i64 0, .int .i64 0, .int .i64 0, .int .i64 0, .int .i64 5, .int .i64 0, .int .i64 0, .int .i64 0, .int .i64 0, .int .i64 6, .int .i64 6, .int .i64 6, .int .i64 0, .int .i64 0, .int .i64 0, .int .i64 0, .int .i64 0, .int .i64 7, .int .i64 7, .int .i64 0, .int .i64 0, .int .i64 0, .int .i64 0, .int .i64 0]

set_option maxRecDepth 100000 in
theorem letter_table (w : World) : Calls Try.prog 83 #[] w fun e w' => e = .returned (.agg tableCells) ∧ Ext [] w w' := by
  go_enter Try.func83, Try.ntmps83
  go_wp2_with (first
    | (refine wpList_store_new (o := ⟨none, .store 118 _ _, _, _, _, _⟩) rfl _ _ _ rfl w _ _ tableCells rfl rfl rfl (by kernel_rfl) (by kernel_rfl) (by kernel_rfl) ?_))
  exact bodyPost_ret (v := .agg tableCells) (results_cell_row rfl _ _ w.heap.size _ _ _ _ rfl (heap_alloc_new _ _) Try.underlying118 rfl (by kernel_rfl)) rfl ⟨rfl, (Ext.refl _).alloc _⟩

theorem index_row (op : Int) (h1 : 1 ≤ op) (h9 : op ≤ 9) (w : World) : (Instr.index 118 (.agg tableCells) (.int .i64 op)).run Try.prog w = .ok (.agg ((ltrRow op).map (Value.int .i64)).toArray) w := by
  have : op = 1 ∨ op = 2 ∨ op = 3 ∨ op = 4 ∨ op = 5 ∨ op = 6 ∨ op = 7 ∨ op = 8 ∨ op = 9 := by omega
  rcases this with rfl | rfl | rfl | rfl | rfl | rfl | rfl | rfl | rfl <;> (show _ = _; kernel_rfl)
theorem index_state (op : Int) (h1 : 1 ≤ op) (h9 : op ≤ 9) (s : Int) (hs0 : 0 ≤ s) (hs7 : s ≤ 7) (w : World) :
    (Instr.index 117 (.agg ((ltrRow op).map (Value.int .i64)).toArray) (.int .i64 s)).run Try.prog w = .ok (.int .i64 (ltrNext s op)) w := by
  have h : op = 1 ∨ op = 2 ∨ op = 3 ∨ op = 4 ∨ op = 5 ∨ op = 6 ∨ op = 7 ∨ op = 8 ∨ op = 9 := by omega
  have h2 : s = 0 ∨ s = 1 ∨ s = 2 ∨ s = 3 ∨ s = 4 ∨ s = 5 ∨ s = 6 ∨ s = 7 := by omega
  rcases h with rfl | rfl | rfl | rfl | rfl | rfl | rfl | rfl | rfl <;> rcases h2 with rfl | rfl | rfl | rfl | rfl | rfl | rfl | rfl <;> (show _ = _; kernel_rfl)
theorem ltrNext_none (s op : Int) (h : op < 1 ∨ 9 < op ∨ s < 0 ∨ 8 ≤ s) : ltrNext s op = 0 := by
  unfold ltrNext
  split
  · rfl
  · have h' : op < 1 ∨ 9 < op ∨ 8 ≤ s := by omega
    rcases h' with h' | h' | h'
    · simp only [ltrRow, if_neg (show ¬ op = 1 by omega), if_neg (show ¬ op = 2 by omega), if_neg (show ¬ op = 3 by omega), if_neg (show ¬ op = 4 by omega), if_neg (show ¬ op = 5 by omega), if_neg (show ¬ op = 6 by omega), if_neg (show ¬ op = 7 by omega), if_neg (show ¬ op = 8 by omega), if_neg (show ¬ op = 9 by omega)]
      rcases hs : s.toNat with _ | _ | _ | _ | _ | _ | _ | _ | n <;> simp
    · simp only [ltrRow, if_neg (show ¬ op = 1 by omega), if_neg (show ¬ op = 2 by omega), if_neg (show ¬ op = 3 by omega), if_neg (show ¬ op = 4 by omega), if_neg (show ¬ op = 5 by omega), if_neg (show ¬ op = 6 by omega), if_neg (show ¬ op = 7 by omega), if_neg (show ¬ op = 8 by omega), if_neg (show ¬ op = 9 by omega)]
      rcases hs : s.toNat with _ | _ | _ | _ | _ | _ | _ | _ | n <;> simp
    · have hl : (ltrRow op).length = 8 := by unfold ltrRow; repeat' split
                                             all_goals rfl
      rw [List.getD_eq_getElem?_getD, List.getElem?_eq_none (by omega)]; rfl

theorem letter_Next (s op : Int) (w : World) :
    Calls Try.prog 47 #[.int .i64 s, .int .i64 op] w fun e w' => e = .returned (.int .i64 (ltrNext s op)) ∧ Ext [] w w' := by
  by_cases h1 : op < 1
  · rw [ltrNext_none s op (by omega)]
    go_enter Try.func47, Try.ntmps47
    go_wp2
    go_ret
    exact ⟨rfl, Ext.refl _⟩
  by_cases h2 : 9 < op
  · rw [ltrNext_none s op (by omega)]
    go_enter Try.func47, Try.ntmps47
    go_wp2
    go_ret
    exact ⟨rfl, Ext.refl _⟩
  by_cases h3 : s < 0
  · rw [ltrNext_none s op (by omega)]
    go_enter Try.func47, Try.ntmps47
    go_wp2
    go_ret
    exact ⟨rfl, Ext.refl _⟩
  by_cases h4 : 8 ≤ s
  · rw [ltrNext_none s op (by omega)]
    go_enter Try.func47, Try.ntmps47
    go_wp2
    go_ret
    exact ⟨rfl, Ext.refl _⟩
  have i1 := index_row op (by omega) (by omega)
  have i2 := index_state op (by omega) (by omega) s (by omega) (by omega)
  go_enter Try.func47, Try.ntmps47
  go_wp2_with (go_at_call 83; refine (letter_table _).mono ?_; rintro e w1 ⟨rfl, e1⟩)
  go_ret
  exact ⟨rfl, e1⟩

/-- Which states a step leads from. -/
def ltrFrom (op : Int) : List Int := if op = 1 then [0] else if op = 2 then [1] else if op = 3 then [2] else if op = 4 then [2] else if op = 5 then [3] else if op = 6 then [3] else if op = 7 then [4] else if op = 8 then [1, 2, 3] else if op = 9 then [1, 2] else []
theorem ltrNext_other (s op : Int) (h : s ∉ ltrFrom op) : ltrNext s op = 0 := by
  by_cases h1 : op < 1 ∨ 9 < op ∨ s < 0 ∨ 8 ≤ s
  · exact ltrNext_none s op h1
  · have h3 : op = 1 ∨ op = 2 ∨ op = 3 ∨ op = 4 ∨ op = 5 ∨ op = 6 ∨ op = 7 ∨ op = 8 ∨ op = 9 := by omega
    have h2 : s = 0 ∨ s = 1 ∨ s = 2 ∨ s = 3 ∨ s = 4 ∨ s = 5 ∨ s = 6 ∨ s = 7 := by omega
    rcases h3 with rfl | rfl | rfl | rfl | rfl | rfl | rfl | rfl | rfl <;> rcases h2 with rfl | rfl | rfl | rfl | rfl | rfl | rfl | rfl <;> first | rfl | exact absurd (by decide) h
theorem ref10_Next (s op : Int) (w : World) :
    Calls Try.prog 48 #[.int .i64 s, .int .i64 op] w fun e w' => e = .returned (.int .i64 (ltrNext s op)) ∧ w = w' := by
  by_cases h1 : op < 1 ∨ 9 < op
  · rw [ltrNext_none s op (by omega)]
    have k1 : (op == 1) = false := by simp; omega
    have k2 : (op == 2) = false := by simp; omega
    have k3 : (op == 3) = false := by simp; omega
    have k4 : (op == 4) = false := by simp; omega
    have k5 : (op == 5) = false := by simp; omega
    have k6 : (op == 6) = false := by simp; omega
    have k7 : (op == 7) = false := by simp; omega
    have k8 : (op == 8) = false := by simp; omega
    have k9 : (op == 9) = false := by simp; omega
    clear h1
    go_enter Try.func48, Try.ntmps48
    go_wp2
    go_ret
    exact ⟨rfl, rfl⟩
  have : op = 1 ∨ op = 2 ∨ op = 3 ∨ op = 4 ∨ op = 5 ∨ op = 6 ∨ op = 7 ∨ op = 8 ∨ op = 9 := by omega
  clear h1
  rcases this with rfl | rfl | rfl | rfl | rfl | rfl | rfl | rfl | rfl
  ·
    by_cases s0 : s = 0
    · subst s0
      rw [show ltrNext 0 1 = 1 from by decide]
      go_enter Try.func48, Try.ntmps48
      go_wp2
      go_ret
      exact ⟨rfl, rfl⟩
    have b0 : (s == 0) = false := by simpa using s0
    rw [show ltrNext s 1 = 0 from ltrNext_other s 1 (by simp [ltrFrom]; omega)]
    go_enter Try.func48, Try.ntmps48
    go_wp2
    go_ret
    exact ⟨rfl, rfl⟩
  ·
    by_cases s1 : s = 1
    · subst s1
      rw [show ltrNext 1 2 = 2 from by decide]
      go_enter Try.func48, Try.ntmps48
      go_wp2
      go_ret
      exact ⟨rfl, rfl⟩
    have b1 : (s == 1) = false := by simpa using s1
    rw [show ltrNext s 2 = 0 from ltrNext_other s 2 (by simp [ltrFrom]; omega)]
    go_enter Try.func48, Try.ntmps48
    go_wp2
    go_ret
    exact ⟨rfl, rfl⟩
  ·
    by_cases s2 : s = 2
    · subst s2
      rw [show ltrNext 2 3 = 2 from by decide]
      go_enter Try.func48, Try.ntmps48
      go_wp2
      go_ret
      exact ⟨rfl, rfl⟩
    have b2 : (s == 2) = false := by simpa using s2
    rw [show ltrNext s 3 = 0 from ltrNext_other s 3 (by simp [ltrFrom]; omega)]
    go_enter Try.func48, Try.ntmps48
    go_wp2
    go_ret
    exact ⟨rfl, rfl⟩
  ·
    by_cases s2 : s = 2
    · subst s2
      rw [show ltrNext 2 4 = 3 from by decide]
      go_enter Try.func48, Try.ntmps48
      go_wp2
      go_ret
      exact ⟨rfl, rfl⟩
    have b2 : (s == 2) = false := by simpa using s2
    rw [show ltrNext s 4 = 0 from ltrNext_other s 4 (by simp [ltrFrom]; omega)]
    go_enter Try.func48, Try.ntmps48
    go_wp2
    go_ret
    exact ⟨rfl, rfl⟩
  ·
    by_cases s3 : s = 3
    · subst s3
      rw [show ltrNext 3 5 = 4 from by decide]
      go_enter Try.func48, Try.ntmps48
      go_wp2
      go_ret
      exact ⟨rfl, rfl⟩
    have b3 : (s == 3) = false := by simpa using s3
    rw [show ltrNext s 5 = 0 from ltrNext_other s 5 (by simp [ltrFrom]; omega)]
    go_enter Try.func48, Try.ntmps48
    go_wp2
    go_ret
    exact ⟨rfl, rfl⟩
  ·
    by_cases s3 : s = 3
    · subst s3
      rw [show ltrNext 3 6 = 2 from by decide]
      go_enter Try.func48, Try.ntmps48
      go_wp2
      go_ret
      exact ⟨rfl, rfl⟩
    have b3 : (s == 3) = false := by simpa using s3
    rw [show ltrNext s 6 = 0 from ltrNext_other s 6 (by simp [ltrFrom]; omega)]
    go_enter Try.func48, Try.ntmps48
    go_wp2
    go_ret
    exact ⟨rfl, rfl⟩
  ·
    by_cases s4 : s = 4
    · subst s4
      rw [show ltrNext 4 7 = 5 from by decide]
      go_enter Try.func48, Try.ntmps48
      go_wp2
      go_ret
      exact ⟨rfl, rfl⟩
    have b4 : (s == 4) = false := by simpa using s4
    rw [show ltrNext s 7 = 0 from ltrNext_other s 7 (by simp [ltrFrom]; omega)]
    go_enter Try.func48, Try.ntmps48
    go_wp2
    go_ret
    exact ⟨rfl, rfl⟩
  ·
    by_cases s1 : s = 1
    · subst s1
      rw [show ltrNext 1 8 = 6 from by decide]
      go_enter Try.func48, Try.ntmps48
      go_wp2
      go_ret
      exact ⟨rfl, rfl⟩
    by_cases s2 : s = 2
    · subst s2
      rw [show ltrNext 2 8 = 6 from by decide]
      go_enter Try.func48, Try.ntmps48
      go_wp2
      go_ret
      exact ⟨rfl, rfl⟩
    by_cases s3 : s = 3
    · subst s3
      rw [show ltrNext 3 8 = 6 from by decide]
      go_enter Try.func48, Try.ntmps48
      go_wp2
      go_ret
      exact ⟨rfl, rfl⟩
    have b1 : (s == 1) = false := by simpa using s1
    have b2 : (s == 2) = false := by simpa using s2
    have b3 : (s == 3) = false := by simpa using s3
    rw [show ltrNext s 8 = 0 from ltrNext_other s 8 (by simp [ltrFrom]; omega)]
    go_enter Try.func48, Try.ntmps48
    go_wp2
    go_ret
    exact ⟨rfl, rfl⟩
  ·
    by_cases s1 : s = 1
    · subst s1
      rw [show ltrNext 1 9 = 7 from by decide]
      go_enter Try.func48, Try.ntmps48
      go_wp2
      go_ret
      exact ⟨rfl, rfl⟩
    by_cases s2 : s = 2
    · subst s2
      rw [show ltrNext 2 9 = 7 from by decide]
      go_enter Try.func48, Try.ntmps48
      go_wp2
      go_ret
      exact ⟨rfl, rfl⟩
    have b1 : (s == 1) = false := by simpa using s1
    have b2 : (s == 2) = false := by simpa using s2
    rw [show ltrNext s 9 = 0 from ltrNext_other s 9 (by simp [ltrFrom]; omega)]
    go_enter Try.func48, Try.ntmps48
    go_wp2
    go_ret
    exact ⟨rfl, rfl⟩

end Go.Proofs.Ytdbeinbgekdnmaa
