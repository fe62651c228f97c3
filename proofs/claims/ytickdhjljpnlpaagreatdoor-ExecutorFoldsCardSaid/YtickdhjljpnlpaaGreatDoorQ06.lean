/-
  Packed out of the texts: Letter, LetterDo, LetterStep, Oc, Idx, Names, Cores, ACor, EntD, Led, LetterRef, LedW, Rds.
-/
import Derived.Test.YtickdhjljpnlpaaGreatDoorQ05
import Derived.Sort.Walk0
set_option maxRecDepth 100000
set_option linter.unusedSimpArgs false
set_option linter.unusedVariables false
namespace Go.Proofs.YtickdhjljpnlpaaGreatDoor
open Go.RowKit
structure Ltr where
  name : ByteArray
  state : Int
  amount : Int
  due : Int
  policy : ByteArray
  papers : ByteArray
def Ltr.cells (l : Ltr) : Array Value := #[.string l.name, .int .i64 l.state, .int .i64 l.amount, .int .i64 l.due, .string l.policy, .string l.papers]
def Ltr.none : Ltr := ⟨ByteArray.empty, 0, 0, 0, ByteArray.empty, ByteArray.empty⟩
def ltrRow (op : Int) : List Int :=
   if op = 1 then [1, 0, 0, 0, 0, 0, 0, 0]
  else if op = 2 then [0, 2, 0, 0, 0, 0, 0, 0]
  else if op = 3 then [0, 0, 2, 0, 0, 0, 0, 0]
  else if op = 4 then [0, 0, 3, 0, 0, 0, 0, 0]
  else if op = 5 then [0, 0, 0, 4, 0, 0, 0, 0]
  else if op = 6 then [0, 0, 0, 2, 0, 0, 0, 0]
  else if op = 7 then [0, 0, 0, 0, 5, 0, 0, 0]
  else if op = 8 then [0, 6, 6, 6, 0, 0, 0, 0]
  else if op = 9 then [0, 7, 7, 0, 0, 0, 0, 0]
  else [0, 0, 0, 0, 0, 0, 0, 0]
def ltrNext (state op : Int) : Int := if state < 0 then 0 else (ltrRow op).getD state.toNat 0
def tableCells : Array Value := #[.int .i64 0, .int .i64 0, .int .i64 0, .int .i64 0, .int .i64 0, .int .i64 0, .int .i64 0, .int .i64 0, .int .i64 1, .int .i64 0, .int .i64 0, .int .i64 0, .int .i64 0, .int .i64 0, .int .i64 0, .int .i64 0, .int .i64 0, .int .i64 2, .int .i64 0, .int .i64 0, .int .i64 0, .int .i64 0, .int .i64 0, .int .i64 0, .int .i64 0, .int .i64 0, .int .i64 2, .int .i64 0, .int .i64 0, .int .i64 0, .int .i64 0, .int .i64 0, .int .i64 0, .int .i64 0, .int .i64 3, .int .i64 0, .int .i64 0, .int .i64 0, .int .i64 0, .int .i64 0, .int .i64 0, .int .i64 0, .int .i64 0, .int .i64 4, .int .i64 0, .int .i64 0, .int .i64 0, .int .i64 0, .int .i64 0, .int .i64 0, .int .i64 0, .int .i64 2, .int .i64 0, .int .i64 0, .int .i64 0, .int .i64 0, .int .i64 0, .int .i64 0, .int .i64 0, .int .i64 0, .int .i64 5, .int .i64 0, .int .i64 0, .int .i64 0, .int .i64 0, .int .i64 6, .int .i64 6, .int .i64 6, .int .i64 0, .int .i64 0, .int .i64 0, .int .i64 0, .int .i64 0, .int .i64 7, .int .i64 7, .int .i64 0, .int .i64 0, .int .i64 0, .int .i64 0, .int .i64 0]
set_option maxRecDepth 100000 in
theorem gm_ (w : World) : Calls Tryz.prog 144 #[] w fun e w' => e = .returned (.agg tableCells) ∧ Ext [] w w' := by
  go_enter Tryz.func144, Tryz.ntmps144
  go_wp2_with (first
    | (refine dG_ (o := ⟨none, .store 181 _ _, _, _, _, _⟩) rfl _ _ _ rfl w _ _ tableCells rfl rfl rfl (by kernel_rfl) (by kernel_rfl) (by kernel_rfl) ?_))
  exact bodyPost_ret (v := .agg tableCells) (results_cell_row rfl _ _ w.heap.size _ _ _ _ rfl (heap_alloc_new _ _) Tryz.underlying181 rfl (by kernel_rfl)) rfl ⟨rfl, (Ext.refl _).alloc _⟩
theorem jZ_ (op : Int) (h1 : 1 ≤ op) (h9 : op ≤ 9) (w : World) : (Instr.index 181 (.agg tableCells) (.int .i64 op)).run Tryz.prog w = .ok (.agg ((ltrRow op).map (Value.int .i64)).toArray) w := by
  have : op = 1 ∨ op = 2 ∨ op = 3 ∨ op = 4 ∨ op = 5 ∨ op = 6 ∨ op = 7 ∨ op = 8 ∨ op = 9 := by omega
  rcases this with rfl | rfl | rfl | rfl | rfl | rfl | rfl | rfl | rfl <;> (show _ = _; kernel_rfl)
theorem hj_ (op : Int) (h1 : 1 ≤ op) (h9 : op ≤ 9) (s : Int) (hs0 : 0 ≤ s) (hs7 : s ≤ 7) (w : World) :
    (Instr.index 180 (.agg ((ltrRow op).map (Value.int .i64)).toArray) (.int .i64 s)).run Tryz.prog w = .ok (.int .i64 (ltrNext s op)) w := by
  have h : op = 1 ∨ op = 2 ∨ op = 3 ∨ op = 4 ∨ op = 5 ∨ op = 6 ∨ op = 7 ∨ op = 8 ∨ op = 9 := by omega
  have h2 : s = 0 ∨ s = 1 ∨ s = 2 ∨ s = 3 ∨ s = 4 ∨ s = 5 ∨ s = 6 ∨ s = 7 := by omega
  rcases h with rfl | rfl | rfl | rfl | rfl | rfl | rfl | rfl | rfl <;> rcases h2 with rfl | rfl | rfl | rfl | rfl | rfl | rfl | rfl <;> (show _ = _; kernel_rfl)
theorem bg_ (s op : Int) (h : op < 1 ∨ 9 < op ∨ s < 0 ∨ 8 ≤ s) : ltrNext s op = 0 := by
  unfold ltrNext
  split
  · rfl
  · have h' : op < 1 ∨ 9 < op ∨ 8 ≤ s := by omega
    rcases h' with h' | h' | h'
    · simp only [ltrRow, if_neg (show ¬ op = 1 by omega), if_neg (show ¬ op = 2 by omega), if_neg (show ¬ op = 3 by omega), if_neg (show ¬ op = 4 by omega), if_neg (show ¬ op = 5 by omega), if_neg (show ¬ op = 6 by omega), if_neg (show ¬ op = 7 by omega), if_neg (show ¬ op = 8 by omega), if_neg (show ¬ op = 9 by omega)]
      rcases hs : s.toNat with _ | _ | _ | _ | _ | _ | _ | _ | n <;> simp
    · simp only [ltrRow, if_neg (show ¬ op = 1 by omega), if_neg (show ¬ op = 2 by omega), if_neg (show ¬ op = 3 by omega), if_neg (show ¬ op = 4 by omega), if_neg (show ¬ op = 5 by omega), if_neg (show ¬ op = 6 by omega), if_neg (show ¬ op = 7 by omega), if_neg (show ¬ op = 8 by omega), if_neg (show ¬ op = 9 by omega)]
      rcases hs : s.toNat with _ | _ | _ | _ | _ | _ | _ | _ | n <;> simp
    · have hl : (ltrRow op).length = 8 := by unfold ltrRow; repeat' split
                                             all_goals rfl
      rw [List.getD_eq_getElem?_getD, List.getElem?_eq_none (by omega)]; rfl
theorem cW_ (s op : Int) (w : World) :
    Calls Tryz.prog 122 #[.int .i64 s, .int .i64 op] w fun e w' => e = .returned (.int .i64 (ltrNext s op)) ∧ Ext [] w w' := by
  by_cases h1 : op < 1
  · rw [bg_ s op (by omega)]
    go_enter Tryz.func122, Tryz.ntmps122
    go_wp2
    go_ret
    exact ⟨rfl, Ext.refl _⟩
  by_cases h2 : 9 < op
  · rw [bg_ s op (by omega)]
    go_enter Tryz.func122, Tryz.ntmps122
    go_wp2
    go_ret
    exact ⟨rfl, Ext.refl _⟩
  by_cases h3 : s < 0
  · rw [bg_ s op (by omega)]
    go_enter Tryz.func122, Tryz.ntmps122
    go_wp2
    go_ret
    exact ⟨rfl, Ext.refl _⟩
  by_cases h4 : 8 ≤ s
  · rw [bg_ s op (by omega)]
    go_enter Tryz.func122, Tryz.ntmps122
    go_wp2
    go_ret
    exact ⟨rfl, Ext.refl _⟩
  have i1 := jZ_ op (by omega) (by omega)
  have i2 := hj_ op (by omega) (by omega) s (by omega) (by omega)
  go_enter Tryz.func122, Tryz.ntmps122
  go_wp2_with (go_at_call 144; refine (gm_ _).mono ?_; rintro e w1 ⟨rfl, e1⟩)
  go_ret
  exact ⟨rfl, e1⟩
def ltrFrom (op : Int) : List Int := if op = 1 then [0] else if op = 2 then [1] else if op = 3 then [2] else if op = 4 then [2] else if op = 5 then [3] else if op = 6 then [3] else if op = 7 then [4] else if op = 8 then [1, 2, 3] else if op = 9 then [1, 2] else []
theorem aJ_ (s op : Int) (h : s ∉ ltrFrom op) : ltrNext s op = 0 := by
  by_cases h1 : op < 1 ∨ 9 < op ∨ s < 0 ∨ 8 ≤ s
  · exact bg_ s op h1
  · have h3 : op = 1 ∨ op = 2 ∨ op = 3 ∨ op = 4 ∨ op = 5 ∨ op = 6 ∨ op = 7 ∨ op = 8 ∨ op = 9 := by omega
    have h2 : s = 0 ∨ s = 1 ∨ s = 2 ∨ s = 3 ∨ s = 4 ∨ s = 5 ∨ s = 6 ∨ s = 7 := by omega
    rcases h3 with rfl | rfl | rfl | rfl | rfl | rfl | rfl | rfl | rfl <;> rcases h2 with rfl | rfl | rfl | rfl | rfl | rfl | rfl | rfl <;> first | rfl | exact absurd (by decide) h
theorem ao_ (s op : Int) (w : World) :
    Calls Tryz.prog 111 #[.int .i64 s, .int .i64 op] w fun e w' => e = .returned (.int .i64 (ltrNext s op)) ∧ w = w' := by
  by_cases h1 : op < 1 ∨ 9 < op
  · rw [bg_ s op (by omega)]
    have k1 : (op == 1) = false := by simp; omega
    have k2 : (op == 2) = false := by simp; omega
    have k3 : (op == 3) = false := by simp; omega
    have k4 : (op == 4) = false := by simp; omega
    have k5 : (op == 5) = false := by simp; omega
    have k6 : (op == 6) = false := by simp; omega
    have k7 : (op == 7) = false := by simp; omega
    have k8 : (op == 8) = false := by simp; omega
    have k9 : (op == 9) = false := by simp; omega
    clear h1
    go_enter Tryz.func111, Tryz.ntmps111
    go_wp2
    go_ret
    exact ⟨rfl, rfl⟩
  have : op = 1 ∨ op = 2 ∨ op = 3 ∨ op = 4 ∨ op = 5 ∨ op = 6 ∨ op = 7 ∨ op = 8 ∨ op = 9 := by omega
  clear h1
  rcases this with rfl | rfl | rfl | rfl | rfl | rfl | rfl | rfl | rfl
  ·
    by_cases s0 : s = 0
    · subst s0
      rw [show ltrNext 0 1 = 1 from by decide]
      go_enter Tryz.func111, Tryz.ntmps111
      go_wp2
      go_ret
      exact ⟨rfl, rfl⟩
    have b0 : (s == 0) = false := by simpa using s0
    rw [show ltrNext s 1 = 0 from aJ_ s 1 (by simp [ltrFrom]; omega)]
    go_enter Tryz.func111, Tryz.ntmps111
    go_wp2
    go_ret
    exact ⟨rfl, rfl⟩
  ·
    by_cases s1 : s = 1
    · subst s1
      rw [show ltrNext 1 2 = 2 from by decide]
      go_enter Tryz.func111, Tryz.ntmps111
      go_wp2
      go_ret
      exact ⟨rfl, rfl⟩
    have b1 : (s == 1) = false := by simpa using s1
    rw [show ltrNext s 2 = 0 from aJ_ s 2 (by simp [ltrFrom]; omega)]
    go_enter Tryz.func111, Tryz.ntmps111
    go_wp2
    go_ret
    exact ⟨rfl, rfl⟩
  ·
    by_cases s2 : s = 2
    · subst s2
      rw [show ltrNext 2 3 = 2 from by decide]
      go_enter Tryz.func111, Tryz.ntmps111
      go_wp2
      go_ret
      exact ⟨rfl, rfl⟩
    have b2 : (s == 2) = false := by simpa using s2
    rw [show ltrNext s 3 = 0 from aJ_ s 3 (by simp [ltrFrom]; omega)]
    go_enter Tryz.func111, Tryz.ntmps111
    go_wp2
    go_ret
    exact ⟨rfl, rfl⟩
  ·
    by_cases s2 : s = 2
    · subst s2
      rw [show ltrNext 2 4 = 3 from by decide]
      go_enter Tryz.func111, Tryz.ntmps111
      go_wp2
      go_ret
      exact ⟨rfl, rfl⟩
    have b2 : (s == 2) = false := by simpa using s2
    rw [show ltrNext s 4 = 0 from aJ_ s 4 (by simp [ltrFrom]; omega)]
    go_enter Tryz.func111, Tryz.ntmps111
    go_wp2
    go_ret
    exact ⟨rfl, rfl⟩
  ·
    by_cases s3 : s = 3
    · subst s3
      rw [show ltrNext 3 5 = 4 from by decide]
      go_enter Tryz.func111, Tryz.ntmps111
      go_wp2
      go_ret
      exact ⟨rfl, rfl⟩
    have b3 : (s == 3) = false := by simpa using s3
    rw [show ltrNext s 5 = 0 from aJ_ s 5 (by simp [ltrFrom]; omega)]
    go_enter Tryz.func111, Tryz.ntmps111
    go_wp2
    go_ret
    exact ⟨rfl, rfl⟩
  ·
    by_cases s3 : s = 3
    · subst s3
      rw [show ltrNext 3 6 = 2 from by decide]
      go_enter Tryz.func111, Tryz.ntmps111
      go_wp2
      go_ret
      exact ⟨rfl, rfl⟩
    have b3 : (s == 3) = false := by simpa using s3
    rw [show ltrNext s 6 = 0 from aJ_ s 6 (by simp [ltrFrom]; omega)]
    go_enter Tryz.func111, Tryz.ntmps111
    go_wp2
    go_ret
    exact ⟨rfl, rfl⟩
  ·
    by_cases s4 : s = 4
    · subst s4
      rw [show ltrNext 4 7 = 5 from by decide]
      go_enter Tryz.func111, Tryz.ntmps111
      go_wp2
      go_ret
      exact ⟨rfl, rfl⟩
    have b4 : (s == 4) = false := by simpa using s4
    rw [show ltrNext s 7 = 0 from aJ_ s 7 (by simp [ltrFrom]; omega)]
    go_enter Tryz.func111, Tryz.ntmps111
    go_wp2
    go_ret
    exact ⟨rfl, rfl⟩
  ·
    by_cases s1 : s = 1
    · subst s1
      rw [show ltrNext 1 8 = 6 from by decide]
      go_enter Tryz.func111, Tryz.ntmps111
      go_wp2
      go_ret
      exact ⟨rfl, rfl⟩
    by_cases s2 : s = 2
    · subst s2
      rw [show ltrNext 2 8 = 6 from by decide]
      go_enter Tryz.func111, Tryz.ntmps111
      go_wp2
      go_ret
      exact ⟨rfl, rfl⟩
    by_cases s3 : s = 3
    · subst s3
      rw [show ltrNext 3 8 = 6 from by decide]
      go_enter Tryz.func111, Tryz.ntmps111
      go_wp2
      go_ret
      exact ⟨rfl, rfl⟩
    have b1 : (s == 1) = false := by simpa using s1
    have b2 : (s == 2) = false := by simpa using s2
    have b3 : (s == 3) = false := by simpa using s3
    rw [show ltrNext s 8 = 0 from aJ_ s 8 (by simp [ltrFrom]; omega)]
    go_enter Tryz.func111, Tryz.ntmps111
    go_wp2
    go_ret
    exact ⟨rfl, rfl⟩
  ·
    by_cases s1 : s = 1
    · subst s1
      rw [show ltrNext 1 9 = 7 from by decide]
      go_enter Tryz.func111, Tryz.ntmps111
      go_wp2
      go_ret
      exact ⟨rfl, rfl⟩
    by_cases s2 : s = 2
    · subst s2
      rw [show ltrNext 2 9 = 7 from by decide]
      go_enter Tryz.func111, Tryz.ntmps111
      go_wp2
      go_ret
      exact ⟨rfl, rfl⟩
    have b1 : (s == 1) = false := by simpa using s1
    have b2 : (s == 2) = false := by simpa using s2
    rw [show ltrNext s 9 = 0 from aJ_ s 9 (by simp [ltrFrom]; omega)]
    go_enter Tryz.func111, Tryz.ntmps111
    go_wp2
    go_ret
    exact ⟨rfl, rfl⟩
/-! ### What a step does beside the state -/
def Ltr.apply (l : Ltr) (a b : Int) (text : ByteArray) : Ltr × Int :=
  if a < 1 then (l, 5) else if isAmt a = false then (l, 6) else if isAmt b = false then (l, 5) else (⟨l.name, 0, a, b, text, ByteArray.empty⟩, 0)
def Ltr.amend (l : Ltr) (a b : Int) : Ltr × Int :=
  if (amtChange l.amount a).2 ≠ 0 then (l, (amtChange l.amount a).2)
  else if (amtChange l.amount a).1 = 0 ∨ isAmt b = false then (l, 5)
  else ({ l with amount := (amtChange l.amount a).1, due := if b ≠ 0 then b else l.due }, 0)
def Ltr.expire (l : Ltr) (a : Int) : Int := if isAmt a = false then 5 else if a < l.due then 8 else 0
def Ltr.does (l : Ltr) (op a b : Int) (text : ByteArray) : Ltr × Int :=
  if (op = 1 ∨ op = 4) ∧ 200 < text.size then (l, 3)
  else if op = 1 then l.apply a b text
  else if op = 3 then l.amend a b
  else if op = 4 then ({ l with papers := text }, 0)
  else if op = 6 then ({ l with papers := ByteArray.empty }, 0)
  else if op = 8 then (l, l.expire a)
  else (l, 0)
def Ltr.step (l : Ltr) (op a b : Int) (text : ByteArray) : Ltr × Int :=
  if op < 1 ∨ 9 < op then (Ltr.none, 1)
  else if ltrNext l.state op = 0 then (Ltr.none, 8)
  else if (l.does op a b text).2 ≠ 0 then (Ltr.none, (l.does op a b text).2)
  else ({ (l.does op a b text).1 with state := ltrNext l.state op }, 0)
def i64ok (a : Int) : Prop := -9223372036854775808 ≤ a ∧ a ≤ 9223372036854775807
structure Ltr.Wf (l : Ltr) : Prop where
  state : i64ok l.state
  amount : i64ok l.amount
  due : i64ok l.due
theorem bh_ (a : Int) (b : Bool) (hb : isAmt a = b) (w : World) :
    Calls Tryz.prog 160 #[.int .i64 a] w fun e w' => e = .returned (.bool b) ∧ w = w' := by
  by_cases h : 0 ≤ a
  · by_cases h2 : a ≤ 1099511627776
    · obtain rfl : true = b := by rw [← hb, aK_ h h2]
      go_enter Tryz.func160, Tryz.ntmps160
      go_wp2
      go_ret
      exact ⟨rfl, rfl⟩
    · obtain rfl : false = b := by rw [← hb]; simp [isAmt]; omega
      go_enter Tryz.func160, Tryz.ntmps160
      go_wp2
      go_ret
      exact ⟨rfl, rfl⟩
  · obtain rfl : false = b := by rw [← hb]; simp [isAmt]; omega
    go_enter Tryz.func160, Tryz.ntmps160
    go_wp2
    go_ret
    exact ⟨rfl, rfl⟩
theorem bl_ (a : Int) (b : Bool) (hb : isAmt a = b) (w : World) :
    Calls Tryz.prog 56 #[.int .i64 a] w fun e w' => e = .returned (.bool b) ∧ w = w' := by
  by_cases h : 0 ≤ a
  · by_cases h2 : a ≤ 1099511627776
    · obtain rfl : true = b := by rw [← hb, aK_ h h2]
      go_enter Tryz.func56, Tryz.ntmps56
      go_wp2
      go_ret
      exact ⟨rfl, rfl⟩
    · obtain rfl : false = b := by rw [← hb]; simp [isAmt]; omega
      go_enter Tryz.func56, Tryz.ntmps56
      go_wp2
      go_ret
      exact ⟨rfl, rfl⟩
  · obtain rfl : false = b := by rw [← hb]; simp [isAmt]; omega
    go_enter Tryz.func56, Tryz.ntmps56
    go_wp2
    go_ret
    exact ⟨rfl, rfl⟩
def LtrAt (w : World) (p : Nat) (l : Ltr) : Prop := Blk w p 81 l.cells
section
variable {w : World} {p : Nat} {l : Ltr}
theorem LtrAt.setState (h : LtrAt w p l) (s : Int) : LtrAt (w.setCell ⟨p, 1, none⟩ (.int .i64 s)) p { l with state := s } := Blk.set_ h 1 _
theorem Ltr.one (l : Ltr) : l.cells.all (·.oneCell') = true := Array.all_eq_true_iff_forall_mem.2 (fun v hv => by
  simp [Ltr.cells] at hv
  rcases hv with rfl | rfl | rfl | rfl | rfl | rfl <;> rfl)
theorem ae_ {ops : Array Oper} {rest : List Oper} {o : Oper} {a : Act} {Q : Exit → Act → World → Prop} (h : LtrAt w p l) (l' : Ltr) (hg : o.guard = none) (x y : Operand) (ho : o.op = .store 81 x y)
    (hx : a.eval x = .pointer (some ⟨p, 0, none⟩)) (hy : a.eval y = .agg l'.cells) (k : ∀ w', LtrAt w' p l' → Ext [p] w w' → wpList Tryz.prog ops Q rest (a.put o.dst undef) w') : wpList Tryz.prog ops Q (o :: rest) a w :=
  wpList_store_row hg 81 x y ho p l'.cells hx hy 81 l.cells h (by kernel_rfl) rfl (Ltr.one l') (k _ (Blk.setRow h _) ((Ext.refl _).setRow (by simp) _))
theorem LtrAt.c0 (h : LtrAt w p l) : w.cell? ⟨p, 0, none⟩ = some (.string l.name) := by have := Blk.cell h 0; simpa [Ltr.cells] using this
theorem LtrAt.c1 (h : LtrAt w p l) : w.cell? ⟨p, 1, none⟩ = some (.int .i64 l.state) := by have := Blk.cell h 1; simpa [Ltr.cells] using this
theorem LtrAt.c2 (h : LtrAt w p l) : w.cell? ⟨p, 2, none⟩ = some (.int .i64 l.amount) := by have := Blk.cell h 2; simpa [Ltr.cells] using this
theorem LtrAt.c3 (h : LtrAt w p l) : w.cell? ⟨p, 3, none⟩ = some (.int .i64 l.due) := by have := Blk.cell h 3; simpa [Ltr.cells] using this
theorem LtrAt.c4 (h : LtrAt w p l) : w.cell? ⟨p, 4, none⟩ = some (.string l.policy) := by have := Blk.cell h 4; simpa [Ltr.cells] using this
theorem LtrAt.c5 (h : LtrAt w p l) : w.cell? ⟨p, 5, none⟩ = some (.string l.papers) := by have := Blk.cell h 5; simpa [Ltr.cells] using this
end
theorem gn_ (w : World) (p : Nat) (l : Ltr) (a b : Int) (text : ByteArray) (h : LtrAt w p l) (ha : i64ok a) :
    Calls Tryz.prog 145 #[.pointer (some ⟨p, 0, none⟩), .int .i64 a, .int .i64 b, .string text] w fun e w' => e = .returned (.int .i64 (l.apply a b text).2) ∧ LtrAt w' p (l.apply a b text).1 ∧ Ext [p] w w' := by
  obtain ⟨a0, a1⟩ := ha
  have c0 := h.c0
  have H := Lib.hid h; clear h
  by_cases h1 : a < 1
  · rw [show l.apply a b text = (l, 5) by simp [Ltr.apply, h1]]
    go_enter Tryz.func145, Tryz.ntmps145
    go_wp2
    go_ret
    exact ⟨rfl, H.out, Ext.refl _⟩
  cases h2 : isAmt a
  · rw [show l.apply a b text = (l, 6) by simp [Ltr.apply, h1, h2]]
    have H2 := Lib.hid h2; clear h2
    go_enter Tryz.func145, Tryz.ntmps145
    go_wp2_with (go_at_call 81; with_reducible refine (aZ_ a _ H2.out _ (by omega) (by omega)).mono ?_; rintro e _ ⟨rfl, rfl⟩)
    go_ret
    exact ⟨rfl, H.out, Ext.refl _⟩
  have H2 := Lib.hid h2
  cases h3 : isAmt b
  · rw [show l.apply a b text = (l, 5) by simp [Ltr.apply, h2, h3]]
    have H3 := Lib.hid h3; clear h3 h2
    go_enter Tryz.func145, Tryz.ntmps145
    go_wp2_with (first
      | (go_at_call 81; with_reducible refine (aZ_ a _ H2.out _ (by omega) (by omega)).mono ?_; rintro e _ ⟨rfl, rfl⟩)
      | (go_at_call 160; with_reducible refine (bh_ b _ H3.out _).mono ?_; rintro e _ ⟨rfl, rfl⟩))
    go_ret
    exact ⟨rfl, H.out, Ext.refl _⟩
  rw [show l.apply a b text = (⟨l.name, 0, a, b, text, ByteArray.empty⟩, 0) by simp [Ltr.apply, h1, h2, h3]]
  have H3 := Lib.hid h3; clear h3 h2
  go_enter Tryz.func145, Tryz.ntmps145
  go_wp2_with (first
    | (go_at_call 81; with_reducible refine (aZ_ a _ H2.out _ (by omega) (by omega)).mono ?_; rintro e _ ⟨rfl, rfl⟩)
    | (go_at_call 160; with_reducible refine (bh_ b _ H3.out _).mono ?_; rintro e _ ⟨rfl, rfl⟩)
    | ((with_reducible refine b6_ ⟨none, _, _, _, _, _⟩ ?_); refine ae_ H.out ⟨l.name, 0, a, b, text, ByteArray.empty⟩ rfl _ _ rfl rfl rfl ?_; intro w1 hw1 x1))
  go_ret
  exact ⟨rfl, hw1, x1⟩
theorem go_ (w : World) (p : Nat) (l : Ltr) (a b : Int) (h : LtrAt w p l) (hl : i64ok l.amount) (ha : i64ok a) :
    Calls Tryz.prog 146 #[.pointer (some ⟨p, 0, none⟩), .int .i64 a, .int .i64 b] w fun e w' => e = .returned (.int .i64 (l.amend a b).2) ∧ LtrAt w' p (l.amend a b).1 ∧ Ext [p] w w' := by
  obtain ⟨a0, a1⟩ := ha
  obtain ⟨l0, l1⟩ := hl
  have c2 := h.c2
  have c3 := h.c3
  have f2 := h.frozen 2
  have f3 := h.frozen 3
  have H := Lib.hid h; clear h
  by_cases he : (amtChange l.amount a).2 = 0
  · have hb : ((amtChange l.amount a).2 != 0) = false := by simp [he]
    by_cases hv : (amtChange l.amount a).1 = 0
    · rw [show l.amend a b = (l, 5) by simp [Ltr.amend, he, hv]]
      have hvb : ((amtChange l.amount a).1 == 0) = true := by simp [hv]
      clear he hv
      go_enter Tryz.func146, Tryz.ntmps146
      go_wp2_with (go_at_call 161; refine (bA_ _ _ _ l0 l1 a0 a1).mono ?_; rintro e _ ⟨rfl, rfl⟩)
      go_ret
      exact ⟨rfl, H.out, Ext.refl _⟩
    · have hvb : ((amtChange l.amount a).1 == 0) = false := by simpa using hv
      cases hd : isAmt b
      · rw [show l.amend a b = (l, 5) by simp [Ltr.amend, he, hd]]
        have HD := Lib.hid hd
        clear he hv hd
        go_enter Tryz.func146, Tryz.ntmps146
        go_wp2_with (first
          | (go_at_call 161; refine (bA_ _ _ _ l0 l1 a0 a1).mono ?_; rintro e _ ⟨rfl, rfl⟩)
          | (go_at_call 160; with_reducible refine (bh_ b _ HD.out _).mono ?_; rintro e _ ⟨rfl, rfl⟩))
        go_ret
        exact ⟨rfl, H.out, Ext.refl _⟩
      · by_cases h0 : b = 0
        · subst h0
          rw [show l.amend a 0 = ({ l with amount := (amtChange l.amount a).1 }, 0) by simp [Ltr.amend, he, hd, hv]]
          have HD := Lib.hid hd
          clear he hv hd
          go_enter Tryz.func146, Tryz.ntmps146
          go_wp2_with (first
            | (go_at_call 161; refine (bA_ _ _ _ l0 l1 a0 a1).mono ?_; rintro e _ ⟨rfl, rfl⟩)
            | (go_at_call 160; with_reducible refine (bh_ 0 _ HD.out _).mono ?_; rintro e _ ⟨rfl, rfl⟩))
          go_ret
          exact ⟨rfl, Blk.set_ H.out 2 _, (Ext.refl _).setCell (by simp) _⟩
        · have h0b : (b != 0) = true := by simpa using h0
          rw [show l.amend a b = ({ l with amount := (amtChange l.amount a).1, due := b }, 0) by simp [Ltr.amend, he, hd, hv, h0]]
          have HD := Lib.hid hd
          clear he hv hd h0
          go_enter Tryz.func146, Tryz.ntmps146
          go_wp2_with (first
            | (go_at_call 161; refine (bA_ _ _ _ l0 l1 a0 a1).mono ?_; rintro e _ ⟨rfl, rfl⟩)
            | (go_at_call 160; with_reducible refine (bh_ b _ HD.out _).mono ?_; rintro e _ ⟨rfl, rfl⟩))
          go_ret
          exact ⟨rfl, Blk.set_ (Blk.set_ H.out 3 (.int .i64 b)) 2 _, ((Ext.refl _).setCell (by simp) _).setCell (by simp) _⟩
  · have hb : ((amtChange l.amount a).2 != 0) = true := by simpa using he
    rw [show l.amend a b = (l, (amtChange l.amount a).2) by simp [Ltr.amend, he]]
    clear he
    go_enter Tryz.func146, Tryz.ntmps146
    go_wp2_with (go_at_call 161; refine (bA_ _ _ _ l0 l1 a0 a1).mono ?_; rintro e _ ⟨rfl, rfl⟩)
    go_ret
    exact ⟨rfl, H.out, Ext.refl _⟩
theorem fx_ (w : World) (p : Nat) (l : Ltr) (a : Int) (h : LtrAt w p l) :
    Calls Tryz.prog 147 #[.pointer (some ⟨p, 0, none⟩), .int .i64 a] w fun e w' => e = .returned (.int .i64 (l.expire a)) ∧ w = w' := by
  have c3 := h.c3
  have H := Lib.hid h; clear h
  cases hd : isAmt a
  · rw [show l.expire a = 5 by simp [Ltr.expire, hd]]
    have HD := Lib.hid hd; clear hd
    go_enter Tryz.func147, Tryz.ntmps147
    go_wp2_with (go_at_call 160; with_reducible refine (bh_ a _ HD.out _).mono ?_; rintro e _ ⟨rfl, rfl⟩)
    go_ret
    exact ⟨rfl, rfl⟩
  · by_cases hlt : a < l.due
    · rw [show l.expire a = 8 by simp [Ltr.expire, hd, hlt]]
      have HD := Lib.hid hd; clear hd
      go_enter Tryz.func147, Tryz.ntmps147
      go_wp2_with (go_at_call 160; with_reducible refine (bh_ a _ HD.out _).mono ?_; rintro e _ ⟨rfl, rfl⟩)
      go_ret
      exact ⟨rfl, rfl⟩
    · rw [show l.expire a = 0 by simp [Ltr.expire, hd, hlt]]
      have HD := Lib.hid hd; clear hd
      go_enter Tryz.func147, Tryz.ntmps147
      go_wp2_with (go_at_call 160; with_reducible refine (bh_ a _ HD.out _).mono ?_; rintro e _ ⟨rfl, rfl⟩)
      go_ret
      exact ⟨rfl, rfl⟩
theorem hf_ (w : World) (p : Nat) (l : Ltr) (op a b : Int) (text : ByteArray) (h : LtrAt w p l) (hl : i64ok l.amount) (ha : i64ok a) (hop : 1 ≤ op) (hop9 : op ≤ 9) (ht : text.size ≤ 9223372036854775807) :
    Calls Tryz.prog 123 #[.pointer (some ⟨p, 0, none⟩), .int .i64 op, .int .i64 a, .int .i64 b, .string text] w fun e w' => e = .returned (.int .i64 (l.does op a b text).2) ∧ LtrAt w' p (l.does op a b text).1 ∧ Ext [p] w w' := by
  have c5 := h.c5
  have f5 := h.frozen 5
  have H := Lib.hid h; clear h
  have : op = 1 ∨ op = 2 ∨ op = 3 ∨ op = 4 ∨ op = 5 ∨ op = 6 ∨ op = 7 ∨ op = 8 ∨ op = 9 := by omega
  clear hop hop9
  rcases this with rfl | rfl | rfl | rfl | rfl | rfl | rfl | rfl | rfl
  · by_cases hs : 200 < text.size
    · rw [show l.does 1 a b text = (l, 3) by simp [Ltr.does, hs]]
      go_enter Tryz.func123, Tryz.ntmps123
      go_wp2
      go_ret
      exact ⟨rfl, H.out, Ext.refl _⟩
    · rw [show l.does 1 a b text = l.apply a b text by simp [Ltr.does, hs]]
      go_enter Tryz.func123, Tryz.ntmps123
      go_wp2_with (go_at_call 145; refine (gn_ _ _ _ _ _ _ H.out ha).mono ?_; rintro e w1 ⟨rfl, h1, x1⟩)
      go_ret
      exact ⟨rfl, h1, x1⟩
  · rw [show l.does 2 a b text = (l, 0) by simp [Ltr.does]]
    go_enter Tryz.func123, Tryz.ntmps123
    go_wp2
    go_ret
    exact ⟨rfl, H.out, Ext.refl _⟩
  · rw [show l.does 3 a b text = l.amend a b by simp [Ltr.does]]
    go_enter Tryz.func123, Tryz.ntmps123
    go_wp2_with (go_at_call 146; refine (go_ _ _ _ _ _ H.out hl ha).mono ?_; rintro e w1 ⟨rfl, h1, x1⟩)
    go_ret
    exact ⟨rfl, h1, x1⟩
  · by_cases hs : 200 < text.size
    · rw [show l.does 4 a b text = (l, 3) by simp [Ltr.does, hs]]
      go_enter Tryz.func123, Tryz.ntmps123
      go_wp2
      go_ret
      exact ⟨rfl, H.out, Ext.refl _⟩
    · rw [show l.does 4 a b text = ({ l with papers := text }, 0) by simp [Ltr.does, hs]]
      go_enter Tryz.func123, Tryz.ntmps123
      go_wp2
      go_ret
      exact ⟨rfl, Blk.set_ H.out 5 _, (Ext.refl _).setCell (by simp) _⟩
  · rw [show l.does 5 a b text = (l, 0) by simp [Ltr.does]]
    go_enter Tryz.func123, Tryz.ntmps123
    go_wp2
    go_ret
    exact ⟨rfl, H.out, Ext.refl _⟩
  · rw [show l.does 6 a b text = ({ l with papers := ByteArray.empty }, 0) by simp [Ltr.does]]
    go_enter Tryz.func123, Tryz.ntmps123
    go_wp2
    go_ret
    exact ⟨rfl, Blk.set_ H.out 5 _, (Ext.refl _).setCell (by simp) _⟩
  · rw [show l.does 7 a b text = (l, 0) by simp [Ltr.does]]
    go_enter Tryz.func123, Tryz.ntmps123
    go_wp2
    go_ret
    exact ⟨rfl, H.out, Ext.refl _⟩
  · rw [show l.does 8 a b text = (l, l.expire a) by simp [Ltr.does]]
    go_enter Tryz.func123, Tryz.ntmps123
    go_wp2_with (go_at_call 147; refine (fx_ _ _ _ _ H.out).mono ?_; rintro e _ ⟨rfl, rfl⟩)
    go_ret
    exact ⟨rfl, H.out, Ext.refl _⟩
  · rw [show l.does 9 a b text = (l, 0) by simp [Ltr.does]]
    go_enter Tryz.func123, Tryz.ntmps123
    go_wp2
    go_ret
    exact ⟨rfl, H.out, Ext.refl _⟩
theorem hg_ (w : World) (l : Ltr) (op a b : Int) (text : ByteArray) (hl : l.Wf) (ha : i64ok a) (ht : text.size ≤ 9223372036854775807) :
    Calls Tryz.prog 102 #[.agg l.cells, .int .i64 op, .int .i64 a, .int .i64 b, .string text] w fun e w' => e = .returned (.tuple #[.agg (l.step op a b text).1.cells, .int .i64 (l.step op a b text).2]) ∧ Ext [] w w' := by
  have hbox : LtrAt ((w.alloc (.cells l.cells 81)).alloc (.cells Ltr.none.cells 81)) w.heap.size l := Blk.alloc (Blk.new _ _ _) _
  have hres : LtrAt ((w.alloc (.cells l.cells 81)).alloc (.cells Ltr.none.cells 81)) (w.heap.size + 1) Ltr.none := by
    have := Blk.new (w.alloc (.cells l.cells 81)) 81 Ltr.none.cells
    rw [World.size_alloc] at this
    exact this
  have hx : Ext [] w ((w.alloc (.cells l.cells 81)).alloc (.cells Ltr.none.cells 81)) := ((Ext.refl _).alloc _).alloc _
  have k1 : l.cells[1]? = some (.int .i64 l.state) := rfl
  have HB := Lib.hid hbox
  have HR := Lib.hid hres
  clear hbox hres
  by_cases h1 : op < 1
  · rw [show l.step op a b text = (Ltr.none, 1) by simp [Ltr.step, h1]]
    go_enter Tryz.func102, Tryz.ntmps102
    go_wp2
    exact bodyPost_ret (F_ rfl _ _ (w.heap.size + 1) _ _ _ _ rfl HR.out Tryz.underlying81 rfl (by kernel_rfl)) rfl ⟨rfl, hx⟩
  by_cases h2 : 9 < op
  · rw [show l.step op a b text = (Ltr.none, 1) by simp [Ltr.step, h2]]
    go_enter Tryz.func102, Tryz.ntmps102
    go_wp2
    exact bodyPost_ret (F_ rfl _ _ (w.heap.size + 1) _ _ _ _ rfl HR.out Tryz.underlying81 rfl (by kernel_rfl)) rfl ⟨rfl, hx⟩
  have h3 : ¬ (op < 1 ∨ 9 < op) := by omega
  by_cases hn : ltrNext l.state op = 0
  · rw [show l.step op a b text = (Ltr.none, 8) by simp only [Ltr.step, if_neg h3, if_pos hn]]
    have hnb : (ltrNext l.state op == 0) = true := by simp [hn]
    clear hn h3
    go_enter Tryz.func102, Tryz.ntmps102
    go_wp2_with (first
      | (go_at_call 122; refine (cW_ _ _ _).mono ?_; rintro e w2 ⟨rfl, x2⟩)
      | ((with_reducible refine b6_ ⟨none, .store _ (.tmp 10) _, _, _, _, _⟩ ?_); refine ae_ (Blk.ext HR.out x2 (by simp)) Ltr.none rfl _ _ rfl rfl rfl ?_; intro w3 hw3 x3))
    exact bodyPost_ret (F_ rfl _ _ (w.heap.size + 1) _ _ _ _ rfl hw3 Tryz.underlying81 rfl (by kernel_rfl)) rfl ⟨rfl, hx.trans (x2.app x3) (by simp)⟩
  have hnb : (ltrNext l.state op == 0) = false := by simpa using hn
  have hd := fun w2 (hb : LtrAt w2 w.heap.size l) => hf_ w2 w.heap.size l op a b text hb hl.amount ha (by omega) (by omega) ht
  by_cases he : (l.does op a b text).2 = 0
  · rw [show l.step op a b text = ({ (l.does op a b text).1 with state := ltrNext l.state op }, 0) by simp only [Ltr.step, if_neg h3, if_neg hn, he, ne_eq, not_true_eq_false, if_false]]
    have heb : ((l.does op a b text).2 != 0) = false := by simp [he]
    clear hn h3 he
    generalize l.does op a b text = r at *
    obtain ⟨l2, e2⟩ := r
    dsimp only at *
    have HD := Lib.hid hd
    clear hd
    go_enter Tryz.func102, Tryz.ntmps102
    go_wp2_with (first
      | (go_at_call 122; refine (cW_ _ _ _).mono ?_; rintro e w2 ⟨rfl, x2⟩)
      | (go_at_call 123; refine (HD.out _ (Blk.ext HB.out x2 (by simp))).mono ?_; rintro e w3 ⟨rfl, h3, x3⟩; have g1 := h3.c1; have f1 := h3.frozen 1; have h4 := Lib.hid (h3.setState (ltrNext l.state op)); have h5 := Lib.hid (Blk.far (Blk.ext (Blk.ext HR.out x2 (by simp)) x3 (by simp)) (p := ⟨w.heap.size, 1, none⟩) (by simp) (.int .i64 (ltrNext l.state op))))
      | ((with_reducible refine b6_ ⟨some 39, _, _, _, _, _⟩ ?_); refine wpList_load_row rfl _ _ rfl w.heap.size rfl _ _ _ _ h4.out Tryz.underlying81 rfl (by kernel_rfl) ?_)
      | ((with_reducible refine b6_ ⟨none, .store _ (.tmp 10) (.tmp 39), _, _, _, _⟩ ?_); refine ae_ (p := w.heap.size + 1) (l := Ltr.none) h5.out { l2 with state := ltrNext l.state op } rfl _ _ rfl rfl rfl ?_; intro w5 hw5 x5))
    exact bodyPost_ret (F_ rfl _ _ (w.heap.size + 1) _ _ _ _ rfl hw5 Tryz.underlying81 rfl (by kernel_rfl)) rfl ⟨rfl, hx.trans (((x2.app x3).setCell (by simp) _).app x5) (by simp <;> omega)⟩
  · rw [show l.step op a b text = (Ltr.none, (l.does op a b text).2) by simp only [Ltr.step, if_neg h3, if_neg hn, he, ne_eq, not_false_eq_true, if_true]]
    have heb : ((l.does op a b text).2 != 0) = true := by simpa using he
    clear hn h3 he
    generalize l.does op a b text = r at *
    obtain ⟨l2, e2⟩ := r
    dsimp only at *
    have HD := Lib.hid hd
    clear hd
    go_enter Tryz.func102, Tryz.ntmps102
    go_wp2_with (first
      | (go_at_call 122; refine (cW_ _ _ _).mono ?_; rintro e w2 ⟨rfl, x2⟩)
      | (go_at_call 123; refine (HD.out _ (Blk.ext HB.out x2 (by simp))).mono ?_; rintro e w3 ⟨rfl, h3, x3⟩)
      | ((with_reducible refine b6_ ⟨none, .store _ (.tmp 10) _, _, _, _, _⟩ ?_); refine ae_ (Blk.ext (Blk.ext HR.out x2 (by simp)) x3 (by simp)) Ltr.none rfl _ _ rfl rfl rfl ?_; intro w4 hw4 x4))
    exact bodyPost_ret (F_ rfl _ _ (w.heap.size + 1) _ _ _ _ rfl hw4 Tryz.underlying81 rfl (by kernel_rfl)) rfl ⟨rfl, hx.trans ((x2.app x3).app x4) (by simp <;> omega)⟩
end Go.Proofs.YtickdhjljpnlpaaGreatDoor
namespace Go.Proofs.YtickdhjljpnlpaaGreatDoor.A
open Go.RowKit
structure Oc where
  client : Int
  stamp : Int
  result : Int
def Oc.abs (o : Oc) : List Abs := [int o.client, int o.stamp, int o.result]
def outA (l : List Oc) : Abs := .sl 3 (l.map Oc.abs)
theorem b4_ (l : List Oc) : ∀ c ∈ l.map Oc.abs, ones c = true := by
  intro c hc
  obtain ⟨o, _, rfl⟩ := List.mem_map.1 hc
  rfl
def IdxOf {α : Type} (p : α → Bool) (xs : List α) (r : Int) : Prop := (r = -1 ∧ ∀ x ∈ xs, p x = false) ∨ ∃ i, ∃ h : i < xs.length, r = (i : Nat) ∧ p xs[i] = true ∧ ∀ j (hj : j < i), p (xs[j]'(by omega)) = false
theorem IdxOf.eq {α : Type} {p : α → Bool} : ∀ {xs : List α} {r : Int}, IdxOf p xs r → r = if xs.any p then ((xs.findIdx p : Nat) : Int) else -1 := fun {xs r} h => by
  rcases h with ⟨rfl, h⟩ | ⟨i, hi, rfl, h1, h2⟩
  · rw [if_neg]
    rw [Bool.not_eq_true, List.any_eq_false]
    intro x hx
    rw [h x hx]; decide
  · rw [if_pos (List.any_eq_true.2 ⟨_, List.getElem_mem hi, h1⟩)]
    refine congrArg Int.ofNat (Eq.symm ?_)
    rw [List.findIdx_eq hi]
    exact ⟨h1, fun j hj => h2 j hj⟩
end Go.Proofs.YtickdhjljpnlpaaGreatDoor.A
namespace Go.Proofs.YtickdhjljpnlpaaGreatDoor
open Go.RowKit
def nameC (c : Nat) : Bool := (decide (97 ≤ c) && decide (c ≤ 122)) || (decide (48 ≤ c) && decide (c ≤ 57)) || decide (c = 45)
def nameB (s : ByteArray) : Bool := s.data.toList.all (fun c => nameC c.toNat) && decide (1 ≤ s.size) && decide (s.size ≤ 16)
section
variable {S : List (World × List Nat)} {σ τ : Blks} {ρ : List Dt} {w : World}
theorem gP_ {s : ByteArray} {k : Nat} (h : k < s.size) (hb : nameC (s[k]'h).toNat = false) : s.data.toList.all (fun c => nameC c.toNat) = false := by
  rw [List.all_eq_false]
  refine ⟨s[k]'h, ?_, by rw [hb]; decide⟩
  have : s[k]'h = s.data.toList[k]'(by simpa using h) := rfl
  rw [this]
  exact List.getElem_mem _
theorem hv_ {s : ByteArray} (hp : ∀ j (hj : j < s.size), nameC (s[j]'hj).toNat = true) : s.data.toList.all (fun c => nameC c.toNat) = true := by
  rw [List.all_eq_true]
  intro c hc
  obtain ⟨j, hj, rfl⟩ := List.getElem_of_mem hc
  exact hp j (by simpa using hj)
theorem odd_c {r : Nat} (hw : Mem S σ ρ w) : Calls Tryz.prog 97 #[.int .i32 r] w fun e w' => e = .returned (.bool (!nameC r)) ∧ Mem S σ ρ w' := by
  refine ak_ [.int .i32 r] Tryz.func97 rfl Tryz.ntmps97 rfl (Mem S σ ρ) hw ?_
  refine d_ (a_ ?_)
  refine c_ (j_ rfl) rfl rfl ?_
  refine g_ (b_ ?_)
  refine d_ (a_ ?_)
  refine c_ (n_ rfl) rfl rfl ?_
  refine c_ (aU_ rfl rfl) rfl rfl ?_
  refine c_ (n_ rfl) rfl rfl ?_
  refine z_ (t := 5) rfl ?_ ?_
  · intro hc5
    iterate 2 refine ac_ rfl rfl ?_
    refine c_ (M_ rfl rfl) rfl rfl ?_
    iterate 2 refine c_ (n_ rfl) rfl rfl ?_
    refine c_ (aU_ rfl rfl) rfl rfl ?_
    refine c_ (n_ rfl) rfl rfl ?_
    refine z_ (t := 12) rfl ?_ ?_
    · intro hc12
      iterate 2 refine ac_ rfl rfl ?_
      refine c_ (M_ rfl rfl) rfl rfl ?_
      refine c_ (M_ rfl rfl) rfl rfl ?_
      iterate 2 refine c_ (n_ rfl) rfl rfl ?_
      refine c_ (ca_ rfl rfl) rfl rfl ?_
      refine c_ (M_ rfl rfl) rfl rfl ?_
      refine c_ (j_ rfl) rfl rfl ?_
      refine g_ (b_ ?_)
      refine l_ ?_
      refine N_ rfl rfl ?_
      intro w' hw'
      refine ⟨?_, hw'⟩
      congr 2
      rw [Bool.eq_iff_iff]
      simp [nameC]
      omega
    intro hc12
    refine c_ (n_ rfl) rfl rfl ?_
    refine c_ (aL_ rfl rfl) rfl rfl ?_
    refine c_ (O_ rfl rfl) rfl rfl ?_
    refine c_ (M_ rfl rfl) rfl rfl ?_
    refine c_ (n_ rfl) rfl rfl ?_
    refine z_ (t := 17) rfl ?_ ?_
    · intro hc17
      refine c_ (n_ rfl) rfl rfl ?_
      refine c_ (ca_ rfl rfl) rfl rfl ?_
      refine c_ (M_ rfl rfl) rfl rfl ?_
      refine c_ (j_ rfl) rfl rfl ?_
      refine g_ (b_ ?_)
      refine l_ ?_
      refine N_ rfl rfl ?_
      intro w' hw'
      refine ⟨?_, hw'⟩
      congr 2
      rw [Bool.eq_iff_iff]
      simp [nameC]
      omega
    intro hc17
    iterate 2 refine ac_ rfl rfl ?_
    refine c_ (O_ rfl rfl) rfl rfl ?_
    refine c_ (j_ rfl) rfl rfl ?_
    refine g_ (b_ ?_)
    refine l_ ?_
    refine N_ rfl rfl ?_
    intro w' hw'
    refine ⟨?_, hw'⟩
    congr 2
    rw [Bool.eq_iff_iff]
    simp [nameC]
    omega
  intro hc5
  refine c_ (n_ rfl) rfl rfl ?_
  refine c_ (aL_ rfl rfl) rfl rfl ?_
  refine c_ (O_ rfl rfl) rfl rfl ?_
  refine c_ (n_ rfl) rfl rfl ?_
  refine z_ (t := 9) rfl ?_ ?_
  rotate_left
  · intro hc9
    iterate 6 refine ac_ rfl rfl ?_
    refine c_ (O_ rfl rfl) rfl rfl ?_
    refine c_ (n_ rfl) rfl rfl ?_
    iterate 2 refine ac_ rfl rfl ?_
    refine c_ (O_ rfl rfl) rfl rfl ?_
    refine c_ (j_ rfl) rfl rfl ?_
    refine g_ (b_ ?_)
    refine l_ ?_
    refine N_ rfl rfl ?_
    intro w' hw'
    refine ⟨?_, hw'⟩
    congr 2
    rw [Bool.eq_iff_iff]
    simp [nameC]
    omega
  intro hc9
  refine c_ (n_ rfl) rfl rfl ?_
  refine c_ (aU_ rfl rfl) rfl rfl ?_
  refine c_ (n_ rfl) rfl rfl ?_
  refine z_ (t := 12) rfl ?_ ?_
  · intro hc12
    iterate 2 refine ac_ rfl rfl ?_
    refine c_ (M_ rfl rfl) rfl rfl ?_
    refine c_ (M_ rfl rfl) rfl rfl ?_
    iterate 2 refine c_ (n_ rfl) rfl rfl ?_
    refine c_ (ca_ rfl rfl) rfl rfl ?_
    refine c_ (M_ rfl rfl) rfl rfl ?_
    refine c_ (j_ rfl) rfl rfl ?_
    refine g_ (b_ ?_)
    refine l_ ?_
    refine N_ rfl rfl ?_
    intro w' hw'
    refine ⟨?_, hw'⟩
    congr 2
    rw [Bool.eq_iff_iff]
    simp [nameC]
    omega
  intro hc12
  refine c_ (n_ rfl) rfl rfl ?_
  refine c_ (aL_ rfl rfl) rfl rfl ?_
  refine c_ (O_ rfl rfl) rfl rfl ?_
  refine c_ (M_ rfl rfl) rfl rfl ?_
  refine c_ (n_ rfl) rfl rfl ?_
  refine z_ (t := 17) rfl ?_ ?_
  · intro hc17
    refine c_ (n_ rfl) rfl rfl ?_
    refine c_ (ca_ rfl rfl) rfl rfl ?_
    refine c_ (M_ rfl rfl) rfl rfl ?_
    refine c_ (j_ rfl) rfl rfl ?_
    refine g_ (b_ ?_)
    refine l_ ?_
    refine N_ rfl rfl ?_
    intro w' hw'
    refine ⟨?_, hw'⟩
    congr 2
    rw [Bool.eq_iff_iff]
    simp [nameC]
    omega
  intro hc17
  iterate 2 refine ac_ rfl rfl ?_
  refine c_ (O_ rfl rfl) rfl rfl ?_
  refine c_ (j_ rfl) rfl rfl ?_
  refine g_ (b_ ?_)
  refine l_ ?_
  refine N_ rfl rfl ?_
  intro w' hw'
  refine ⟨?_, hw'⟩
  congr 2
  rw [Bool.eq_iff_iff]
  simp [nameC]
  omega
set_option maxHeartbeats 400000 in
theorem iF_ {s : ByteArray} (hw : Mem S σ ρ w) (_hs : s.size ≤ 16) : Calls Tryz.prog 132 #[.string s, .func (.func 97) #[] #[], .bool true] w fun e w' => ∃ r : Int, e = .returned (.int .i64 r) ∧ (0 ≤ r ↔ s.data.toList.all (fun c => nameC c.toNat) = false) ∧ Mem S σ ρ w' := by
  refine ak_ [.string s, .func (.func 97) #[] #[], .bool true] Tryz.func132 rfl Tryz.ntmps132 rfl (Mem S σ ρ) hw ?_
  refine d_ (a_ ?_)
  refine c_ (j_ rfl) rfl rfl ?_
  refine g_ (b_ ?_)
  refine d_ ?_
  refine d_ (a_ ?_)
  refine c_ (n_ rfl) rfl rfl ?_
  refine a7_ (hE_ rfl Tryz.underlying9) rfl rfl ?_
  rintro _ _ ⟨b10, rfl, rfl⟩
  refine g_ (b_ ?_)
  refine w_ ?_
  refine aa_ (ι := Nat) (fun k => [(1, .func (.func 97) #[] #[]), (2, .bool true), (10, .pointer (some ⟨b10, 0, none⟩))]) (fun k w' => (k ≤ s.size ∧ ∀ j (hj : j < s.size), j < k → nameC (s[j]'hj).toNat = true) ∧ Mem S (.blk b10 (.stringIter s k) :: σ) ρ w') (fun k => s.size - k) 0 (by exact ⟨rfl, rfl, rfl, trivial⟩) (fun w' hw' => ⟨⟨Nat.zero_le _, fun j hj h => by omega⟩, hw'⟩) ?_
  intro k
  refine dk_ ?_
  rintro ⟨hk, hp⟩
  by_cases hlt : k < s.size
  · have hd := ev_ s k hlt
    have hc := (s[k]'hlt).toNat_lt
    skip
    refine d_ (a_ ?_)
    refine a7_ (i9_ rfl .here hlt) rfl rfl ?_
    rintro _ _ ⟨rfl, rfl⟩
    refine c_ (a5_ rfl rfl) rfl rfl ?_
    refine g_ (b_ ?_)
    refine d_ ?_
    refine K_ rfl ?_
    refine o_ ?_
    refine b_ ?_
    refine w_ ?_
    refine d_ (a_ ?_)
    refine c_ (a5_ rfl rfl) rfl rfl ?_
    refine c_ (a5_ rfl rfl) rfl rfl ?_
    iterate 2 refine c_ (j_ rfl) rfl rfl ?_
    refine g_ (b_ ?_)
    refine d_ (a_ ?_)
    iterate 2 refine c_ (n_ rfl) rfl rfl ?_
    refine bx_ rfl (by kernel_rfl) rfl rfl rfl ?_
    intro w hw
    refine (odd_c hw).mono ?_
    rintro _ _ ⟨rfl, hm⟩
    refine ⟨_, _, rfl, hm, ?_⟩
    clear hm hw w
    refine c_ (n_ rfl) rfl rfl ?_
    refine c_ (ky_ rfl rfl (by kernel_rfl)) rfl rfl ?_
    refine g_ (b_ ?_)
    refine S_ rfl ?_ ?_
    rotate_left
    · intro hodd
      refine o_ ?_
      refine u_ ?_
      simp only [beq_true, Bool.not_eq_false'] at hodd
      have h128 : (s[k]'hlt).toNat < 128 := by
        rcases Nat.lt_or_ge (s[k]'hlt).toNat 128 with h | h
        · exact h
        · have h2 := hd (by omega)
          simp only [nameC, Bool.or_eq_true, Bool.and_eq_true, decide_eq_true_eq] at hodd
          omega
      have e1 := decode_ascii s k hlt h128
      exact D_ (k + 1) (by omega) (by exact ⟨rfl, rfl, rfl, trivial⟩) (fun w' hw' => ⟨⟨hlt, fun j hj h => by
        rcases Nat.lt_or_ge j k with h2 | h2
        · exact hp j hj h2
        · obtain rfl : j = k := by omega
          rw [e1] at hodd; exact hodd⟩, by rw [e1] at hw'; exact hw'⟩)
    intro hodd
    refine d_ (a_ ?_)
    refine c_ (n_ rfl) rfl rfl ?_
    refine c_ (j_ rfl) rfl rfl ?_
    refine g_ (b_ ?_)
    refine l_ ?_
    refine A_ ?_
    refine h_ (by intro h; cases h) ?_
    refine A_ ?_
    refine h_ (by intro h; cases h) ?_
    refine N_ rfl rfl ?_
    intro w' hw'
    refine ⟨_, rfl, ?_, hw'.sub (fun _ h => h) (List.sublist_cons_self _ _)⟩
    rw [gP_ hlt (by
  simp only [beq_true, Bool.not_eq_true'] at hodd
  rcases Nat.lt_or_ge (s[k]'hlt).toNat 128 with h | h
  · rw [decode_ascii s k hlt h] at hodd; exact hodd
  · simp only [nameC, Bool.or_eq_false_iff, Bool.and_eq_false_iff, decide_eq_false_iff_not]; omega)]
    simp
  · skip
    refine d_ (a_ ?_)
    refine c_ (hw_ rfl List.mem_cons_self hlt) rfl rfl ?_
    refine c_ (a5_ rfl rfl) rfl rfl ?_
    refine g_ (b_ ?_)
    refine d_ ?_
    refine ah_ rfl ?_
    refine X_ ?_
    refine h_ (by intro h; cases h) ?_
    refine h_ (by intro h; cases h) ?_
    refine W_ ?_
    refine b_ ?_
    refine d_ (a_ ?_)
    refine c_ (j_ rfl) rfl rfl ?_
    refine g_ (b_ ?_)
    refine l_ ?_
    refine N_ rfl rfl ?_
    intro w' hw'
    refine ⟨_, rfl, ?_, hw'.sub (fun _ h => h) (List.sublist_cons_self _ _)⟩
    rw [hv_ fun j hj => hp j hj (by omega)]
    simp
theorem index_c {s : ByteArray} (hw : Mem S σ ρ w) (hs : s.size ≤ 16) : Calls Tryz.prog 115 #[.string s, .func (.func 97) #[] #[]] w fun e w' => ∃ r : Int, e = .returned (.int .i64 r) ∧ (0 ≤ r ↔ s.data.toList.all (fun c => nameC c.toNat) = false) ∧ Mem S σ ρ w' := by
  refine ak_ [.string s, .func (.func 97) #[] #[]] Tryz.func115 rfl Tryz.ntmps115 rfl (Mem S σ ρ) hw ?_
  refine d_ (a_ ?_)
  refine c_ (j_ rfl) rfl rfl ?_
  refine g_ (b_ ?_)
  refine d_ (a_ ?_)
  iterate 2 refine c_ (n_ rfl) rfl rfl ?_
  refine r_ (by kernel_rfl) rfl rfl rfl ?_
  intro w hw
  refine (iF_ hw hs).mono ?_; rintro _ _ ⟨r, rfl, hr, hm⟩; refine ⟨_, _, rfl, hm, ?_⟩; clear hm hw w
  refine c_ (j_ rfl) rfl rfl ?_
  refine g_ (b_ ?_)
  refine l_ ?_
  refine N_ rfl rfl ?_
  intro w' hw'
  exact ⟨_, rfl, hr, hw'⟩
theorem iL_ {s : ByteArray} (hw : Mem S σ ρ w) (hs : s.size ≤ 16) : Calls Tryz.prog 98 #[.string s, .func (.func 97) #[] #[]] w fun e w' => e = .returned (.bool (!s.data.toList.all (fun c => nameC c.toNat))) ∧ Mem S σ ρ w' := by
  refine ak_ [.string s, .func (.func 97) #[] #[]] Tryz.func98 rfl Tryz.ntmps98 rfl (Mem S σ ρ) hw ?_
  refine d_ (a_ ?_)
  refine c_ (j_ rfl) rfl rfl ?_
  refine g_ (b_ ?_)
  refine d_ (a_ ?_)
  iterate 2 refine c_ (n_ rfl) rfl rfl ?_
  refine r_ (by kernel_rfl) rfl rfl rfl ?_
  intro w hw
  refine (index_c hw hs).mono ?_; rintro _ _ ⟨r, rfl, hr, hm⟩; refine ⟨_, _, rfl, hm, ?_⟩; clear hm hw w
  refine c_ (bR_ rfl rfl) rfl rfl ?_
  refine c_ (j_ rfl) rfl rfl ?_
  refine g_ (b_ ?_)
  refine l_ ?_
  refine N_ rfl rfl ?_
  intro w' hw'
  refine ⟨?_, hw'⟩
  congr 2
  rw [Bool.eq_iff_iff, decide_eq_true_eq, hr]
  simp
theorem h3_ {s : ByteArray} (hw : Mem S σ ρ w) : Calls Tryz.prog 67 #[.string s] w fun e w' => e = .returned (.bool (nameB s)) ∧ Mem S σ ρ w' := by
  have h0 : (s = ⟨#[]⟩) ↔ s.size = 0 := by
    constructor
    · rintro rfl; rfl
    · intro h
      obtain ⟨a⟩ := s
      congr 1
      exact Array.eq_empty_of_size_eq_zero h
  refine ak_ [.string s] Tryz.func67 rfl Tryz.ntmps67 rfl (Mem S σ ρ) hw ?_
  refine d_ (a_ ?_)
  refine c_ (j_ rfl) rfl rfl ?_
  refine g_ (b_ ?_)
  refine d_ (a_ ?_)
  refine c_ (j_ rfl) rfl rfl ?_
  refine g_ (b_ ?_)
  refine d_ (a_ ?_)
  refine c_ (n_ rfl) rfl rfl ?_
  refine c_ (eD_ rfl rfl) rfl rfl ?_
  refine c_ (n_ rfl) rfl rfl ?_
  refine z_ (t := 6) rfl ?_ ?_
  rotate_left
  · intro hc6
    iterate 3 refine ac_ rfl rfl ?_
    refine c_ (O_ rfl rfl) rfl rfl ?_
    refine c_ (n_ rfl) rfl rfl ?_
    iterate 4 refine ac_ rfl rfl ?_
    refine c_ (O_ rfl rfl) rfl rfl ?_
    refine c_ (j_ rfl) rfl rfl ?_
    refine g_ (b_ ?_)
    refine l_ ?_
    refine N_ rfl rfl ?_
    intro w' hw'
    refine ⟨?_, hw'⟩
    congr 2
    unfold nameB
    rw [Ne, h0] at hc6
    rw [Bool.eq_iff_iff]
    (simp; omega)
  intro hc6
  refine c_ (n_ rfl) rfl rfl ?_
  refine c_ (ag_ rfl Tryz.underlying9) rfl rfl ?_
  refine c_ (cX_ rfl rfl) rfl rfl ?_
  refine c_ (M_ rfl rfl) rfl rfl ?_
  refine c_ (n_ rfl) rfl rfl ?_
  refine z_ (t := 11) rfl ?_ ?_
  rotate_left
  · intro hc11
    iterate 4 refine ac_ rfl rfl ?_
    refine c_ (O_ rfl rfl) rfl rfl ?_
    refine c_ (j_ rfl) rfl rfl ?_
    refine g_ (b_ ?_)
    refine l_ ?_
    refine N_ rfl rfl ?_
    intro w' hw'
    refine ⟨?_, hw'⟩
    congr 2
    unfold nameB
    rw [Ne, h0] at hc6
    rw [Bool.eq_iff_iff]
    (simp; omega)
  intro hc11
  iterate 2 refine c_ (n_ rfl) rfl rfl ?_
  refine r_ (by kernel_rfl) rfl rfl rfl ?_
  intro w hw
  refine (iL_ hw (by omega)).mono ?_; rintro _ _ ⟨rfl, hm⟩; refine ⟨_, _, rfl, hm, ?_⟩; clear hm hw w
  refine c_ (ab_ rfl) rfl rfl ?_
  refine c_ (M_ rfl rfl) rfl rfl ?_
  refine c_ (j_ rfl) rfl rfl ?_
  refine g_ (b_ ?_)
  refine l_ ?_
  refine N_ rfl rfl ?_
  intro w' hw'
  refine ⟨?_, hw'⟩
  congr 2
  unfold nameB
  rw [Ne, h0] at hc6
  rw [Bool.eq_iff_iff]
  first
    | (simp; omega)
    | (have h1 : 1 ≤ s.size := by omega
       have h2 : s.size ≤ 16 := by omega
       simp [h1, h2])
set_option maxHeartbeats 400000 in
theorem f5_ {s : ByteArray} (hw : Mem S σ ρ w) (hs : s.size ≤ 9223372036854775807) : Calls Tryz.prog 55 #[.string s] w fun e w' => e = .returned (.bool (nameB s)) ∧ Mem S σ ρ w' := by
  refine ak_ [.string s] Tryz.func55 rfl Tryz.ntmps55 rfl (Mem S σ ρ) hw ?_
  refine d_ (a_ ?_)
  refine c_ (j_ rfl) rfl rfl ?_
  refine g_ (b_ ?_)
  refine d_ ?_
  refine d_ (a_ ?_)
  refine c_ (j_ rfl) rfl rfl ?_
  refine g_ (b_ ?_)
  refine w_ ?_
  refine aa_ (ι := Nat) (fun k => [(0, .string s), (3, .int .i64 (k : Nat))]) (fun k w' => (k ≤ s.size ∧ ∀ j (hj : j < s.size), j < k → nameC (s[j]'hj).toNat = true) ∧ Mem S σ ρ w') (fun k => s.size - k) 0 (by exact ⟨rfl, rfl, trivial⟩) (fun w' hw' => ⟨⟨Nat.zero_le _, fun j hj h => by omega⟩, hw'⟩) ?_
  intro k
  refine dk_ ?_
  rintro ⟨hk, hp⟩
  refine d_ ?_
  refine d_ (a_ ?_)
  iterate 2 refine c_ (n_ rfl) rfl rfl ?_
  refine c_ (ag_ rfl Tryz.underlying9) rfl rfl ?_
  refine c_ (aU_ rfl rfl) rfl rfl ?_
  refine g_ (b_ ?_)
  refine p_ rfl ?_ ?_
  rotate_left
  · intro hc7
    refine X_ ?_
    refine h_ (by intro h; cases h) ?_
    refine h_ (by intro h; cases h) ?_
    refine W_ ?_
    refine b_ ?_
    refine d_ (a_ ?_)
    refine c_ (n_ rfl) rfl rfl ?_
    refine c_ (ag_ rfl Tryz.underlying9) rfl rfl ?_
    refine c_ (bR_ rfl rfl) rfl rfl ?_
    refine c_ (n_ rfl) rfl rfl ?_
    refine z_ (t := 42) rfl ?_ ?_
    · intro hc42
      refine c_ (n_ rfl) rfl rfl ?_
      refine c_ (ag_ rfl Tryz.underlying9) rfl rfl ?_
      refine c_ (cX_ rfl rfl) rfl rfl ?_
      refine c_ (M_ rfl rfl) rfl rfl ?_
      refine c_ (j_ rfl) rfl rfl ?_
      refine g_ (b_ ?_)
      refine l_ ?_
      refine N_ rfl rfl ?_
      intro w' hw'
      refine ⟨?_, hw'⟩
      congr 2
      unfold nameB
      (rw [hv_ fun j hj => hp j hj (by omega)]; rw [Bool.eq_iff_iff]; simp; omega)
    intro hc42
    iterate 3 refine ac_ rfl rfl ?_
    refine c_ (O_ rfl rfl) rfl rfl ?_
    refine c_ (j_ rfl) rfl rfl ?_
    refine g_ (b_ ?_)
    refine l_ ?_
    refine N_ rfl rfl ?_
    intro w' hw'
    refine ⟨?_, hw'⟩
    congr 2
    unfold nameB
    (rw [hv_ fun j hj => hp j hj (by omega)]; rw [Bool.eq_iff_iff]; simp; omega)
  intro hc7
  have hlt : k < s.size := by omega
  refine o_ ?_
  refine b_ ?_
  refine d_ ?_
  refine w_ ?_
  refine d_ (a_ ?_)
  iterate 2 refine c_ (n_ rfl) rfl rfl ?_
  refine c_ (aj_ (q := k) rfl rfl rfl hlt Tryz.underlying9) rfl rfl ?_
  refine c_ (bR_ rfl rfl) rfl rfl ?_
  refine c_ (n_ rfl) rfl rfl ?_
  refine z_ (t := 14) rfl ?_ ?_
  rotate_left
  · intro hc14
    iterate 4 refine ac_ rfl rfl ?_
    refine c_ (O_ rfl rfl) rfl rfl ?_
    iterate 3 refine c_ (n_ rfl) rfl rfl ?_
    refine c_ (aj_ (q := k) rfl rfl rfl hlt Tryz.underlying9) rfl rfl ?_
    refine c_ (bR_ rfl rfl) rfl rfl ?_
    refine c_ (n_ rfl) rfl rfl ?_
    refine z_ (t := 25) rfl ?_ ?_
    rotate_left
    · intro hc25
      iterate 4 refine ac_ rfl rfl ?_
      refine c_ (O_ rfl rfl) rfl rfl ?_
      refine c_ (O_ rfl rfl) rfl rfl ?_
      iterate 3 refine c_ (n_ rfl) rfl rfl ?_
      refine c_ (aj_ (q := k) rfl rfl rfl hlt Tryz.underlying9) rfl rfl ?_
      refine c_ (ax_ rfl rfl) rfl rfl ?_
      refine c_ (O_ rfl rfl) rfl rfl ?_
      refine c_ (aD_ rfl) rfl rfl ?_
      refine g_ (b_ ?_)
      refine p_ rfl ?_ ?_
      rotate_left
      · intro hc38
        refine o_ ?_
        refine u_ ?_
        refine b_ ?_
        refine a_ ?_
        refine c_ (n_ rfl) rfl rfl ?_
        refine c_ (y_ rfl rfl (by simp only [InR, lo, hi]; omega)) rfl rfl ?_
        refine c_ (j_ rfl) rfl rfl ?_
        refine g_ ?_
        have hgood : nameC (s[k]'hlt).toNat = true := by
          simp [nameC]
          omega
        exact D_ (k + 1) (by omega) (by exact ⟨rfl, rfl, trivial⟩) (fun w' hw' => ⟨⟨hlt, fun j hj h => by
          rcases Nat.lt_or_ge j k with h2 | h2
          · exact hp j hj h2
          · obtain rfl : j = k := by omega
            exact hgood⟩, hw'⟩)
      intro hc38
      refine d_ (a_ ?_)
      refine c_ (j_ rfl) rfl rfl ?_
      refine g_ (b_ ?_)
      refine l_ ?_
      refine A_ ?_
      refine h_ (by intro h; cases h) ?_
      refine h_ (by intro h; cases h) ?_
      refine A_ ?_
      refine h_ (by intro h; cases h) ?_
      refine N_ rfl rfl ?_
      intro w' hw'
      refine ⟨?_, hw'⟩
      congr 2
      unfold nameB
      (rw [gP_ hlt (by simp [nameC]; omega)]; rfl)
    intro hc25
    iterate 2 refine c_ (n_ rfl) rfl rfl ?_
    refine c_ (aj_ (q := k) rfl rfl rfl hlt Tryz.underlying9) rfl rfl ?_
    refine c_ (cX_ rfl rfl) rfl rfl ?_
    refine c_ (M_ rfl rfl) rfl rfl ?_
    refine c_ (O_ rfl rfl) rfl rfl ?_
    refine c_ (n_ rfl) rfl rfl ?_
    refine z_ (t := 32) rfl ?_ ?_
    · intro hc32
      iterate 4 refine ac_ rfl rfl ?_
      refine c_ (M_ rfl rfl) rfl rfl ?_
      refine c_ (b9_ rfl) rfl rfl ?_
      refine g_ (b_ ?_)
      refine ah_ rfl ?_
      refine o_ ?_
      refine u_ ?_
      refine b_ ?_
      refine a_ ?_
      refine c_ (n_ rfl) rfl rfl ?_
      refine c_ (y_ rfl rfl (by simp only [InR, lo, hi]; omega)) rfl rfl ?_
      refine c_ (j_ rfl) rfl rfl ?_
      refine g_ ?_
      have hgood : nameC (s[k]'hlt).toNat = true := by
        simp [nameC]
        omega
      exact D_ (k + 1) (by omega) (by exact ⟨rfl, rfl, trivial⟩) (fun w' hw' => ⟨⟨hlt, fun j hj h => by
        rcases Nat.lt_or_ge j k with h2 | h2
        · exact hp j hj h2
        · obtain rfl : j = k := by omega
          exact hgood⟩, hw'⟩)
    intro hc32
    iterate 2 refine c_ (n_ rfl) rfl rfl ?_
    refine c_ (aj_ (q := k) rfl rfl rfl hlt Tryz.underlying9) rfl rfl ?_
    refine c_ (ax_ rfl rfl) rfl rfl ?_
    refine c_ (O_ rfl rfl) rfl rfl ?_
    refine c_ (aD_ rfl) rfl rfl ?_
    refine g_ (b_ ?_)
    refine p_ rfl ?_ ?_
    rotate_left
    · intro hc38
      refine o_ ?_
      refine u_ ?_
      refine b_ ?_
      refine a_ ?_
      refine c_ (n_ rfl) rfl rfl ?_
      refine c_ (y_ rfl rfl (by simp only [InR, lo, hi]; omega)) rfl rfl ?_
      refine c_ (j_ rfl) rfl rfl ?_
      refine g_ ?_
      have hgood : nameC (s[k]'hlt).toNat = true := by
        simp [nameC]
        omega
      exact D_ (k + 1) (by omega) (by exact ⟨rfl, rfl, trivial⟩) (fun w' hw' => ⟨⟨hlt, fun j hj h => by
        rcases Nat.lt_or_ge j k with h2 | h2
        · exact hp j hj h2
        · obtain rfl : j = k := by omega
          exact hgood⟩, hw'⟩)
    intro hc38
    refine d_ (a_ ?_)
    refine c_ (j_ rfl) rfl rfl ?_
    refine g_ (b_ ?_)
    refine l_ ?_
    refine A_ ?_
    refine h_ (by intro h; cases h) ?_
    refine h_ (by intro h; cases h) ?_
    refine A_ ?_
    refine h_ (by intro h; cases h) ?_
    refine N_ rfl rfl ?_
    intro w' hw'
    refine ⟨?_, hw'⟩
    congr 2
    unfold nameB
    (rw [gP_ hlt (by simp [nameC]; omega)]; rfl)
  intro hc14
  iterate 2 refine c_ (n_ rfl) rfl rfl ?_
  refine c_ (aj_ (q := k) rfl rfl rfl hlt Tryz.underlying9) rfl rfl ?_
  refine c_ (cX_ rfl rfl) rfl rfl ?_
  refine c_ (M_ rfl rfl) rfl rfl ?_
  refine c_ (n_ rfl) rfl rfl ?_
  refine z_ (t := 20) rfl ?_ ?_
  · intro hc20
    iterate 10 refine ac_ rfl rfl ?_
    refine c_ (M_ rfl rfl) rfl rfl ?_
    refine c_ (n_ rfl) rfl rfl ?_
    iterate 4 refine ac_ rfl rfl ?_
    refine c_ (M_ rfl rfl) rfl rfl ?_
    refine c_ (b9_ rfl) rfl rfl ?_
    refine g_ (b_ ?_)
    refine ah_ rfl ?_
    refine o_ ?_
    refine u_ ?_
    refine b_ ?_
    refine a_ ?_
    refine c_ (n_ rfl) rfl rfl ?_
    refine c_ (y_ rfl rfl (by simp only [InR, lo, hi]; omega)) rfl rfl ?_
    refine c_ (j_ rfl) rfl rfl ?_
    refine g_ ?_
    have hgood : nameC (s[k]'hlt).toNat = true := by
      simp [nameC]
      omega
    exact D_ (k + 1) (by omega) (by exact ⟨rfl, rfl, trivial⟩) (fun w' hw' => ⟨⟨hlt, fun j hj h => by
      rcases Nat.lt_or_ge j k with h2 | h2
      · exact hp j hj h2
      · obtain rfl : j = k := by omega
        exact hgood⟩, hw'⟩)
  intro hc20
  iterate 2 refine c_ (n_ rfl) rfl rfl ?_
  refine c_ (aj_ (q := k) rfl rfl rfl hlt Tryz.underlying9) rfl rfl ?_
  refine c_ (bR_ rfl rfl) rfl rfl ?_
  refine c_ (n_ rfl) rfl rfl ?_
  refine z_ (t := 25) rfl ?_ ?_
  rotate_left
  · intro hc25
    iterate 4 refine ac_ rfl rfl ?_
    refine c_ (O_ rfl rfl) rfl rfl ?_
    refine c_ (O_ rfl rfl) rfl rfl ?_
    iterate 3 refine c_ (n_ rfl) rfl rfl ?_
    refine c_ (aj_ (q := k) rfl rfl rfl hlt Tryz.underlying9) rfl rfl ?_
    refine c_ (ax_ rfl rfl) rfl rfl ?_
    refine c_ (O_ rfl rfl) rfl rfl ?_
    refine c_ (aD_ rfl) rfl rfl ?_
    refine g_ (b_ ?_)
    refine p_ rfl ?_ ?_
    rotate_left
    · intro hc38
      refine o_ ?_
      refine u_ ?_
      refine b_ ?_
      refine a_ ?_
      refine c_ (n_ rfl) rfl rfl ?_
      refine c_ (y_ rfl rfl (by simp only [InR, lo, hi]; omega)) rfl rfl ?_
      refine c_ (j_ rfl) rfl rfl ?_
      refine g_ ?_
      have hgood : nameC (s[k]'hlt).toNat = true := by
        simp [nameC]
        omega
      exact D_ (k + 1) (by omega) (by exact ⟨rfl, rfl, trivial⟩) (fun w' hw' => ⟨⟨hlt, fun j hj h => by
        rcases Nat.lt_or_ge j k with h2 | h2
        · exact hp j hj h2
        · obtain rfl : j = k := by omega
          exact hgood⟩, hw'⟩)
    intro hc38
    refine d_ (a_ ?_)
    refine c_ (j_ rfl) rfl rfl ?_
    refine g_ (b_ ?_)
    refine l_ ?_
    refine A_ ?_
    refine h_ (by intro h; cases h) ?_
    refine h_ (by intro h; cases h) ?_
    refine A_ ?_
    refine h_ (by intro h; cases h) ?_
    refine N_ rfl rfl ?_
    intro w' hw'
    refine ⟨?_, hw'⟩
    congr 2
    unfold nameB
    (rw [gP_ hlt (by simp [nameC]; omega)]; rfl)
  intro hc25
  iterate 2 refine c_ (n_ rfl) rfl rfl ?_
  refine c_ (aj_ (q := k) rfl rfl rfl hlt Tryz.underlying9) rfl rfl ?_
  refine c_ (cX_ rfl rfl) rfl rfl ?_
  refine c_ (M_ rfl rfl) rfl rfl ?_
  refine c_ (O_ rfl rfl) rfl rfl ?_
  refine c_ (n_ rfl) rfl rfl ?_
  refine z_ (t := 32) rfl ?_ ?_
  · intro hc32
    iterate 4 refine ac_ rfl rfl ?_
    refine c_ (M_ rfl rfl) rfl rfl ?_
    refine c_ (b9_ rfl) rfl rfl ?_
    refine g_ (b_ ?_)
    refine ah_ rfl ?_
    refine o_ ?_
    refine u_ ?_
    refine b_ ?_
    refine a_ ?_
    refine c_ (n_ rfl) rfl rfl ?_
    refine c_ (y_ rfl rfl (by simp only [InR, lo, hi]; omega)) rfl rfl ?_
    refine c_ (j_ rfl) rfl rfl ?_
    refine g_ ?_
    have hgood : nameC (s[k]'hlt).toNat = true := by
      simp [nameC]
      omega
    exact D_ (k + 1) (by omega) (by exact ⟨rfl, rfl, trivial⟩) (fun w' hw' => ⟨⟨hlt, fun j hj h => by
      rcases Nat.lt_or_ge j k with h2 | h2
      · exact hp j hj h2
      · obtain rfl : j = k := by omega
        exact hgood⟩, hw'⟩)
  intro hc32
  iterate 2 refine c_ (n_ rfl) rfl rfl ?_
  refine c_ (aj_ (q := k) rfl rfl rfl hlt Tryz.underlying9) rfl rfl ?_
  refine c_ (ax_ rfl rfl) rfl rfl ?_
  refine c_ (O_ rfl rfl) rfl rfl ?_
  refine c_ (aD_ rfl) rfl rfl ?_
  refine g_ (b_ ?_)
  refine p_ rfl ?_ ?_
  rotate_left
  · intro hc38
    refine o_ ?_
    refine u_ ?_
    refine b_ ?_
    refine a_ ?_
    refine c_ (n_ rfl) rfl rfl ?_
    refine c_ (y_ rfl rfl (by simp only [InR, lo, hi]; omega)) rfl rfl ?_
    refine c_ (j_ rfl) rfl rfl ?_
    refine g_ ?_
    have hgood : nameC (s[k]'hlt).toNat = true := by
      simp [nameC]
      omega
    exact D_ (k + 1) (by omega) (by exact ⟨rfl, rfl, trivial⟩) (fun w' hw' => ⟨⟨hlt, fun j hj h => by
      rcases Nat.lt_or_ge j k with h2 | h2
      · exact hp j hj h2
      · obtain rfl : j = k := by omega
        exact hgood⟩, hw'⟩)
  intro hc38
  refine d_ (a_ ?_)
  refine c_ (j_ rfl) rfl rfl ?_
  refine g_ (b_ ?_)
  refine l_ ?_
  refine A_ ?_
  refine h_ (by intro h; cases h) ?_
  refine h_ (by intro h; cases h) ?_
  refine A_ ?_
  refine h_ (by intro h; cases h) ?_
  refine N_ rfl rfl ?_
  intro w' hw'
  refine ⟨?_, hw'⟩
  congr 2
  unfold nameB
  (rw [gP_ hlt (by simp [nameC]; omega)]; rfl)
end
structure Core where
  client : Int
  stamp : Int
  op : Int
  letter : ByteArray
  a : Int
  b : Int
  text : ByteArray
def Core.cells (c : Core) : List Value := [.int .i64 c.client, .int .i64 c.stamp, .int .i64 c.op, .string c.letter, .int .i64 c.a, .int .i64 c.b, .string c.text]
def Core.check (c : Core) (n : Int) : Int :=
  if n < 1 ∨ 7 < n then 1 else if c.client < n ∨ n + 4 ≤ c.client then 17 else if c.stamp < 1 ∨ 1099511627776 < c.stamp ∨ c.op < 1 ∨ 9 < c.op then 5 else if nameB c.letter = false then 7 else if 200 < c.text.size then 3 else 0
def rowB (m : List UInt8) : List UInt8 := beBytes m.length 4 ++ m
def Core.bytes (c : Core) : List UInt8 :=
  beBytes (u64 c.client) 1 ++ beBytes (u64 c.stamp) 8 ++ beBytes (u64 c.op) 1 ++ rowB c.letter.data.toList ++ beBytes (u64 c.a) 8 ++ beBytes (u64 c.b) 8 ++ rowB c.text.data.toList
theorem u64_lt (x : Int) : u64 x < 18446744073709551616 := by unfold u64; omega
section
variable {S : List (World × List Nat)} {σ τ : Blks} {ρ : List Dt} {w : World} {P : Program} {n : Nat} {l : Slots} {D : World → Prop} {x y : Operand} {d : Option Nat} {ty t : TypeId} {pos : String} {aft : Array Edge} {g : Option (Nat × Bool)} {v : Value}
set_option maxHeartbeats 400000 in
theorem kk_ {c : Core} {n : Int} (hw : Mem S σ ρ w) : Calls Tryz.prog 44 #[.agg c.cells.toArray, .int .i64 n] w fun e w' => e = .returned (.int .i64 (c.check n)) ∧ Mem S σ ρ w' := by
  refine ak_ [.agg c.cells.toArray, .int .i64 n] Tryz.func44 rfl Tryz.ntmps44 rfl (Mem S σ ρ) hw ?_
  refine d_ (a_ ?_)
  refine a7_ (L_ rfl) rfl rfl ?_
  rintro _ _ ⟨b2, rfl, rfl⟩
  refine c_ (j_ rfl) rfl rfl ?_
  refine g_ (b_ ?_)
  refine d_ ?_
  refine w_ ?_
  refine d_ (a_ ?_)
  refine c_ (n_ rfl) rfl rfl ?_
  refine c_ (aU_ rfl rfl) rfl rfl ?_
  refine c_ (n_ rfl) rfl rfl ?_
  refine z_ (t := 8) rfl ?_ ?_
  · intro hc8
    iterate 2 refine ac_ rfl rfl ?_
    refine c_ (M_ rfl rfl) rfl rfl ?_
    refine c_ (j_ rfl) rfl rfl ?_
    refine g_ (b_ ?_)
    refine K_ rfl ?_
    refine d_ (a_ ?_)
    refine c_ (j_ rfl) rfl rfl ?_
    refine g_ (b_ ?_)
    refine l_ ?_
    refine A_ ?_
    refine h_ (by intro h; cases h) ?_
    refine N_ rfl rfl ?_
    intro w' hw'
    refine ⟨?_, hw'.sub (fun _ h => h) (List.sublist_cons_self _ _)⟩
    congr 2
    unfold Core.check
    repeat' split
    all_goals first | rfl | omega | simp_all
  intro hc8
  refine c_ (n_ rfl) rfl rfl ?_
  refine c_ (aL_ rfl rfl) rfl rfl ?_
  refine c_ (O_ rfl rfl) rfl rfl ?_
  refine c_ (j_ rfl) rfl rfl ?_
  refine g_ (b_ ?_)
  refine p_ rfl ?_ ?_
  · intro hc5
    refine d_ (a_ ?_)
    refine c_ (j_ rfl) rfl rfl ?_
    refine g_ (b_ ?_)
    refine l_ ?_
    refine A_ ?_
    refine h_ (by intro h; cases h) ?_
    refine N_ rfl rfl ?_
    intro w' hw'
    refine ⟨?_, hw'.sub (fun _ h => h) (List.sublist_cons_self _ _)⟩
    congr 2
    unfold Core.check
    repeat' split
    all_goals first | rfl | omega | simp_all
  intro hc5
  refine d_ (a_ ?_)
  refine c_ (G_ tabOk rfl rfl rfl rfl rfl) rfl rfl ?_
  refine c_ (i_ tabOk rfl rfl (by repeat (first | assumption | exact List.mem_cons_self | exact hmem _ | apply List.mem_cons_of_mem)) (by rfl)) rfl rfl ?_
  refine c_ (n_ rfl) rfl rfl ?_
  refine c_ (aU_ rfl rfl) rfl rfl ?_
  refine c_ (n_ rfl) rfl rfl ?_
  refine z_ (t := 17) rfl ?_ ?_
  · intro hc17
    iterate 5 refine ac_ rfl rfl ?_
    refine c_ (M_ rfl rfl) rfl rfl ?_
    refine c_ (j_ rfl) rfl rfl ?_
    refine g_ (b_ ?_)
    refine K_ rfl ?_
    refine d_ (a_ ?_)
    refine c_ (j_ rfl) rfl rfl ?_
    refine g_ (b_ ?_)
    refine l_ ?_
    refine A_ ?_
    refine h_ (by intro h; cases h) ?_
    refine N_ rfl rfl ?_
    intro w' hw'
    refine ⟨?_, hw'.sub (fun _ h => h) (List.sublist_cons_self _ _)⟩
    congr 2
    unfold Core.check
    repeat' split
    all_goals first | rfl | omega | simp_all
  intro hc17
  refine c_ (G_ tabOk rfl rfl rfl rfl rfl) rfl rfl ?_
  refine c_ (i_ tabOk rfl rfl (by repeat (first | assumption | exact List.mem_cons_self | exact hmem _ | apply List.mem_cons_of_mem)) (by rfl)) rfl rfl ?_
  refine c_ (n_ rfl) rfl rfl ?_
  refine c_ (y_ rfl rfl (by simp only [InR, lo, hi]; omega)) rfl rfl ?_
  refine c_ (bR_ rfl rfl) rfl rfl ?_
  refine c_ (O_ rfl rfl) rfl rfl ?_
  refine c_ (j_ rfl) rfl rfl ?_
  refine g_ (b_ ?_)
  refine p_ rfl ?_ ?_
  · intro hc12
    refine d_ (a_ ?_)
    refine c_ (j_ rfl) rfl rfl ?_
    refine g_ (b_ ?_)
    refine l_ ?_
    refine A_ ?_
    refine h_ (by intro h; cases h) ?_
    refine N_ rfl rfl ?_
    intro w' hw'
    refine ⟨?_, hw'.sub (fun _ h => h) (List.sublist_cons_self _ _)⟩
    congr 2
    unfold Core.check
    repeat' split
    all_goals first | rfl | omega | simp_all
  intro hc12
  refine d_ (a_ ?_)
  refine c_ (G_ tabOk rfl rfl rfl rfl rfl) rfl rfl ?_
  refine c_ (i_ tabOk rfl rfl (by repeat (first | assumption | exact List.mem_cons_self | exact hmem _ | apply List.mem_cons_of_mem)) (by rfl)) rfl rfl ?_
  refine c_ (aU_ rfl rfl) rfl rfl ?_
  refine c_ (n_ rfl) rfl rfl ?_
  refine z_ (t := 28) rfl ?_ ?_
  · intro hc28
    iterate 3 refine ac_ rfl rfl ?_
    refine c_ (M_ rfl rfl) rfl rfl ?_
    refine c_ (n_ rfl) rfl rfl ?_
    iterate 3 refine ac_ rfl rfl ?_
    refine c_ (M_ rfl rfl) rfl rfl ?_
    refine c_ (n_ rfl) rfl rfl ?_
    iterate 3 refine ac_ rfl rfl ?_
    refine c_ (M_ rfl rfl) rfl rfl ?_
    refine c_ (j_ rfl) rfl rfl ?_
    refine g_ (b_ ?_)
    refine K_ rfl ?_
    refine d_ (a_ ?_)
    refine c_ (j_ rfl) rfl rfl ?_
    refine g_ (b_ ?_)
    refine l_ ?_
    refine A_ ?_
    refine h_ (by intro h; cases h) ?_
    refine N_ rfl rfl ?_
    intro w' hw'
    refine ⟨?_, hw'.sub (fun _ h => h) (List.sublist_cons_self _ _)⟩
    congr 2
    unfold Core.check
    repeat' split
    all_goals first | rfl | omega | simp_all
  intro hc28
  refine c_ (G_ tabOk rfl rfl rfl rfl rfl) rfl rfl ?_
  refine c_ (i_ tabOk rfl rfl (by repeat (first | assumption | exact List.mem_cons_self | exact hmem _ | apply List.mem_cons_of_mem)) (by rfl)) rfl rfl ?_
  refine c_ (aL_ rfl rfl) rfl rfl ?_
  refine c_ (O_ rfl rfl) rfl rfl ?_
  refine c_ (n_ rfl) rfl rfl ?_
  refine z_ (t := 33) rfl ?_ ?_
  · intro hc33
    iterate 3 refine ac_ rfl rfl ?_
    refine c_ (M_ rfl rfl) rfl rfl ?_
    refine c_ (n_ rfl) rfl rfl ?_
    iterate 3 refine ac_ rfl rfl ?_
    refine c_ (M_ rfl rfl) rfl rfl ?_
    refine c_ (j_ rfl) rfl rfl ?_
    refine g_ (b_ ?_)
    refine K_ rfl ?_
    refine d_ (a_ ?_)
    refine c_ (j_ rfl) rfl rfl ?_
    refine g_ (b_ ?_)
    refine l_ ?_
    refine A_ ?_
    refine h_ (by intro h; cases h) ?_
    refine N_ rfl rfl ?_
    intro w' hw'
    refine ⟨?_, hw'.sub (fun _ h => h) (List.sublist_cons_self _ _)⟩
    congr 2
    unfold Core.check
    repeat' split
    all_goals first | rfl | omega | simp_all
  intro hc33
  refine c_ (G_ tabOk rfl rfl rfl rfl rfl) rfl rfl ?_
  refine c_ (i_ tabOk rfl rfl (by repeat (first | assumption | exact List.mem_cons_self | exact hmem _ | apply List.mem_cons_of_mem)) (by rfl)) rfl rfl ?_
  refine c_ (aU_ rfl rfl) rfl rfl ?_
  refine c_ (O_ rfl rfl) rfl rfl ?_
  refine c_ (n_ rfl) rfl rfl ?_
  refine z_ (t := 38) rfl ?_ ?_
  · intro hc38
    iterate 3 refine ac_ rfl rfl ?_
    refine c_ (M_ rfl rfl) rfl rfl ?_
    refine c_ (j_ rfl) rfl rfl ?_
    refine g_ (b_ ?_)
    refine K_ rfl ?_
    refine d_ (a_ ?_)
    refine c_ (j_ rfl) rfl rfl ?_
    refine g_ (b_ ?_)
    refine l_ ?_
    refine A_ ?_
    refine h_ (by intro h; cases h) ?_
    refine N_ rfl rfl ?_
    intro w' hw'
    refine ⟨?_, hw'.sub (fun _ h => h) (List.sublist_cons_self _ _)⟩
    congr 2
    unfold Core.check
    repeat' split
    all_goals first | rfl | omega | simp_all
  intro hc38
  refine c_ (G_ tabOk rfl rfl rfl rfl rfl) rfl rfl ?_
  refine c_ (i_ tabOk rfl rfl (by repeat (first | assumption | exact List.mem_cons_self | exact hmem _ | apply List.mem_cons_of_mem)) (by rfl)) rfl rfl ?_
  refine c_ (aL_ rfl rfl) rfl rfl ?_
  refine c_ (O_ rfl rfl) rfl rfl ?_
  refine c_ (j_ rfl) rfl rfl ?_
  refine g_ (b_ ?_)
  refine p_ rfl ?_ ?_
  · intro hc24
    refine d_ (a_ ?_)
    refine c_ (j_ rfl) rfl rfl ?_
    refine g_ (b_ ?_)
    refine l_ ?_
    refine A_ ?_
    refine h_ (by intro h; cases h) ?_
    refine N_ rfl rfl ?_
    intro w' hw'
    refine ⟨?_, hw'.sub (fun _ h => h) (List.sublist_cons_self _ _)⟩
    congr 2
    unfold Core.check
    repeat' split
    all_goals first | rfl | omega | simp_all
  intro hc24
  refine d_ (a_ ?_)
  refine c_ (G_ tabOk rfl rfl rfl rfl rfl) rfl rfl ?_
  refine c_ (i_ tabOk rfl rfl (by repeat (first | assumption | exact List.mem_cons_self | exact hmem _ | apply List.mem_cons_of_mem)) (by rfl)) rfl rfl ?_
  refine r_ (by kernel_rfl) rfl rfl rfl ?_
  intro w hw
  refine (h3_ hw).mono ?_; rintro _ _ ⟨rfl, hm⟩; refine ⟨_, _, rfl, hm, ?_⟩; clear hm hw w
  refine c_ (ab_ rfl) rfl rfl ?_
  refine c_ (j_ rfl) rfl rfl ?_
  refine g_ (b_ ?_)
  refine S_ rfl ?_ ?_
  · intro hc43
    refine d_ (a_ ?_)
    refine c_ (j_ rfl) rfl rfl ?_
    refine g_ (b_ ?_)
    refine l_ ?_
    refine A_ ?_
    refine h_ (by intro h; cases h) ?_
    refine N_ rfl rfl ?_
    intro w' hw'
    refine ⟨?_, hw'.sub (fun _ h => h) (List.sublist_cons_self _ _)⟩
    congr 2
    unfold Core.check
    repeat' split
    all_goals first | rfl | omega | simp_all
  intro hc43
  refine d_ (a_ ?_)
  refine c_ (G_ tabOk rfl rfl rfl rfl rfl) rfl rfl ?_
  refine c_ (i_ tabOk rfl rfl (by repeat (first | assumption | exact List.mem_cons_self | exact hmem _ | apply List.mem_cons_of_mem)) (by rfl)) rfl rfl ?_
  refine c_ (ag_ rfl Tryz.underlying9) rfl rfl ?_
  refine c_ (aL_ rfl rfl) rfl rfl ?_
  refine c_ (j_ rfl) rfl rfl ?_
  refine g_ (b_ ?_)
  refine p_ rfl ?_ ?_
  · intro hc48
    refine d_ (a_ ?_)
    refine c_ (j_ rfl) rfl rfl ?_
    refine g_ (b_ ?_)
    refine l_ ?_
    refine A_ ?_
    refine h_ (by intro h; cases h) ?_
    refine N_ rfl rfl ?_
    intro w' hw'
    refine ⟨?_, hw'.sub (fun _ h => h) (List.sublist_cons_self _ _)⟩
    congr 2
    unfold Core.check
    repeat' split
    all_goals first | rfl | omega | simp_all
  intro hc48
  refine o_ ?_
  refine u_ ?_
  refine b_ ?_
  refine d_ (a_ ?_)
  refine c_ (j_ rfl) rfl rfl ?_
  refine g_ (b_ ?_)
  refine l_ ?_
  refine N_ rfl rfl ?_
  intro w' hw'
  refine ⟨?_, hw'.sub (fun _ h => h) (List.sublist_cons_self _ _)⟩
  congr 2
  unfold Core.check
  repeat' split
  all_goals first | rfl | omega | simp_all
set_option maxHeartbeats 400000 in
theorem rcheck_c {c : Core} {n : Int} (hw : Mem S σ ρ w) (hs : c.letter.size ≤ lots) : Calls Tryz.prog 58 #[.agg c.cells.toArray, .int .i64 n] w fun e w' => e = .returned (.int .i64 (c.check n)) ∧ Mem S σ ρ w' := by
  refine ak_ [.agg c.cells.toArray, .int .i64 n] Tryz.func58 rfl Tryz.ntmps58 rfl (Mem S σ ρ) hw ?_
  refine d_ (a_ ?_)
  refine a7_ (L_ rfl) rfl rfl ?_
  rintro _ _ ⟨b2, rfl, rfl⟩
  refine c_ (j_ rfl) rfl rfl ?_
  refine g_ (b_ ?_)
  refine d_ ?_
  refine w_ ?_
  refine d_ (a_ ?_)
  refine c_ (n_ rfl) rfl rfl ?_
  refine c_ (aU_ rfl rfl) rfl rfl ?_
  refine c_ (n_ rfl) rfl rfl ?_
  refine z_ (t := 8) rfl ?_ ?_
  · intro hc8
    iterate 2 refine ac_ rfl rfl ?_
    refine c_ (M_ rfl rfl) rfl rfl ?_
    refine c_ (j_ rfl) rfl rfl ?_
    refine g_ (b_ ?_)
    refine K_ rfl ?_
    refine d_ (a_ ?_)
    refine c_ (j_ rfl) rfl rfl ?_
    refine g_ (b_ ?_)
    refine l_ ?_
    refine A_ ?_
    refine h_ (by intro h; cases h) ?_
    refine N_ rfl rfl ?_
    intro w' hw'
    refine ⟨?_, hw'.sub (fun _ h => h) (List.sublist_cons_self _ _)⟩
    congr 2
    unfold Core.check
    repeat' split
    all_goals first | rfl | omega | simp_all
  intro hc8
  refine c_ (n_ rfl) rfl rfl ?_
  refine c_ (aL_ rfl rfl) rfl rfl ?_
  refine c_ (O_ rfl rfl) rfl rfl ?_
  refine c_ (j_ rfl) rfl rfl ?_
  refine g_ (b_ ?_)
  refine p_ rfl ?_ ?_
  · intro hc5
    refine d_ (a_ ?_)
    refine c_ (j_ rfl) rfl rfl ?_
    refine g_ (b_ ?_)
    refine l_ ?_
    refine A_ ?_
    refine h_ (by intro h; cases h) ?_
    refine N_ rfl rfl ?_
    intro w' hw'
    refine ⟨?_, hw'.sub (fun _ h => h) (List.sublist_cons_self _ _)⟩
    congr 2
    unfold Core.check
    repeat' split
    all_goals first | rfl | omega | simp_all
  intro hc5
  refine d_ (a_ ?_)
  refine c_ (G_ tabOk rfl rfl rfl rfl rfl) rfl rfl ?_
  refine c_ (i_ tabOk rfl rfl (by repeat (first | assumption | exact List.mem_cons_self | exact hmem _ | apply List.mem_cons_of_mem)) (by rfl)) rfl rfl ?_
  refine c_ (n_ rfl) rfl rfl ?_
  refine c_ (aU_ rfl rfl) rfl rfl ?_
  refine c_ (n_ rfl) rfl rfl ?_
  refine z_ (t := 17) rfl ?_ ?_
  · intro hc17
    iterate 5 refine ac_ rfl rfl ?_
    refine c_ (M_ rfl rfl) rfl rfl ?_
    refine c_ (j_ rfl) rfl rfl ?_
    refine g_ (b_ ?_)
    refine K_ rfl ?_
    refine d_ (a_ ?_)
    refine c_ (j_ rfl) rfl rfl ?_
    refine g_ (b_ ?_)
    refine l_ ?_
    refine A_ ?_
    refine h_ (by intro h; cases h) ?_
    refine N_ rfl rfl ?_
    intro w' hw'
    refine ⟨?_, hw'.sub (fun _ h => h) (List.sublist_cons_self _ _)⟩
    congr 2
    unfold Core.check
    repeat' split
    all_goals first | rfl | omega | simp_all
  intro hc17
  refine c_ (G_ tabOk rfl rfl rfl rfl rfl) rfl rfl ?_
  refine c_ (i_ tabOk rfl rfl (by repeat (first | assumption | exact List.mem_cons_self | exact hmem _ | apply List.mem_cons_of_mem)) (by rfl)) rfl rfl ?_
  refine c_ (n_ rfl) rfl rfl ?_
  refine c_ (y_ rfl rfl (by simp only [InR, lo, hi]; omega)) rfl rfl ?_
  refine c_ (aL_ rfl rfl) rfl rfl ?_
  refine c_ (O_ rfl rfl) rfl rfl ?_
  refine c_ (j_ rfl) rfl rfl ?_
  refine g_ (b_ ?_)
  refine p_ rfl ?_ ?_
  · intro hc12
    refine d_ (a_ ?_)
    refine c_ (j_ rfl) rfl rfl ?_
    refine g_ (b_ ?_)
    refine l_ ?_
    refine A_ ?_
    refine h_ (by intro h; cases h) ?_
    refine N_ rfl rfl ?_
    intro w' hw'
    refine ⟨?_, hw'.sub (fun _ h => h) (List.sublist_cons_self _ _)⟩
    congr 2
    unfold Core.check
    repeat' split
    all_goals first | rfl | omega | simp_all
  intro hc12
  refine d_ (a_ ?_)
  refine c_ (G_ tabOk rfl rfl rfl rfl rfl) rfl rfl ?_
  refine c_ (i_ tabOk rfl rfl (by repeat (first | assumption | exact List.mem_cons_self | exact hmem _ | apply List.mem_cons_of_mem)) (by rfl)) rfl rfl ?_
  refine c_ (aU_ rfl rfl) rfl rfl ?_
  refine c_ (n_ rfl) rfl rfl ?_
  refine z_ (t := 28) rfl ?_ ?_
  · intro hc28
    iterate 3 refine ac_ rfl rfl ?_
    refine c_ (M_ rfl rfl) rfl rfl ?_
    refine c_ (n_ rfl) rfl rfl ?_
    iterate 3 refine ac_ rfl rfl ?_
    refine c_ (M_ rfl rfl) rfl rfl ?_
    refine c_ (n_ rfl) rfl rfl ?_
    iterate 3 refine ac_ rfl rfl ?_
    refine c_ (M_ rfl rfl) rfl rfl ?_
    refine c_ (j_ rfl) rfl rfl ?_
    refine g_ (b_ ?_)
    refine K_ rfl ?_
    refine d_ (a_ ?_)
    refine c_ (j_ rfl) rfl rfl ?_
    refine g_ (b_ ?_)
    refine l_ ?_
    refine A_ ?_
    refine h_ (by intro h; cases h) ?_
    refine N_ rfl rfl ?_
    intro w' hw'
    refine ⟨?_, hw'.sub (fun _ h => h) (List.sublist_cons_self _ _)⟩
    congr 2
    unfold Core.check
    repeat' split
    all_goals first | rfl | omega | simp_all
  intro hc28
  refine c_ (G_ tabOk rfl rfl rfl rfl rfl) rfl rfl ?_
  refine c_ (i_ tabOk rfl rfl (by repeat (first | assumption | exact List.mem_cons_self | exact hmem _ | apply List.mem_cons_of_mem)) (by rfl)) rfl rfl ?_
  refine c_ (aL_ rfl rfl) rfl rfl ?_
  refine c_ (O_ rfl rfl) rfl rfl ?_
  refine c_ (n_ rfl) rfl rfl ?_
  refine z_ (t := 33) rfl ?_ ?_
  · intro hc33
    iterate 3 refine ac_ rfl rfl ?_
    refine c_ (M_ rfl rfl) rfl rfl ?_
    refine c_ (n_ rfl) rfl rfl ?_
    iterate 3 refine ac_ rfl rfl ?_
    refine c_ (M_ rfl rfl) rfl rfl ?_
    refine c_ (j_ rfl) rfl rfl ?_
    refine g_ (b_ ?_)
    refine K_ rfl ?_
    refine d_ (a_ ?_)
    refine c_ (j_ rfl) rfl rfl ?_
    refine g_ (b_ ?_)
    refine l_ ?_
    refine A_ ?_
    refine h_ (by intro h; cases h) ?_
    refine N_ rfl rfl ?_
    intro w' hw'
    refine ⟨?_, hw'.sub (fun _ h => h) (List.sublist_cons_self _ _)⟩
    congr 2
    unfold Core.check
    repeat' split
    all_goals first | rfl | omega | simp_all
  intro hc33
  refine c_ (G_ tabOk rfl rfl rfl rfl rfl) rfl rfl ?_
  refine c_ (i_ tabOk rfl rfl (by repeat (first | assumption | exact List.mem_cons_self | exact hmem _ | apply List.mem_cons_of_mem)) (by rfl)) rfl rfl ?_
  refine c_ (aU_ rfl rfl) rfl rfl ?_
  refine c_ (O_ rfl rfl) rfl rfl ?_
  refine c_ (n_ rfl) rfl rfl ?_
  refine z_ (t := 38) rfl ?_ ?_
  · intro hc38
    iterate 3 refine ac_ rfl rfl ?_
    refine c_ (M_ rfl rfl) rfl rfl ?_
    refine c_ (j_ rfl) rfl rfl ?_
    refine g_ (b_ ?_)
    refine K_ rfl ?_
    refine d_ (a_ ?_)
    refine c_ (j_ rfl) rfl rfl ?_
    refine g_ (b_ ?_)
    refine l_ ?_
    refine A_ ?_
    refine h_ (by intro h; cases h) ?_
    refine N_ rfl rfl ?_
    intro w' hw'
    refine ⟨?_, hw'.sub (fun _ h => h) (List.sublist_cons_self _ _)⟩
    congr 2
    unfold Core.check
    repeat' split
    all_goals first | rfl | omega | simp_all
  intro hc38
  refine c_ (G_ tabOk rfl rfl rfl rfl rfl) rfl rfl ?_
  refine c_ (i_ tabOk rfl rfl (by repeat (first | assumption | exact List.mem_cons_self | exact hmem _ | apply List.mem_cons_of_mem)) (by rfl)) rfl rfl ?_
  refine c_ (aL_ rfl rfl) rfl rfl ?_
  refine c_ (O_ rfl rfl) rfl rfl ?_
  refine c_ (j_ rfl) rfl rfl ?_
  refine g_ (b_ ?_)
  refine p_ rfl ?_ ?_
  · intro hc24
    refine d_ (a_ ?_)
    refine c_ (j_ rfl) rfl rfl ?_
    refine g_ (b_ ?_)
    refine l_ ?_
    refine A_ ?_
    refine h_ (by intro h; cases h) ?_
    refine N_ rfl rfl ?_
    intro w' hw'
    refine ⟨?_, hw'.sub (fun _ h => h) (List.sublist_cons_self _ _)⟩
    congr 2
    unfold Core.check
    repeat' split
    all_goals first | rfl | omega | simp_all
  intro hc24
  refine d_ (a_ ?_)
  refine c_ (G_ tabOk rfl rfl rfl rfl rfl) rfl rfl ?_
  refine c_ (i_ tabOk rfl rfl (by repeat (first | assumption | exact List.mem_cons_self | exact hmem _ | apply List.mem_cons_of_mem)) (by rfl)) rfl rfl ?_
  refine r_ (by kernel_rfl) rfl rfl rfl ?_
  intro w hw
  refine (f5_ hw (Nat.le_trans hs (of_decide_eq_true (by kernel_rfl)))).mono ?_; rintro _ _ ⟨rfl, hm⟩; refine ⟨_, _, rfl, hm, ?_⟩; clear hm hw w
  refine c_ (ab_ rfl) rfl rfl ?_
  refine c_ (j_ rfl) rfl rfl ?_
  refine g_ (b_ ?_)
  refine S_ rfl ?_ ?_
  · intro hc43
    refine d_ (a_ ?_)
    refine c_ (j_ rfl) rfl rfl ?_
    refine g_ (b_ ?_)
    refine l_ ?_
    refine A_ ?_
    refine h_ (by intro h; cases h) ?_
    refine N_ rfl rfl ?_
    intro w' hw'
    refine ⟨?_, hw'.sub (fun _ h => h) (List.sublist_cons_self _ _)⟩
    congr 2
    unfold Core.check
    repeat' split
    all_goals first | rfl | omega | simp_all
  intro hc43
  refine d_ (a_ ?_)
  refine c_ (G_ tabOk rfl rfl rfl rfl rfl) rfl rfl ?_
  refine c_ (i_ tabOk rfl rfl (by repeat (first | assumption | exact List.mem_cons_self | exact hmem _ | apply List.mem_cons_of_mem)) (by rfl)) rfl rfl ?_
  refine c_ (ag_ rfl Tryz.underlying9) rfl rfl ?_
  refine c_ (aL_ rfl rfl) rfl rfl ?_
  refine c_ (j_ rfl) rfl rfl ?_
  refine g_ (b_ ?_)
  refine p_ rfl ?_ ?_
  · intro hc48
    refine d_ (a_ ?_)
    refine c_ (j_ rfl) rfl rfl ?_
    refine g_ (b_ ?_)
    refine l_ ?_
    refine A_ ?_
    refine h_ (by intro h; cases h) ?_
    refine N_ rfl rfl ?_
    intro w' hw'
    refine ⟨?_, hw'.sub (fun _ h => h) (List.sublist_cons_self _ _)⟩
    congr 2
    unfold Core.check
    repeat' split
    all_goals first | rfl | omega | simp_all
  intro hc48
  refine o_ ?_
  refine u_ ?_
  refine b_ ?_
  refine d_ (a_ ?_)
  refine c_ (j_ rfl) rfl rfl ?_
  refine g_ (b_ ?_)
  refine l_ ?_
  refine N_ rfl rfl ?_
  intro w' hw'
  refine ⟨?_, hw'.sub (fun _ h => h) (List.sublist_cons_self _ _)⟩
  congr 2
  unfold Core.check
  repeat' split
  all_goals first | rfl | omega | simp_all
end
end Go.Proofs.YtickdhjljpnlpaaGreatDoor
namespace Go.Proofs.YtickdhjljpnlpaaGreatDoor.A
open Go.RowKit
abbrev coreA (c : Core) : Abs := .agg (c.cells.map .v)
section
variable {c : Core} {n : Int}
theorem gF_ {K : List Nat} {w : World} {vals : List Value} (hv : reps K w [coreA c, int n] vals) : vals = [.agg c.cells.toArray, .int .i64 n] := by
  obtain ⟨v, us', rfl, ⟨us, rfl, h1⟩, h2⟩ := hv
  have h1 := (av_ (us := c.cells)).1 h1
  have h2 := (av_ (us := [.int .i64 n])).1 h2
  rw [h2, h1]
theorem ccheck_s : Pure Tryz.prog 44 [coreA c, int n] (int (c.check n)) := Pure.of2 fun K w vals hK hv => by
  rw [gF_ hv]
  exact (kk_ (enter2 w K)).mono fun e w' ⟨he, hm⟩ => ⟨_, he, leave2 hm (by simp), rfl⟩
theorem jt_ (hs : c.letter.size ≤ lots) : Pure Tryz.prog 58 [coreA c, int n] (int (c.check n)) := Pure.of2 fun K w vals hK hv => by
  rw [gF_ hv]
  exact (rcheck_c (enter2 w K) hs).mono fun e w' ⟨he, hm⟩ => ⟨_, he, leave2 hm (by simp), rfl⟩
end
end Go.Proofs.YtickdhjljpnlpaaGreatDoor.A
namespace Go.Proofs.YtickdhjljpnlpaaGreatDoor
open Go.RowKit
structure Ent where
  core : Core
  mask : Nat
def Ent.cells (e : Ent) : List Value := [.int .i64 e.core.client, .int .i64 e.core.stamp, .int .i64 e.core.op, .string e.core.letter, .int .i64 e.core.a, .int .i64 e.core.b, .string e.core.text, .int .u32 e.mask]
theorem Ent.one (e : Ent) : ∀ u ∈ e.cells, u.oneCell' = true := by
  intro u hu
  simp only [Ent.cells, List.mem_cons, List.not_mem_nil, or_false] at hu
  rcases hu with rfl | rfl | rfl | rfl | rfl | rfl | rfl | rfl <;> rfl
end Go.Proofs.YtickdhjljpnlpaaGreatDoor
namespace Go.Proofs.YtickdhjljpnlpaaGreatDoor.A
open Go.RowKit
/-! ### Rows with keys -/
section
variable {α : Type} {p eq gt : α → Bool} {x y : α}
def putG (p : α → Bool) (r : Bool) (x : α) : List α → List α
  | [] => [x]
  | y :: ys => if p y = true then (if r = true then x :: ys else x :: y :: ys) else y :: putG p r x ys
def withG (eq gt : α → Bool) (x : α) (l : List α) : List α := if l.any eq = true then putG eq true x l else putG gt false x l
def placeG (eq gt : α → Bool) (l : List α) : Nat × Bool := if l.any eq = true then (l.findIdx eq, true) else (l.findIdx gt, false)
theorem fo_ : ∀ {l : List α}, l.any p = true → putG p true x l = l.set (l.findIdx p) x
  | [], h => by simp at h
  | y :: l, h => by
    unfold putG
    rw [List.findIdx_cons]
    by_cases hy : p y = true
    · simp [hy]
    · have h1 : l.any p = true := by simpa [hy] using h
      rw [if_neg hy, fo_ h1]
      simp [hy]
theorem fp_ : ∀ {l : List α}, putG p false x l = l.take (l.findIdx p) ++ x :: l.drop (l.findIdx p)
  | [] => rfl
  | y :: l => by
    unfold putG
    rw [List.findIdx_cons]
    by_cases hy : p y = true
    · simp [hy]
    · rw [if_neg hy, fp_]
      simp [hy]
theorem ea_ (r : Bool) : ∀ l : List α, (putG p r x l).length ≤ l.length + 1
  | [] => Nat.le_refl _
  | y :: l => by
    have := ea_ r l
    unfold putG
    split
    · split <;> simp
    · simpa using this
theorem bL_ (l : List α) : (withG eq gt x l).length ≤ l.length + 1 := by
  unfold withG
  split <;> exact ea_ _ _
theorem e3_ {l : List α} : l.findIdx p ≤ l.length := List.findIdx_le_length
theorem cy_ {l : List α} (h : l.any p = true) : l.findIdx p < l.length := List.findIdx_lt_length.2 (by simpa using h)
theorem j5_ : ∀ {l : List α} (h : l.any p = true), l.find? p = some (l[l.findIdx p]'(cy_ h))
  | [], h => by simp at h
  | y :: l, h => by
    by_cases hy : p y = true
    · simp [List.findIdx_cons, hy]
    · have h1 : l.any p = true := by simpa [hy] using h
      have h2 := j5_ h1
      simp [List.findIdx_cons, hy, h2]
theorem j4_ {l : List α} (h : ¬ l.any p = true) : l.find? p = none := by
  rw [List.find?_eq_none]
  intro x hx hp
  exact h (List.any_eq_true.2 ⟨x, hx, hp⟩)
theorem gw_ {l : List α} {x : α} (h : l.find? p = some x) : x ∈ l ∧ p x = true := ⟨List.mem_of_find?_eq_some h, List.find?_some h⟩
theorem hR_ {r : Bool} {z : α} : ∀ {l : List α}, z ∈ putG p r x l → z = x ∨ z ∈ l
  | [], h => .inl (List.mem_singleton.1 h)
  | y :: l, h => by
    unfold putG at h
    split at h
    · split at h
      · rcases List.mem_cons.1 h with h | h
        · exact .inl h
        · exact .inr (List.mem_cons_of_mem _ h)
      · rcases List.mem_cons.1 h with h | h
        · exact .inl h
        · exact .inr h
    · rcases List.mem_cons.1 h with h | h
      · exact .inr (h ▸ List.mem_cons_self)
      · rcases hR_ h with h | h
        · exact .inl h
        · exact .inr (List.mem_cons_of_mem _ h)
theorem dT_ {z : α} {l : List α} (h : z ∈ withG eq gt x l) : z = x ∨ z ∈ l := by
  unfold withG at h
  split at h <;> exact hR_ h
end
/-! ### Letters and outcomes -/
def ltB (a b : ByteArray) : Prop := a.data.toList < b.data.toList
instance (a b : ByteArray) : Decidable (ltB a b) := by unfold ltB; infer_instance
theorem fw_ (a : ByteArray) : ¬ ltB a a := List.lt_irrefl _
theorem gl_ {a b c : ByteArray} (h : ltB a b) (k : ltB b c) : ltB a c := List.lt_trans h k
theorem ltB_tri (a b : ByteArray) : ltB a b ∨ a = b ∨ ltB b a := by
  by_cases h : ltB a b
  · exact .inl h
  · by_cases k : ltB b a
    · exact .inr (.inr k)
    · exact .inr (.inl (dV_ (List.le_antisymm (show ¬ b.data.toList < a.data.toList from k) h)))
section
variable {P : Program} {n : Nat} {W : Wd} {σ : Blks} {l : Slots} {X : List Nat} {x y : Operand} {d : Option Nat} {ty t t' : TypeId} {pos : String} {aft : Array Edge} {g : Option (Nat × Bool)} {s r : ByteArray}
theorem hz_ (hx : look l x = some (.v (.string s))) (hy : look l y = some (.v (.string r))) : Val P n W σ l X ⟨d, .binOp .gtr t x y t', ty, pos, aft, g⟩ (.v (.bool (decide (ltB r s)))) := fun a w hs _ => by
  refine ⟨_, rfl, fun w' _ => ?_⟩
  have key : (!decide (s.data < r.data) && !s.data == r.data) = decide (r.data < s.data) := by
    rcases ltB_tri s r with h | rfl | h
    · have k : ¬ ltB r s := fun k => fw_ _ (gl_ h k)
      rw [decide_eq_true (show s.data < r.data from h), decide_eq_false (show ¬ r.data < s.data from k)]
      rfl
    · rw [decide_eq_false (show ¬ s.data < s.data from fw_ s)]
      simp
    · have k : ¬ ltB s r := fun k => fw_ _ (gl_ h k)
      have k2 : ¬ s.data = r.data := fun e => by
        have : s = r := dV_ (congrArg Array.toList e)
        subst this
        exact fw_ _ h
      rw [decide_eq_false (show ¬ s.data < r.data from k), decide_eq_true (show r.data < s.data from h)]
      simp [k2]
  simp [execOp, hs.plain hx, hs.plain hy, eqGuard, binOp, Op.stringOp, Proofs.bytesLess_eq, Lib.toList_data, ltB, key]
end
abbrev st (s : ByteArray) : Abs := .v (.string s)
def ltrA (x : Ltr) : List Abs := [st x.name, int x.state, int x.amount, int x.due, st x.policy, st x.papers]
def entA (e : Ent) : List Abs := e.cells.map .v
abbrev ltrsA (l : List Ltr) : Abs := .sl 6 (l.map ltrA)
theorem bF_ (l : List Ltr) : ∀ c ∈ l.map ltrA, ones c = true := by
  intro c hc
  obtain ⟨o, _, rfl⟩ := List.mem_map.1 hc
  rfl
structure Lg where
  seq : Int
  total : Int
  ls : List Ltr
  os : List Oc
def Lg.abs (l : Lg) : List Abs := [int l.seq, int l.total, ltrsA l.ls, outA l.os]
def Lg.zero : Lg := ⟨0, 0, [], []⟩
abbrev eqL (s : ByteArray) (x : Ltr) : Bool := decide (x.name = s)
abbrev gtL (s : ByteArray) (x : Ltr) : Bool := decide (ltB s x.name)
abbrev eqO (k : Int) (o : Oc) : Bool := decide (o.client = k)
abbrev gtO (k : Int) (o : Oc) : Bool := decide (k < o.client)
def Lg.find (l : Lg) (s : ByteArray) : Option Ltr := l.ls.find? (eqL s)
def Lg.last (l : Lg) (k : Int) : Option Oc := l.os.find? (eqO k)
def Lg.told (l : Lg) (o : Oc) : Lg := { l with os := withG (eqO o.client) (gtO o.client) o l.os }
def Lg.putL (l : Lg) (x : Ltr) : Lg := { l with ls := withG (eqL x.name) (gtL x.name) x l.ls }
def Lg.with_ (l : Lg) (x : Ltr) : Lg × Int := if nameB x.name = false then (Lg.zero, 7) else if 16 < (l.putL x).ls.length then (Lg.zero, 11) else (l.putL x, 0)
def Lg.stale (l : Lg) (c : Core) : Bool := match l.last c.client with
  | some o => decide (c.stamp ≤ o.stamp)
  | none => false
def Lg.old (l : Lg) (s : ByteArray) : Ltr := (l.find s).getD Ltr.none
def Lg.known (l : Lg) (c : Core) : Int := if (l.find c.letter).isNone = true ∧ c.op ≠ 1 then 7 else 0
def polB (x : Ltr) (c : Core) : ByteArray := if c.op = 1 then c.text else x.policy
def endorsedF (x : Ltr) (e : Ent) (n : Int) : Int := if (parseF (tx (polB x e.core)) n).2 ≠ 0 then 2 else if (parseF (tx (polB x e.core)) n).1.holds (BitVec.ofNat 32 e.mask) = false then 9 else 0
def Lg.stepped (l : Lg) (x : Ltr) (c : Core) : Lg × Int :=
  if (x.step c.op c.a c.b c.text).2 ≠ 0 then (l, (x.step c.op c.a c.b c.text).2)
  else if (l.with_ { (x.step c.op c.a c.b c.text).1 with name := c.letter }).2 ≠ 0 then (l, (l.with_ { (x.step c.op c.a c.b c.text).1 with name := c.letter }).2)
  else if c.op ≠ 7 then ((l.with_ { (x.step c.op c.a c.b c.text).1 with name := c.letter }).1, 0)
  else if (amtAdd l.total (x.step c.op c.a c.b c.text).1.amount).2 ≠ 0 then (l, 6)
  else ({ (l.with_ { (x.step c.op c.a c.b c.text).1 with name := c.letter }).1 with total := (amtAdd l.total (x.step c.op c.a c.b c.text).1.amount).1 }, 0)
def Lg.res (l : Lg) (e : Ent) (n : Int) : Lg × Int :=
  if l.known e.core ≠ 0 then (l, l.known e.core) else if endorsedF (l.old e.core.letter) e n ≠ 0 then (l, endorsedF (l.old e.core.letter) e n) else l.stepped (l.old e.core.letter) e.core
def Lg.doF (l : Lg) (e : Ent) (n : Int) : Lg × Int :=
  if l.stale e.core = true then (l, 10) else if e.core.check n ≠ 0 then (l, e.core.check n) else ((l.res e n).1.told ⟨e.core.client, e.core.stamp, (l.res e n).2⟩, (l.res e n).2)
def Lg.goes (n : Int) (l : Lg) : List Ent → Lg × List Int
  | [] => (l, [])
  | e :: es => ((Lg.goes n (l.doF e n).1 es).1, (l.doF e n).2 :: (Lg.goes n (l.doF e n).1 es).2)
def Lg.foldF (l : Lg) (es : List Ent) (n : Int) : Lg × List Int := ({ (Lg.goes n l es).1 with seq := (Lg.goes n l es).1.seq + 1 }, (Lg.goes n l es).2)
structure Lg.Wf (l : Lg) : Prop where
  seq : i64ok l.seq
  total : i64ok l.total
  ls : ∀ x ∈ l.ls, x.Wf
theorem eg_ : Ltr.none.Wf := ⟨by show _ ∧ _; decide, by show _ ∧ _; decide, by show _ ∧ _; decide⟩
theorem Lg.old_wf {l : Lg} (h : l.Wf) (s : ByteArray) : (l.old s).Wf := by
  unfold Lg.old Lg.find
  cases hf : l.ls.find? (eqL s) with
  | none => exact eg_
  | some x => exact h.ls x (gw_ hf).1
end Go.Proofs.YtickdhjljpnlpaaGreatDoor.A
namespace Go.Proofs.YtickdhjljpnlpaaGreatDoor
open Go.RowKit
theorem g6_ (w : World) (l : Ltr) (a b : Int) (text : ByteArray) :
    Calls Tryz.prog 112 #[.agg l.cells, .int .i64 a, .int .i64 b, .string text] w fun e w' => e = .returned (.tuple #[.agg (l.apply a b text).1.cells, .int .i64 (l.apply a b text).2]) ∧ Ext [] w w' := by
  by_cases h1 : a < 1
  · rw [show l.apply a b text = (l, 5) by simp [Ltr.apply, h1]]
    change Calls Tryz.prog 112 #[.agg #[.string l.name, .int .i64 l.state, .int .i64 l.amount, .int .i64 l.due, .string l.policy, .string l.papers], .int .i64 a, .int .i64 b, .string text] w _
    go_enter Tryz.func112, Tryz.ntmps112
    go_wp2
    exact bodyPost_ret (F_ rfl _ _ (w.heap.size + 1) _ _ _ _ rfl (heap_alloc2_new _ _ _) Tryz.underlying81 rfl (by kernel_rfl)) rfl ⟨rfl, ((Ext.refl _).alloc _).alloc _⟩
  by_cases h2 : 1099511627776 < a
  · rw [show l.apply a b text = (l, 6) by simp [Ltr.apply, h1, isAmt]; omega]
    change Calls Tryz.prog 112 #[.agg #[.string l.name, .int .i64 l.state, .int .i64 l.amount, .int .i64 l.due, .string l.policy, .string l.papers], .int .i64 a, .int .i64 b, .string text] w _
    go_enter Tryz.func112, Tryz.ntmps112
    go_wp2
    exact bodyPost_ret (F_ rfl _ _ (w.heap.size + 1) _ _ _ _ rfl (heap_alloc2_new _ _ _) Tryz.underlying81 rfl (by kernel_rfl)) rfl ⟨rfl, ((Ext.refl _).alloc _).alloc _⟩
  have h2' : isAmt a = true := aK_ (by omega) (by omega)
  cases h3 : isAmt b
  · rw [show l.apply a b text = (l, 5) by simp [Ltr.apply, h2', h3]]
    have H3 := Lib.hid h3; clear h3 h2'
    change Calls Tryz.prog 112 #[.agg #[.string l.name, .int .i64 l.state, .int .i64 l.amount, .int .i64 l.due, .string l.policy, .string l.papers], .int .i64 a, .int .i64 b, .string text] w _
    go_enter Tryz.func112, Tryz.ntmps112
    go_wp2_with (go_at_call 56; with_reducible refine (bl_ b _ H3.out _).mono ?_; rintro e _ ⟨rfl, rfl⟩)
    exact bodyPost_ret (F_ rfl _ _ (w.heap.size + 1) _ _ _ _ rfl (heap_alloc2_new _ _ _) Tryz.underlying81 rfl (by kernel_rfl)) rfl ⟨rfl, ((Ext.refl _).alloc _).alloc _⟩
  · rw [show l.apply a b text = (⟨l.name, 0, a, b, text, ByteArray.empty⟩, 0) by simp [Ltr.apply, h1, h2', h3]]
    have H3 := Lib.hid h3; clear h3 h2'
    change Calls Tryz.prog 112 #[.agg #[.string l.name, .int .i64 l.state, .int .i64 l.amount, .int .i64 l.due, .string l.policy, .string l.papers], .int .i64 a, .int .i64 b, .string text] w _
    go_enter Tryz.func112, Tryz.ntmps112
    go_wp2_with (go_at_call 56; with_reducible refine (bl_ b _ H3.out _).mono ?_; rintro e _ ⟨rfl, rfl⟩)
    exact bodyPost_ret (F_ rfl _ _ (w.heap.size + 1) _ _ _ _ rfl (heap_alloc2_new _ _ _) Tryz.underlying81 rfl (by kernel_rfl)) rfl ⟨rfl, ((Ext.refl _).alloc _).alloc _⟩
theorem g7_ (w : World) (l : Ltr) (a b : Int) (hl : i64ok l.amount) (ha : i64ok a) :
    Calls Tryz.prog 113 #[.agg l.cells, .int .i64 a, .int .i64 b] w fun e w' => e = .returned (.tuple #[.agg (l.amend a b).1.cells, .int .i64 (l.amend a b).2]) ∧ Ext [] w w' := by
  obtain ⟨a0, a1⟩ := ha
  obtain ⟨l0, l1⟩ := hl
  by_cases he : (amtChange l.amount a).2 = 0
  · have hb : ((amtChange l.amount a).2 != 0) = false := by simp [he]
    by_cases hv : (amtChange l.amount a).1 = 0
    · rw [show l.amend a b = (l, 5) by simp [Ltr.amend, he, hv]]
      have hvb : ((amtChange l.amount a).1 == 0) = true := by simp [hv]
      clear he hv
      change Calls Tryz.prog 113 #[.agg #[.string l.name, .int .i64 l.state, .int .i64 l.amount, .int .i64 l.due, .string l.policy, .string l.papers], .int .i64 a, .int .i64 b] w _
      go_enter Tryz.func113, Tryz.ntmps113
      go_wp2_with (go_at_call 114; refine (bm_ _ _ _ l0 l1 a0 a1).mono ?_; rintro e _ ⟨rfl, rfl⟩)
      exact bodyPost_ret (F_ rfl _ _ (w.heap.size + 1) _ _ _ _ rfl (heap_alloc2_new _ _ _) Tryz.underlying81 rfl (by kernel_rfl)) rfl ⟨rfl, ((Ext.refl _).alloc _).alloc _⟩
    · have hvb : ((amtChange l.amount a).1 == 0) = false := by simpa using hv
      cases hd : isAmt b
      · rw [show l.amend a b = (l, 5) by simp [Ltr.amend, he, hd]]
        have HD := Lib.hid hd
        clear he hv hd
        change Calls Tryz.prog 113 #[.agg #[.string l.name, .int .i64 l.state, .int .i64 l.amount, .int .i64 l.due, .string l.policy, .string l.papers], .int .i64 a, .int .i64 b] w _
        go_enter Tryz.func113, Tryz.ntmps113
        go_wp2_with (first
          | (go_at_call 114; refine (bm_ _ _ _ l0 l1 a0 a1).mono ?_; rintro e _ ⟨rfl, rfl⟩)
          | (go_at_call 56; with_reducible refine (bl_ b _ HD.out _).mono ?_; rintro e _ ⟨rfl, rfl⟩))
        exact bodyPost_ret (F_ rfl _ _ (w.heap.size + 1) _ _ _ _ rfl (heap_alloc2_new _ _ _) Tryz.underlying81 rfl (by kernel_rfl)) rfl ⟨rfl, ((Ext.refl _).alloc _).alloc _⟩
      · by_cases h0 : b = 0
        · subst h0
          rw [show l.amend a 0 = ({ l with amount := (amtChange l.amount a).1 }, 0) by simp [Ltr.amend, he, hd, hv]]
          have HD := Lib.hid hd
          clear he hv hd
          change Calls Tryz.prog 113 #[.agg #[.string l.name, .int .i64 l.state, .int .i64 l.amount, .int .i64 l.due, .string l.policy, .string l.papers], .int .i64 a, .int .i64 0] w _
          go_enter Tryz.func113, Tryz.ntmps113
          go_wp2_with (first
            | (go_at_call 114; refine (bm_ _ _ _ l0 l1 a0 a1).mono ?_; rintro e _ ⟨rfl, rfl⟩)
            | (go_at_call 56; with_reducible refine (bl_ 0 _ HD.out _).mono ?_; rintro e _ ⟨rfl, rfl⟩))
          exact bodyPost_ret (F_ rfl _ _ (w.heap.size + 1) _ _ _ _ rfl (heap_alloc2_new _ _ _) Tryz.underlying81 rfl (by kernel_rfl)) rfl ⟨rfl, ((Ext.refl _).alloc _).alloc _⟩
        · have h0b : (b != 0) = true := by simpa using h0
          rw [show l.amend a b = ({ l with amount := (amtChange l.amount a).1, due := b }, 0) by simp [Ltr.amend, he, hd, hv, h0]]
          have HD := Lib.hid hd
          clear he hv hd h0
          change Calls Tryz.prog 113 #[.agg #[.string l.name, .int .i64 l.state, .int .i64 l.amount, .int .i64 l.due, .string l.policy, .string l.papers], .int .i64 a, .int .i64 b] w _
          go_enter Tryz.func113, Tryz.ntmps113
          go_wp2_with (first
            | (go_at_call 114; refine (bm_ _ _ _ l0 l1 a0 a1).mono ?_; rintro e _ ⟨rfl, rfl⟩)
            | (go_at_call 56; with_reducible refine (bl_ b _ HD.out _).mono ?_; rintro e _ ⟨rfl, rfl⟩))
          exact bodyPost_ret (F_ rfl _ _ (w.heap.size + 1) _ _ _ _ rfl (heap_alloc2_new _ _ _) Tryz.underlying81 rfl (by kernel_rfl)) rfl ⟨rfl, ((Ext.refl _).alloc _).alloc _⟩
  · have hb : ((amtChange l.amount a).2 != 0) = true := by simpa using he
    rw [show l.amend a b = (l, (amtChange l.amount a).2) by simp [Ltr.amend, he]]
    clear he
    change Calls Tryz.prog 113 #[.agg #[.string l.name, .int .i64 l.state, .int .i64 l.amount, .int .i64 l.due, .string l.policy, .string l.papers], .int .i64 a, .int .i64 b] w _
    go_enter Tryz.func113, Tryz.ntmps113
    go_wp2_with (go_at_call 114; refine (bm_ _ _ _ l0 l1 a0 a1).mono ?_; rintro e _ ⟨rfl, rfl⟩)
    exact bodyPost_ret (F_ rfl _ _ (w.heap.size + 1) _ _ _ _ rfl (heap_alloc2_new _ _ _) Tryz.underlying81 rfl (by kernel_rfl)) rfl ⟨rfl, ((Ext.refl _).alloc _).alloc _⟩
set_option maxHeartbeats 2000000 in
theorem ix_ (w : World) (l : Ltr) (op a b : Int) (text : ByteArray) (hl : l.Wf) (ha : i64ok a) (ht : text.size ≤ 9223372036854775807) :
    Calls Tryz.prog 90 #[.agg l.cells, .int .i64 op, .int .i64 a, .int .i64 b, .string text] w fun e w' => e = .returned (.tuple #[.agg (l.step op a b text).1.cells, .int .i64 (l.step op a b text).2]) ∧ Ext [] w w' := by
  by_cases h1 : op < 1
  · rw [show l.step op a b text = (Ltr.none, 1) by simp [Ltr.step, h1]]
    change Calls Tryz.prog 90 #[.agg #[.string l.name, .int .i64 l.state, .int .i64 l.amount, .int .i64 l.due, .string l.policy, .string l.papers], .int .i64 op, .int .i64 a, .int .i64 b, .string text] w _
    go_enter Tryz.func90, Tryz.ntmps90
    go_wp2_with (go_at_call 111; refine (ao_ _ _ _).mono ?_; rintro e _ ⟨rfl, rfl⟩)
    exact bodyPost_ret (F_ rfl _ _ (w.heap.size + 1) _ _ _ _ rfl (heap_alloc2_new _ _ _) Tryz.underlying81 rfl (by kernel_rfl)) rfl ⟨rfl, ((Ext.refl _).alloc _).alloc _⟩
  by_cases h2 : 9 < op
  · rw [show l.step op a b text = (Ltr.none, 1) by simp [Ltr.step, h2]]
    change Calls Tryz.prog 90 #[.agg #[.string l.name, .int .i64 l.state, .int .i64 l.amount, .int .i64 l.due, .string l.policy, .string l.papers], .int .i64 op, .int .i64 a, .int .i64 b, .string text] w _
    go_enter Tryz.func90, Tryz.ntmps90
    go_wp2_with (go_at_call 111; refine (ao_ _ _ _).mono ?_; rintro e _ ⟨rfl, rfl⟩)
    exact bodyPost_ret (F_ rfl _ _ (w.heap.size + 1) _ _ _ _ rfl (heap_alloc2_new _ _ _) Tryz.underlying81 rfl (by kernel_rfl)) rfl ⟨rfl, ((Ext.refl _).alloc _).alloc _⟩
  have h3 : ¬ (op < 1 ∨ 9 < op) := by omega
  by_cases hn : ltrNext l.state op = 0
  · rw [show l.step op a b text = (Ltr.none, 8) by simp only [Ltr.step, if_neg h3, if_pos hn]]
    have hnb : (ltrNext l.state op == 0) = true := by simp [hn]
    clear hn h3
    change Calls Tryz.prog 90 #[.agg #[.string l.name, .int .i64 l.state, .int .i64 l.amount, .int .i64 l.due, .string l.policy, .string l.papers], .int .i64 op, .int .i64 a, .int .i64 b, .string text] w _
    go_enter Tryz.func90, Tryz.ntmps90
    go_wp2_with (go_at_call 111; refine (ao_ _ _ _).mono ?_; rintro e _ ⟨rfl, rfl⟩)
    exact bodyPost_ret (F_ rfl _ _ (w.heap.size + 1) _ _ _ _ rfl (heap_alloc2_new _ _ _) Tryz.underlying81 rfl (by kernel_rfl)) rfl ⟨rfl, ((Ext.refl _).alloc _).alloc _⟩
  have hs : l.step op a b text = if (l.does op a b text).2 ≠ 0 then (Ltr.none, (l.does op a b text).2) else ({ (l.does op a b text).1 with state := ltrNext l.state op }, 0) := by
    simp only [Ltr.step, if_neg h3, if_neg hn]
  have hnb : (ltrNext l.state op == 0) = false := by simpa using hn
  rw [hs]
  clear hs hn
  have : op = 1 ∨ op = 2 ∨ op = 3 ∨ op = 4 ∨ op = 5 ∨ op = 6 ∨ op = 7 ∨ op = 8 ∨ op = 9 := by omega
  clear h1 h2 h3
  have HB : Hid (LtrAt ((w.alloc (.cells l.cells 81)).alloc (.cells Ltr.none.cells 81)) w.heap.size l) := Blk.alloc (Blk.new _ _ _) _
  have HR : Hid (LtrAt ((w.alloc (.cells l.cells 81)).alloc (.cells Ltr.none.cells 81)) (w.heap.size + 1) Ltr.none) := by
    have := Blk.new (w.alloc (.cells l.cells 81)) 81 Ltr.none.cells
    rw [World.size_alloc] at this
    exact this
  have hx : Ext [] w ((w.alloc (.cells l.cells 81)).alloc (.cells Ltr.none.cells 81)) := ((Ext.refl _).alloc _).alloc _
  rcases this with rfl | rfl | rfl | rfl | rfl | rfl | rfl | rfl | rfl
  ·
    by_cases hs : 200 < text.size
    · rw [show l.does 1 a b text = (l, 3) by simp [Ltr.does, hs]]
      rw [if_pos (by simp)]
      change Calls Tryz.prog 90 #[.agg #[.string l.name, .int .i64 l.state, .int .i64 l.amount, .int .i64 l.due, .string l.policy, .string l.papers], .int .i64 1, .int .i64 a, .int .i64 b, .string text] w _
      go_enter Tryz.func90, Tryz.ntmps90
      go_wp2_with (go_at_call 111; refine (ao_ _ _ _).mono ?_; rintro e _ ⟨rfl, rfl⟩)
      exact bodyPost_ret (F_ rfl _ _ (w.heap.size + 1) _ _ _ _ rfl (heap_alloc2_new _ _ _) Tryz.underlying81 rfl (by kernel_rfl)) rfl ⟨rfl, ((Ext.refl _).alloc _).alloc _⟩
    · rw [show l.does 1 a b text = l.apply a b text by simp [Ltr.does, hs]]
      have hc := fun w2 => g6_ w2 l a b text
      generalize l.apply a b text = r at *
      obtain ⟨l2, e2⟩ := r
      dsimp only at *
      have HC := Lib.hid hc
      clear hc
      by_cases he : e2 = 0
      · subst he
        rw [if_neg (by simp)]
        change Calls Tryz.prog 90 #[.agg #[.string l.name, .int .i64 l.state, .int .i64 l.amount, .int .i64 l.due, .string l.policy, .string l.papers], .int .i64 1, .int .i64 a, .int .i64 b, .string text] w _
        go_enter Tryz.func90, Tryz.ntmps90
        go_wp2_with (first
          | (go_at_call 111; refine (ao_ _ _ _).mono ?_; rintro e _ ⟨rfl, rfl⟩)
          | ((with_reducible refine b6_ ⟨some 44, _, _, _, _, _⟩ ?_); refine wpList_load_row rfl _ _ rfl w.heap.size rfl _ _ _ _ HB.out Tryz.underlying81 rfl (by kernel_rfl) ?_)
          | (go_at_call 112; refine (HC.out _).mono ?_; rintro e w2 ⟨rfl, x2⟩; have hp2 := Lib.hid (Blk.ext HB.out x2 (by simp)); have hq2 := Lib.hid (Blk.ext HR.out x2 (by simp)))
          | ((with_reducible refine b6_ ⟨none, .store _ (.tmp 5) (.tmp 49), _, _, _, _⟩ ?_); refine ae_ (p := w.heap.size) (l := l) hp2.out l2 rfl _ _ rfl rfl rfl ?_; intro w3 hw3 x3; have g1 := hw3.c1; have f1 := hw3.frozen 1; have h4 := Lib.hid (hw3.setState (ltrNext l.state 1)); have h5 := Lib.hid (Blk.far (Blk.ext hq2.out x3 (by simp)) (p := ⟨w.heap.size, 1, none⟩) (by simp) (.int .i64 (ltrNext l.state 1))))
          | ((with_reducible refine b6_ ⟨some 93, _, _, _, _, _⟩ ?_); refine wpList_load_row rfl _ _ rfl w.heap.size rfl _ _ _ _ h4.out Tryz.underlying81 rfl (by kernel_rfl) ?_)
          | ((with_reducible refine b6_ ⟨none, .store _ (.tmp 10) (.tmp 93), _, _, _, _⟩ ?_); refine ae_ (p := w.heap.size + 1) (l := Ltr.none) h5.out { l2 with state := ltrNext l.state 1 } rfl _ _ rfl rfl rfl ?_; intro w5 hw5 x5))
        exact bodyPost_ret (F_ rfl _ _ (w.heap.size + 1) _ _ _ _ rfl hw5 Tryz.underlying81 rfl (by kernel_rfl)) rfl ⟨rfl, hx.trans (((x2.app x3).setCell (by simp) _).app x5) (by simp)⟩
      · have heb : (e2 != 0) = true := by simpa using he
        rw [if_pos he]
        clear he
        change Calls Tryz.prog 90 #[.agg #[.string l.name, .int .i64 l.state, .int .i64 l.amount, .int .i64 l.due, .string l.policy, .string l.papers], .int .i64 1, .int .i64 a, .int .i64 b, .string text] w _
        go_enter Tryz.func90, Tryz.ntmps90
        go_wp2_with (first
          | (go_at_call 111; refine (ao_ _ _ _).mono ?_; rintro e _ ⟨rfl, rfl⟩)
          | ((with_reducible refine b6_ ⟨some 44, _, _, _, _, _⟩ ?_); refine wpList_load_row rfl _ _ rfl w.heap.size rfl _ _ _ _ HB.out Tryz.underlying81 rfl (by kernel_rfl) ?_)
          | (go_at_call 112; refine (HC.out _).mono ?_; rintro e w2 ⟨rfl, x2⟩; have hp2 := Lib.hid (Blk.ext HB.out x2 (by simp)); have hq2 := Lib.hid (Blk.ext HR.out x2 (by simp)))
          | ((with_reducible refine b6_ ⟨none, .store _ (.tmp 5) (.tmp 49), _, _, _, _⟩ ?_); refine ae_ (p := w.heap.size) (l := l) hp2.out l2 rfl _ _ rfl rfl rfl ?_; intro w3 hw3 x3; have g1 := hw3.c1; have f1 := hw3.frozen 1; have h4 := Lib.hid (hw3.setState (ltrNext l.state 1)); have h5 := Lib.hid (Blk.far (Blk.ext hq2.out x3 (by simp)) (p := ⟨w.heap.size, 1, none⟩) (by simp) (.int .i64 (ltrNext l.state 1))))
          | ((with_reducible refine b6_ ⟨none, .store _ (.tmp 10) (.tmp 89), _, _, _, _⟩ ?_); refine ae_ (p := w.heap.size + 1) (l := Ltr.none) (Blk.ext hq2.out x3 (by simp)) Ltr.none rfl _ _ rfl rfl rfl ?_; intro w5 hw5 x5))
        exact bodyPost_ret (F_ rfl _ _ (w.heap.size + 1) _ _ _ _ rfl hw5 Tryz.underlying81 rfl (by kernel_rfl)) rfl ⟨rfl, hx.trans ((x2.app x3).app x5) (by simp)⟩
  ·
    rw [show l.does 2 a b text = (l, 0) by simp [Ltr.does]]
    rw [if_neg (by simp)]
    change Calls Tryz.prog 90 #[.agg #[.string l.name, .int .i64 l.state, .int .i64 l.amount, .int .i64 l.due, .string l.policy, .string l.papers], .int .i64 2, .int .i64 a, .int .i64 b, .string text] w _
    go_enter Tryz.func90, Tryz.ntmps90
    go_wp2_with (go_at_call 111; refine (ao_ _ _ _).mono ?_; rintro e _ ⟨rfl, rfl⟩)
    exact bodyPost_ret (F_ rfl _ _ (w.heap.size + 1) _ _ _ _ rfl (heap_alloc2_new _ _ _) Tryz.underlying81 rfl (by kernel_rfl)) rfl ⟨rfl, ((Ext.refl _).alloc _).alloc _⟩
  ·
    rw [show l.does 3 a b text = l.amend a b by simp [Ltr.does]]
    have hc := fun w2 => g7_ w2 l a b hl.amount ha
    generalize l.amend a b = r at *
    obtain ⟨l2, e2⟩ := r
    dsimp only at *
    have HC := Lib.hid hc
    clear hc
    by_cases he : e2 = 0
    · subst he
      rw [if_neg (by simp)]
      change Calls Tryz.prog 90 #[.agg #[.string l.name, .int .i64 l.state, .int .i64 l.amount, .int .i64 l.due, .string l.policy, .string l.papers], .int .i64 3, .int .i64 a, .int .i64 b, .string text] w _
      go_enter Tryz.func90, Tryz.ntmps90
      go_wp2_with (first
        | (go_at_call 111; refine (ao_ _ _ _).mono ?_; rintro e _ ⟨rfl, rfl⟩)
        | ((with_reducible refine b6_ ⟨some 55, _, _, _, _, _⟩ ?_); refine wpList_load_row rfl _ _ rfl w.heap.size rfl _ _ _ _ HB.out Tryz.underlying81 rfl (by kernel_rfl) ?_)
        | (go_at_call 113; refine (HC.out _).mono ?_; rintro e w2 ⟨rfl, x2⟩; have hp2 := Lib.hid (Blk.ext HB.out x2 (by simp)); have hq2 := Lib.hid (Blk.ext HR.out x2 (by simp)))
        | ((with_reducible refine b6_ ⟨none, .store _ (.tmp 5) (.tmp 59), _, _, _, _⟩ ?_); refine ae_ (p := w.heap.size) (l := l) hp2.out l2 rfl _ _ rfl rfl rfl ?_; intro w3 hw3 x3; have g1 := hw3.c1; have f1 := hw3.frozen 1; have h4 := Lib.hid (hw3.setState (ltrNext l.state 3)); have h5 := Lib.hid (Blk.far (Blk.ext hq2.out x3 (by simp)) (p := ⟨w.heap.size, 1, none⟩) (by simp) (.int .i64 (ltrNext l.state 3))))
        | ((with_reducible refine b6_ ⟨some 93, _, _, _, _, _⟩ ?_); refine wpList_load_row rfl _ _ rfl w.heap.size rfl _ _ _ _ h4.out Tryz.underlying81 rfl (by kernel_rfl) ?_)
        | ((with_reducible refine b6_ ⟨none, .store _ (.tmp 10) (.tmp 93), _, _, _, _⟩ ?_); refine ae_ (p := w.heap.size + 1) (l := Ltr.none) h5.out { l2 with state := ltrNext l.state 3 } rfl _ _ rfl rfl rfl ?_; intro w5 hw5 x5))
      exact bodyPost_ret (F_ rfl _ _ (w.heap.size + 1) _ _ _ _ rfl hw5 Tryz.underlying81 rfl (by kernel_rfl)) rfl ⟨rfl, hx.trans (((x2.app x3).setCell (by simp) _).app x5) (by simp)⟩
    · have heb : (e2 != 0) = true := by simpa using he
      rw [if_pos he]
      clear he
      change Calls Tryz.prog 90 #[.agg #[.string l.name, .int .i64 l.state, .int .i64 l.amount, .int .i64 l.due, .string l.policy, .string l.papers], .int .i64 3, .int .i64 a, .int .i64 b, .string text] w _
      go_enter Tryz.func90, Tryz.ntmps90
      go_wp2_with (first
        | (go_at_call 111; refine (ao_ _ _ _).mono ?_; rintro e _ ⟨rfl, rfl⟩)
        | ((with_reducible refine b6_ ⟨some 55, _, _, _, _, _⟩ ?_); refine wpList_load_row rfl _ _ rfl w.heap.size rfl _ _ _ _ HB.out Tryz.underlying81 rfl (by kernel_rfl) ?_)
        | (go_at_call 113; refine (HC.out _).mono ?_; rintro e w2 ⟨rfl, x2⟩; have hp2 := Lib.hid (Blk.ext HB.out x2 (by simp)); have hq2 := Lib.hid (Blk.ext HR.out x2 (by simp)))
        | ((with_reducible refine b6_ ⟨none, .store _ (.tmp 5) (.tmp 59), _, _, _, _⟩ ?_); refine ae_ (p := w.heap.size) (l := l) hp2.out l2 rfl _ _ rfl rfl rfl ?_; intro w3 hw3 x3; have g1 := hw3.c1; have f1 := hw3.frozen 1; have h4 := Lib.hid (hw3.setState (ltrNext l.state 3)); have h5 := Lib.hid (Blk.far (Blk.ext hq2.out x3 (by simp)) (p := ⟨w.heap.size, 1, none⟩) (by simp) (.int .i64 (ltrNext l.state 3))))
        | ((with_reducible refine b6_ ⟨none, .store _ (.tmp 10) (.tmp 89), _, _, _, _⟩ ?_); refine ae_ (p := w.heap.size + 1) (l := Ltr.none) (Blk.ext hq2.out x3 (by simp)) Ltr.none rfl _ _ rfl rfl rfl ?_; intro w5 hw5 x5))
      exact bodyPost_ret (F_ rfl _ _ (w.heap.size + 1) _ _ _ _ rfl hw5 Tryz.underlying81 rfl (by kernel_rfl)) rfl ⟨rfl, hx.trans ((x2.app x3).app x5) (by simp)⟩
  ·
    by_cases hs : 200 < text.size
    · rw [show l.does 4 a b text = (l, 3) by simp [Ltr.does, hs]]
      rw [if_pos (by simp)]
      change Calls Tryz.prog 90 #[.agg #[.string l.name, .int .i64 l.state, .int .i64 l.amount, .int .i64 l.due, .string l.policy, .string l.papers], .int .i64 4, .int .i64 a, .int .i64 b, .string text] w _
      go_enter Tryz.func90, Tryz.ntmps90
      go_wp2_with (go_at_call 111; refine (ao_ _ _ _).mono ?_; rintro e _ ⟨rfl, rfl⟩)
      exact bodyPost_ret (F_ rfl _ _ (w.heap.size + 1) _ _ _ _ rfl (heap_alloc2_new _ _ _) Tryz.underlying81 rfl (by kernel_rfl)) rfl ⟨rfl, ((Ext.refl _).alloc _).alloc _⟩
    · rw [show l.does 4 a b text = ({ l with papers := text }, 0) by simp [Ltr.does, hs]]
      rw [if_neg (by simp)]
      change Calls Tryz.prog 90 #[.agg #[.string l.name, .int .i64 l.state, .int .i64 l.amount, .int .i64 l.due, .string l.policy, .string l.papers], .int .i64 4, .int .i64 a, .int .i64 b, .string text] w _
      go_enter Tryz.func90, Tryz.ntmps90
      go_wp2_with (go_at_call 111; refine (ao_ _ _ _).mono ?_; rintro e _ ⟨rfl, rfl⟩)
      exact bodyPost_ret (F_ rfl _ _ (w.heap.size + 1) _ _ _ _ rfl (heap_alloc2_new _ _ _) Tryz.underlying81 rfl (by kernel_rfl)) rfl ⟨rfl, ((Ext.refl _).alloc _).alloc _⟩
  ·
    rw [show l.does 5 a b text = (l, 0) by simp [Ltr.does]]
    rw [if_neg (by simp)]
    change Calls Tryz.prog 90 #[.agg #[.string l.name, .int .i64 l.state, .int .i64 l.amount, .int .i64 l.due, .string l.policy, .string l.papers], .int .i64 5, .int .i64 a, .int .i64 b, .string text] w _
    go_enter Tryz.func90, Tryz.ntmps90
    go_wp2_with (go_at_call 111; refine (ao_ _ _ _).mono ?_; rintro e _ ⟨rfl, rfl⟩)
    exact bodyPost_ret (F_ rfl _ _ (w.heap.size + 1) _ _ _ _ rfl (heap_alloc2_new _ _ _) Tryz.underlying81 rfl (by kernel_rfl)) rfl ⟨rfl, ((Ext.refl _).alloc _).alloc _⟩
  ·
    rw [show l.does 6 a b text = ({ l with papers := ByteArray.empty }, 0) by simp [Ltr.does]]
    rw [if_neg (by simp)]
    change Calls Tryz.prog 90 #[.agg #[.string l.name, .int .i64 l.state, .int .i64 l.amount, .int .i64 l.due, .string l.policy, .string l.papers], .int .i64 6, .int .i64 a, .int .i64 b, .string text] w _
    go_enter Tryz.func90, Tryz.ntmps90
    go_wp2_with (go_at_call 111; refine (ao_ _ _ _).mono ?_; rintro e _ ⟨rfl, rfl⟩)
    exact bodyPost_ret (F_ rfl _ _ (w.heap.size + 1) _ _ _ _ rfl (heap_alloc2_new _ _ _) Tryz.underlying81 rfl (by kernel_rfl)) rfl ⟨rfl, ((Ext.refl _).alloc _).alloc _⟩
  ·
    rw [show l.does 7 a b text = (l, 0) by simp [Ltr.does]]
    rw [if_neg (by simp)]
    change Calls Tryz.prog 90 #[.agg #[.string l.name, .int .i64 l.state, .int .i64 l.amount, .int .i64 l.due, .string l.policy, .string l.papers], .int .i64 7, .int .i64 a, .int .i64 b, .string text] w _
    go_enter Tryz.func90, Tryz.ntmps90
    go_wp2_with (go_at_call 111; refine (ao_ _ _ _).mono ?_; rintro e _ ⟨rfl, rfl⟩)
    exact bodyPost_ret (F_ rfl _ _ (w.heap.size + 1) _ _ _ _ rfl (heap_alloc2_new _ _ _) Tryz.underlying81 rfl (by kernel_rfl)) rfl ⟨rfl, ((Ext.refl _).alloc _).alloc _⟩
  ·
    cases hd : isAmt a
    · rw [show l.does 8 a b text = (l, 5) by simp [Ltr.does, Ltr.expire, hd]]
      rw [if_pos (by simp)]
      have HD := Lib.hid hd; clear hd
      change Calls Tryz.prog 90 #[.agg #[.string l.name, .int .i64 l.state, .int .i64 l.amount, .int .i64 l.due, .string l.policy, .string l.papers], .int .i64 8, .int .i64 a, .int .i64 b, .string text] w _
      go_enter Tryz.func90, Tryz.ntmps90
      go_wp2_with (first
        | (go_at_call 111; refine (ao_ _ _ _).mono ?_; rintro e _ ⟨rfl, rfl⟩)
        | (go_at_call 56; with_reducible refine (bl_ a _ HD.out _).mono ?_; rintro e _ ⟨rfl, rfl⟩))
      exact bodyPost_ret (F_ rfl _ _ (w.heap.size + 1) _ _ _ _ rfl (heap_alloc2_new _ _ _) Tryz.underlying81 rfl (by kernel_rfl)) rfl ⟨rfl, ((Ext.refl _).alloc _).alloc _⟩
    · by_cases hlt : a < l.due
      · rw [show l.does 8 a b text = (l, 8) by simp [Ltr.does, Ltr.expire, hd, hlt]]
        rw [if_pos (by simp)]
        have HD := Lib.hid hd; clear hd
        change Calls Tryz.prog 90 #[.agg #[.string l.name, .int .i64 l.state, .int .i64 l.amount, .int .i64 l.due, .string l.policy, .string l.papers], .int .i64 8, .int .i64 a, .int .i64 b, .string text] w _
        go_enter Tryz.func90, Tryz.ntmps90
        go_wp2_with (first
          | (go_at_call 111; refine (ao_ _ _ _).mono ?_; rintro e _ ⟨rfl, rfl⟩)
          | (go_at_call 56; with_reducible refine (bl_ a _ HD.out _).mono ?_; rintro e _ ⟨rfl, rfl⟩))
        exact bodyPost_ret (F_ rfl _ _ (w.heap.size + 1) _ _ _ _ rfl (heap_alloc2_new _ _ _) Tryz.underlying81 rfl (by kernel_rfl)) rfl ⟨rfl, ((Ext.refl _).alloc _).alloc _⟩
      · rw [show l.does 8 a b text = (l, 0) by simp [Ltr.does, Ltr.expire, hd, hlt]]
        rw [if_neg (by simp)]
        have HD := Lib.hid hd; clear hd
        change Calls Tryz.prog 90 #[.agg #[.string l.name, .int .i64 l.state, .int .i64 l.amount, .int .i64 l.due, .string l.policy, .string l.papers], .int .i64 8, .int .i64 a, .int .i64 b, .string text] w _
        go_enter Tryz.func90, Tryz.ntmps90
        go_wp2_with (first
          | (go_at_call 111; refine (ao_ _ _ _).mono ?_; rintro e _ ⟨rfl, rfl⟩)
          | (go_at_call 56; with_reducible refine (bl_ a _ HD.out _).mono ?_; rintro e _ ⟨rfl, rfl⟩))
        exact bodyPost_ret (F_ rfl _ _ (w.heap.size + 1) _ _ _ _ rfl (heap_alloc2_new _ _ _) Tryz.underlying81 rfl (by kernel_rfl)) rfl ⟨rfl, ((Ext.refl _).alloc _).alloc _⟩
  ·
    rw [show l.does 9 a b text = (l, 0) by simp [Ltr.does]]
    rw [if_neg (by simp)]
    change Calls Tryz.prog 90 #[.agg #[.string l.name, .int .i64 l.state, .int .i64 l.amount, .int .i64 l.due, .string l.policy, .string l.papers], .int .i64 9, .int .i64 a, .int .i64 b, .string text] w _
    go_enter Tryz.func90, Tryz.ntmps90
    go_wp2_with (go_at_call 111; refine (ao_ _ _ _).mono ?_; rintro e _ ⟨rfl, rfl⟩)
    exact bodyPost_ret (F_ rfl _ _ (w.heap.size + 1) _ _ _ _ rfl (heap_alloc2_new _ _ _) Tryz.underlying81 rfl (by kernel_rfl)) rfl ⟨rfl, ((Ext.refl _).alloc _).alloc _⟩
end Go.Proofs.YtickdhjljpnlpaaGreatDoor
namespace Go.Proofs.YtickdhjljpnlpaaGreatDoor.A
open Go.RowKit
section
variable {K : List Nat} {w : World} {vals : List Value}
theorem br_ {us : List Value} (hv : reps K w (us.map .v) vals) : vals = us := av_.1 hv
theorem jL_ {x : Ltr} : rep K w (.agg (ltrA x)) (.agg x.cells) := ⟨x.cells.toList, by simp, by
  have := (av_ (K := K) (w := w) (us := x.cells.toList)).2 rfl
  exact this⟩
theorem hY_ {x : Ltr} {us : List Value} (hv : reps K w (.agg (ltrA x) :: us.map .v) vals) : vals = .agg x.cells :: us := by
  obtain ⟨v, us', rfl, ⟨cs, rfl, h1⟩, h2⟩ := hv
  have h1 : cs = x.cells.toList := av_.1 (show reps K w (x.cells.toList.map .v) cs from h1)
  rw [h1, av_.1 h2]
theorem h2_ {s : ByteArray} : Pure Tryz.prog 67 [st s] (boo (nameB s)) := Pure.of2 fun K w vals hK hv => by
  rw [br_ (us := [.string s]) hv]
  exact (h3_ (enter2 w K)).mono fun e w' ⟨he, hm⟩ => ⟨_, he, leave2 hm (by simp), rfl⟩
theorem f4_ {s : ByteArray} (hs : s.size ≤ maxLen) : Pure Tryz.prog 55 [st s] (boo (nameB s)) := Pure.of2 fun K w vals hK hv => by
  rw [br_ (us := [.string s]) hv]
  exact (f5_ (enter2 w K) hs).mono fun e w' ⟨he, hm⟩ => ⟨_, he, leave2 hm (by simp), rfl⟩
theorem lots_max : lots ≤ maxLen := of_decide_eq_true (by kernel_rfl)
theorem jn_ {s : ByteArray} (hs : s.size ≤ lots) : Pure Tryz.prog 55 [st s] (boo (nameB s)) := f4_ (Nat.le_trans hs lots_max)
theorem mis_s {a : Int} (h : i64ok a) : Pure Tryz.prog 81 [int a] (boo (isAmt a)) := Pure.of2 fun K w vals hK hv => by
  rw [br_ (us := [.int .i64 a]) hv]
  exact (aZ_ a _ rfl w h.1 h.2).mono fun e w' ⟨he, hw⟩ => by subst hw; exact ⟨_, he, Ext.refl _, rfl⟩
theorem rmis_s {a : Int} : Pure Tryz.prog 31 [int a] (boo (isAmt a)) := Pure.of2 fun K w vals hK hv => by
  rw [br_ (us := [.int .i64 a]) hv]
  exact (bu_ a _ rfl w).mono fun e w' ⟨he, hw⟩ => by subst hw; exact ⟨_, he, Ext.refl _, rfl⟩
theorem rday_s {a : Int} : Pure Tryz.prog 56 [int a] (boo (isAmt a)) := Pure.of2 fun K w vals hK hv => by
  rw [br_ (us := [.int .i64 a]) hv]
  exact (bl_ a _ rfl w).mono fun e w' ⟨he, hw⟩ => by subst hw; exact ⟨_, he, Ext.refl _, rfl⟩
theorem hJ_ {a b : Int} : rep K w (.tup [int a, int b]) (.tuple #[.int .i64 a, .int .i64 b]) := ⟨[_, _], rfl, _, _, rfl, rfl, _, _, rfl, rfl, rfl⟩
theorem hX_ {a b : Int} (h : i64ok a) (h2 : i64ok b) : Pure Tryz.prog 104 [int a, int b] (.tup [int (amtAdd a b).1, int (amtAdd a b).2]) := Pure.of2 fun K w vals hK hv => by
  rw [br_ (us := [.int .i64 a, .int .i64 b]) hv]
  exact (eh_ a b w h.1 h.2 h2.1 h2.2).mono fun e w' ⟨he, hw⟩ => by subst hw; exact ⟨_, he, Ext.refl _, hJ_⟩
theorem rmadd_s {a b : Int} (h : i64ok a) (h2 : i64ok b) : Pure Tryz.prog 92 [int a, int b] (.tup [int (amtAdd a b).1, int (amtAdd a b).2]) := Pure.of2 fun K w vals hK hv => by
  rw [br_ (us := [.int .i64 a, .int .i64 b]) hv]
  exact (jr_ a b w h.1 h.2 h2.1 h2.2).mono fun e w' ⟨he, hw⟩ => by subst hw; exact ⟨_, he, Ext.refl _, hJ_⟩
theorem step_s {x : Ltr} {op a b : Int} {t : ByteArray} (hl : x.Wf) (ha : i64ok a) (ht : t.size ≤ 9223372036854775807) : Pure Tryz.prog 102 [.agg (ltrA x), int op, int a, int b, st t] (.tup [.agg (ltrA (x.step op a b t).1), int (x.step op a b t).2]) := Pure.of2 fun K w vals hK hv => by
  rw [hY_ (us := [.int .i64 op, .int .i64 a, .int .i64 b, .string t]) hv]
  exact (hg_ w x op a b t hl ha ht).mono fun e w' ⟨he, hw⟩ => ⟨_, he, hw, ⟨[_, _], rfl, _, _, rfl, jL_, _, _, rfl, rfl, rfl⟩⟩
theorem rstep_s {x : Ltr} {op a b : Int} {t : ByteArray} (hl : x.Wf) (ha : i64ok a) (ht : t.size ≤ 9223372036854775807) : Pure Tryz.prog 90 [.agg (ltrA x), int op, int a, int b, st t] (.tup [.agg (ltrA (x.step op a b t).1), int (x.step op a b t).2]) := Pure.of2 fun K w vals hK hv => by
  rw [hY_ (us := [.int .i64 op, .int .i64 a, .int .i64 b, .string t]) hv]
  exact (ix_ w x op a b t hl ha ht).mono fun e w' ⟨he, hw⟩ => ⟨_, he, hw, ⟨[_, _], rfl, _, _, rfl, jL_, _, _, rfl, rfl, rfl⟩⟩
end
def Rds (σ : Blks) : Prop := ∀ x ∈ σ, (∃ b t cs, x = .rd b t cs) ∨ ∃ c, x = .rdpc c
theorem Rds.reads {σ τ : Blks} (h : Rds τ) (hs : ∀ x ∈ τ, x ∈ σ) : Reads σ τ := by
  induction τ with
  | nil => exact .nil
  | cons x τ ih =>
    have h1 := ih (fun y hy => h y (List.mem_cons_of_mem _ hy)) (fun y hy => hs y (List.mem_cons_of_mem _ hy))
    have hx := hs x List.mem_cons_self
    rcases h x List.mem_cons_self with ⟨b, t, cs, rfl⟩ | ⟨c, rfl⟩
    · exact .rd hx h1
    · exact .rdpc hx h1
end Go.Proofs.YtickdhjljpnlpaaGreatDoor.A
