/-
  Layer 10: what a step of a letter does: the program and the document.
-/
import Derived.Test.YtdbeinbgekdnmaaLetter
set_option maxRecDepth 100000
namespace Go.Proofs.Ytdbeinbgekdnmaa
open Go.RowKit

/-! ### What a step does beside the state -/
def Ltr.apply (l : Ltr) (a b : Int) (text : ByteArray) : Ltr × Int :=
  if a < 1 then (l, 5) else if isAmt a = false then (l, 6) else if isAmt b = false then (l, 5) else (⟨l.name, 0, a, b, text, ByteArray.empty⟩, 0)
def Ltr.amend (l : Ltr) (a b : Int) : Ltr × Int :=
  if (amtChange l.amount a).2 ≠ 0 then (l, (amtChange l.amount a).2)
  else if (amtChange l.amount a).1 = 0 ∨ isAmt b = false then (l, 5)
  else ({ l with amount := (amtChange l.amount a).1, due := if b ≠ 0 then b else l.due }, 0)
def Ltr.expire (l : Ltr) (a : Int) : Int := if isAmt a = false then 5 else if a < l.due then 8 else 0
def Ltr.does (l : Ltr) (op a b : Int) (text : ByteArray) : Ltr × Int :=
  if (op = 1 ∨ op = 4) ∧ 200 < text.size then (l, 3)
  else if op = 1 then l.apply a b text
  else if op = 3 then l.amend a b
  else if op = 4 then ({ l with papers := text }, 0)
  else if op = 6 then ({ l with papers := ByteArray.empty }, 0)
  else if op = 8 then (l, l.expire a)
  else (l, 0)
def Ltr.step (l : Ltr) (op a b : Int) (text : ByteArray) : Ltr × Int :=
  if op < 1 ∨ 9 < op then (Ltr.none, 1)
  else if ltrNext l.state op = 0 then (Ltr.none, 8)
  else if (l.does op a b text).2 ≠ 0 then (Ltr.none, (l.does op a b text).2)
  else ({ (l.does op a b text).1 with state := ltrNext l.state op }, 0)
def i64ok (a : Int) : Prop := -9223372036854775808 ≤ a ∧ a ≤ 9223372036854775807
structure Ltr.Wf (l : Ltr) : Prop where
  state : i64ok l.state
  amount : i64ok l.amount
  due : i64ok l.due

theorem letter_day (a : Int) (b : Bool) (hb : isAmt a = b) (w : World) :
    Calls Try.prog 158 #[.int .i64 a] w fun e w' => e = .returned (.bool b) ∧ w = w' := by
  by_cases h : 0 ≤ a
  · by_cases h2 : a ≤ 1099511627776
    · obtain rfl : true = b := by rw [← hb, isAmt_mk h h2]
      go_enter Try.func158, Try.ntmps158
      go_wp2
      go_ret
      exact ⟨rfl, rfl⟩
    · obtain rfl : false = b := by rw [← hb]; simp [isAmt]; omega
      go_enter Try.func158, Try.ntmps158
      go_wp2
      go_ret
      exact ⟨rfl, rfl⟩
  · obtain rfl : false = b := by rw [← hb]; simp [isAmt]; omega
    go_enter Try.func158, Try.ntmps158
    go_wp2
    go_ret
    exact ⟨rfl, rfl⟩

theorem ref10_Day (a : Int) (b : Bool) (hb : isAmt a = b) (w : World) :
    Calls Try.prog 82 #[.int .i64 a] w fun e w' => e = .returned (.bool b) ∧ w = w' := by
  by_cases h : 0 ≤ a
  · by_cases h2 : a ≤ 1099511627776
    · obtain rfl : true = b := by rw [← hb, isAmt_mk h h2]
      go_enter Try.func82, Try.ntmps82
      go_wp2
      go_ret
      exact ⟨rfl, rfl⟩
    · obtain rfl : false = b := by rw [← hb]; simp [isAmt]; omega
      go_enter Try.func82, Try.ntmps82
      go_wp2
      go_ret
      exact ⟨rfl, rfl⟩
  · obtain rfl : false = b := by rw [← hb]; simp [isAmt]; omega
    go_enter Try.func82, Try.ntmps82
    go_wp2
    go_ret
    exact ⟨rfl, rfl⟩

/-- The letter in a block. -/
def LtrAt (w : World) (p : Nat) (l : Ltr) : Prop := Blk w p 56 l.cells
section
variable {w : World} {p : Nat} {l : Ltr}
theorem LtrAt.setState (h : LtrAt w p l) (s : Int) : LtrAt (w.setCell ⟨p, 1, none⟩ (.int .i64 s)) p { l with state := s } := Blk.set_ h 1 _
theorem Ltr.one (l : Ltr) : l.cells.all (·.oneCell') = true := Array.all_eq_true_iff_forall_mem.2 (fun v hv => by
  simp [Ltr.cells] at hv
  rcases hv with rfl | rfl | rfl | rfl | rfl | rfl <;> rfl)
theorem wpList_store_ltr {ops : Array Oper} {rest : List Oper} {o : Oper} {a : Act} {Q : Exit → Act → World → Prop} (h : LtrAt w p l) (l' : Ltr) (hg : o.guard = none) (x y : Operand) (ho : o.op = .store 56 x y)
    (hx : a.eval x = .pointer (some ⟨p, 0, none⟩)) (hy : a.eval y = .agg l'.cells) (k : ∀ w', LtrAt w' p l' → Ext [p] w w' → wpList Try.prog ops Q rest (a.put o.dst undef) w') : wpList Try.prog ops Q (o :: rest) a w :=
  wpList_store_row hg 56 x y ho p l'.cells hx hy 56 l.cells h (by kernel_rfl) rfl (Ltr.one l') (k _ (Blk.setRow h _) ((Ext.refl _).setRow (by simp) _))
theorem LtrAt.c0 (h : LtrAt w p l) : w.cell? ⟨p, 0, none⟩ = some (.string l.name) := by have := Blk.cell h 0; simpa [Ltr.cells] using this
theorem LtrAt.c1 (h : LtrAt w p l) : w.cell? ⟨p, 1, none⟩ = some (.int .i64 l.state) := by have := Blk.cell h 1; simpa [Ltr.cells] using this
theorem LtrAt.c2 (h : LtrAt w p l) : w.cell? ⟨p, 2, none⟩ = some (.int .i64 l.amount) := by have := Blk.cell h 2; simpa [Ltr.cells] using this
theorem LtrAt.c3 (h : LtrAt w p l) : w.cell? ⟨p, 3, none⟩ = some (.int .i64 l.due) := by have := Blk.cell h 3; simpa [Ltr.cells] using this
theorem LtrAt.c4 (h : LtrAt w p l) : w.cell? ⟨p, 4, none⟩ = some (.string l.policy) := by have := Blk.cell h 4; simpa [Ltr.cells] using this
theorem LtrAt.c5 (h : LtrAt w p l) : w.cell? ⟨p, 5, none⟩ = some (.string l.papers) := by have := Blk.cell h 5; simpa [Ltr.cells] using this
end

theorem letter_apply (w : World) (p : Nat) (l : Ltr) (a b : Int) (text : ByteArray) (h : LtrAt w p l) (ha : i64ok a) :
    Calls Try.prog 123 #[.pointer (some ⟨p, 0, none⟩), .int .i64 a, .int .i64 b, .string text] w fun e w' => e = .returned (.int .i64 (l.apply a b text).2) ∧ LtrAt w' p (l.apply a b text).1 ∧ Ext [p] w w' := by
  obtain ⟨a0, a1⟩ := ha
  have c0 := h.c0
  have H := Lib.hid h; clear h
  by_cases h1 : a < 1
  · rw [show l.apply a b text = (l, 5) by simp [Ltr.apply, h1]]
    go_enter Try.func123, Try.ntmps123
    go_wp2
    go_ret
    exact ⟨rfl, H.out, Ext.refl _⟩
  cases h2 : isAmt a
  · rw [show l.apply a b text = (l, 6) by simp [Ltr.apply, h1, h2]]
    have H2 := Lib.hid h2; clear h2
    go_enter Try.func123, Try.ntmps123
    go_wp2_with (go_at_call 27; with_reducible refine (money_Is a _ H2.out _ (by omega) (by omega)).mono ?_; rintro e _ ⟨rfl, rfl⟩)
    go_ret
    exact ⟨rfl, H.out, Ext.refl _⟩
  have H2 := Lib.hid h2
  cases h3 : isAmt b
  · rw [show l.apply a b text = (l, 5) by simp [Ltr.apply, h2, h3]]
    have H3 := Lib.hid h3; clear h3 h2
    go_enter Try.func123, Try.ntmps123
    go_wp2_with (first
      | (go_at_call 27; with_reducible refine (money_Is a _ H2.out _ (by omega) (by omega)).mono ?_; rintro e _ ⟨rfl, rfl⟩)
      | (go_at_call 158; with_reducible refine (letter_day b _ H3.out _).mono ?_; rintro e _ ⟨rfl, rfl⟩))
    go_ret
    exact ⟨rfl, H.out, Ext.refl _⟩
  rw [show l.apply a b text = (⟨l.name, 0, a, b, text, ByteArray.empty⟩, 0) by simp [Ltr.apply, h1, h2, h3]]
  have H3 := Lib.hid h3; clear h3 h2
  go_enter Try.func123, Try.ntmps123
  go_wp2_with (first
    | (go_at_call 27; with_reducible refine (money_Is a _ H2.out _ (by omega) (by omega)).mono ?_; rintro e _ ⟨rfl, rfl⟩)
    | (go_at_call 158; with_reducible refine (letter_day b _ H3.out _).mono ?_; rintro e _ ⟨rfl, rfl⟩)
    | ((with_reducible refine at_op ⟨none, _, _, _, _, _⟩ ?_); refine wpList_store_ltr H.out ⟨l.name, 0, a, b, text, ByteArray.empty⟩ rfl _ _ rfl rfl rfl ?_; intro w1 hw1 x1))
  go_ret
  exact ⟨rfl, hw1, x1⟩


theorem letter_amend (w : World) (p : Nat) (l : Ltr) (a b : Int) (h : LtrAt w p l) (hl : i64ok l.amount) (ha : i64ok a) :
    Calls Try.prog 124 #[.pointer (some ⟨p, 0, none⟩), .int .i64 a, .int .i64 b] w fun e w' => e = .returned (.int .i64 (l.amend a b).2) ∧ LtrAt w' p (l.amend a b).1 ∧ Ext [p] w w' := by
  obtain ⟨a0, a1⟩ := ha
  obtain ⟨l0, l1⟩ := hl
  have c2 := h.c2
  have c3 := h.c3
  have f2 := h.frozen 2
  have f3 := h.frozen 3
  have H := Lib.hid h; clear h
  by_cases he : (amtChange l.amount a).2 = 0
  · have hb : ((amtChange l.amount a).2 != 0) = false := by simp [he]
    by_cases hv : (amtChange l.amount a).1 = 0
    · rw [show l.amend a b = (l, 5) by simp [Ltr.amend, he, hv]]
      have hvb : ((amtChange l.amount a).1 == 0) = true := by simp [hv]
      clear he hv
      go_enter Try.func124, Try.ntmps124
      go_wp2_with (go_at_call 25; refine (money_Change _ _ _ l0 l1 a0 a1).mono ?_; rintro e _ ⟨rfl, rfl⟩)
      go_ret
      exact ⟨rfl, H.out, Ext.refl _⟩
    · have hvb : ((amtChange l.amount a).1 == 0) = false := by simpa using hv
      cases hd : isAmt b
      · rw [show l.amend a b = (l, 5) by simp [Ltr.amend, he, hd]]
        have HD := Lib.hid hd
        clear he hv hd
        go_enter Try.func124, Try.ntmps124
        go_wp2_with (first
          | (go_at_call 25; refine (money_Change _ _ _ l0 l1 a0 a1).mono ?_; rintro e _ ⟨rfl, rfl⟩)
          | (go_at_call 158; with_reducible refine (letter_day b _ HD.out _).mono ?_; rintro e _ ⟨rfl, rfl⟩))
        go_ret
        exact ⟨rfl, H.out, Ext.refl _⟩
      · by_cases h0 : b = 0
        · subst h0
          rw [show l.amend a 0 = ({ l with amount := (amtChange l.amount a).1 }, 0) by simp [Ltr.amend, he, hd, hv]]
          have HD := Lib.hid hd
          clear he hv hd
          go_enter Try.func124, Try.ntmps124
          go_wp2_with (first
            | (go_at_call 25; refine (money_Change _ _ _ l0 l1 a0 a1).mono ?_; rintro e _ ⟨rfl, rfl⟩)
            | (go_at_call 158; with_reducible refine (letter_day 0 _ HD.out _).mono ?_; rintro e _ ⟨rfl, rfl⟩))
          go_ret
          exact ⟨rfl, Blk.set_ H.out 2 _, (Ext.refl _).setCell (by simp) _⟩
        · have h0b : (b != 0) = true := by simpa using h0
          rw [show l.amend a b = ({ l with amount := (amtChange l.amount a).1, due := b }, 0) by simp [Ltr.amend, he, hd, hv, h0]]
          have HD := Lib.hid hd
          clear he hv hd h0
          go_enter Try.func124, Try.ntmps124
          go_wp2_with (first
            | (go_at_call 25; refine (money_Change _ _ _ l0 l1 a0 a1).mono ?_; rintro e _ ⟨rfl, rfl⟩)
            | (go_at_call 158; with_reducible refine (letter_day b _ HD.out _).mono ?_; rintro e _ ⟨rfl, rfl⟩))
          go_ret
          exact ⟨rfl, Blk.set_ (Blk.set_ H.out 3 (.int .i64 b)) 2 _, ((Ext.refl _).setCell (by simp) _).setCell (by simp) _⟩
  · have hb : ((amtChange l.amount a).2 != 0) = true := by simpa using he
    rw [show l.amend a b = (l, (amtChange l.amount a).2) by simp [Ltr.amend, he]]
    clear he
    go_enter Try.func124, Try.ntmps124
    go_wp2_with (go_at_call 25; refine (money_Change _ _ _ l0 l1 a0 a1).mono ?_; rintro e _ ⟨rfl, rfl⟩)
    go_ret
    exact ⟨rfl, H.out, Ext.refl _⟩


theorem letter_expire (w : World) (p : Nat) (l : Ltr) (a : Int) (h : LtrAt w p l) :
    Calls Try.prog 125 #[.pointer (some ⟨p, 0, none⟩), .int .i64 a] w fun e w' => e = .returned (.int .i64 (l.expire a)) ∧ w = w' := by
  have c3 := h.c3
  have H := Lib.hid h; clear h
  cases hd : isAmt a
  · rw [show l.expire a = 5 by simp [Ltr.expire, hd]]
    have HD := Lib.hid hd; clear hd
    go_enter Try.func125, Try.ntmps125
    go_wp2_with (go_at_call 158; with_reducible refine (letter_day a _ HD.out _).mono ?_; rintro e _ ⟨rfl, rfl⟩)
    go_ret
    exact ⟨rfl, rfl⟩
  · by_cases hlt : a < l.due
    · rw [show l.expire a = 8 by simp [Ltr.expire, hd, hlt]]
      have HD := Lib.hid hd; clear hd
      go_enter Try.func125, Try.ntmps125
      go_wp2_with (go_at_call 158; with_reducible refine (letter_day a _ HD.out _).mono ?_; rintro e _ ⟨rfl, rfl⟩)
      go_ret
      exact ⟨rfl, rfl⟩
    · rw [show l.expire a = 0 by simp [Ltr.expire, hd, hlt]]
      have HD := Lib.hid hd; clear hd
      go_enter Try.func125, Try.ntmps125
      go_wp2_with (go_at_call 158; with_reducible refine (letter_day a _ HD.out _).mono ?_; rintro e _ ⟨rfl, rfl⟩)
      go_ret
      exact ⟨rfl, rfl⟩


theorem letter_does (w : World) (p : Nat) (l : Ltr) (op a b : Int) (text : ByteArray) (h : LtrAt w p l) (hl : i64ok l.amount) (ha : i64ok a) (hop : 1 ≤ op) (hop9 : op ≤ 9) (ht : text.size ≤ 9223372036854775807) :
    Calls Try.prog 79 #[.pointer (some ⟨p, 0, none⟩), .int .i64 op, .int .i64 a, .int .i64 b, .string text] w fun e w' => e = .returned (.int .i64 (l.does op a b text).2) ∧ LtrAt w' p (l.does op a b text).1 ∧ Ext [p] w w' := by
  have c5 := h.c5
  have f5 := h.frozen 5
  have H := Lib.hid h; clear h
  have : op = 1 ∨ op = 2 ∨ op = 3 ∨ op = 4 ∨ op = 5 ∨ op = 6 ∨ op = 7 ∨ op = 8 ∨ op = 9 := by omega
  clear hop hop9
  rcases this with rfl | rfl | rfl | rfl | rfl | rfl | rfl | rfl | rfl
  · by_cases hs : 200 < text.size
    · rw [show l.does 1 a b text = (l, 3) by simp [Ltr.does, hs]]
      go_enter Try.func79, Try.ntmps79
      go_wp2
      go_ret
      exact ⟨rfl, H.out, Ext.refl _⟩
    · rw [show l.does 1 a b text = l.apply a b text by simp [Ltr.does, hs]]
      go_enter Try.func79, Try.ntmps79
      go_wp2_with (go_at_call 123; refine (letter_apply _ _ _ _ _ _ H.out ha).mono ?_; rintro e w1 ⟨rfl, h1, x1⟩)
      go_ret
      exact ⟨rfl, h1, x1⟩
  · rw [show l.does 2 a b text = (l, 0) by simp [Ltr.does]]
    go_enter Try.func79, Try.ntmps79
    go_wp2
    go_ret
    exact ⟨rfl, H.out, Ext.refl _⟩
  · rw [show l.does 3 a b text = l.amend a b by simp [Ltr.does]]
    go_enter Try.func79, Try.ntmps79
    go_wp2_with (go_at_call 124; refine (letter_amend _ _ _ _ _ H.out hl ha).mono ?_; rintro e w1 ⟨rfl, h1, x1⟩)
    go_ret
    exact ⟨rfl, h1, x1⟩
  · by_cases hs : 200 < text.size
    · rw [show l.does 4 a b text = (l, 3) by simp [Ltr.does, hs]]
      go_enter Try.func79, Try.ntmps79
      go_wp2
      go_ret
      exact ⟨rfl, H.out, Ext.refl _⟩
    · rw [show l.does 4 a b text = ({ l with papers := text }, 0) by simp [Ltr.does, hs]]
      go_enter Try.func79, Try.ntmps79
      go_wp2
      go_ret
      exact ⟨rfl, Blk.set_ H.out 5 _, (Ext.refl _).setCell (by simp) _⟩
  · rw [show l.does 5 a b text = (l, 0) by simp [Ltr.does]]
    go_enter Try.func79, Try.ntmps79
    go_wp2
    go_ret
    exact ⟨rfl, H.out, Ext.refl _⟩
  · rw [show l.does 6 a b text = ({ l with papers := ByteArray.empty }, 0) by simp [Ltr.does]]
    go_enter Try.func79, Try.ntmps79
    go_wp2
    go_ret
    exact ⟨rfl, Blk.set_ H.out 5 _, (Ext.refl _).setCell (by simp) _⟩
  · rw [show l.does 7 a b text = (l, 0) by simp [Ltr.does]]
    go_enter Try.func79, Try.ntmps79
    go_wp2
    go_ret
    exact ⟨rfl, H.out, Ext.refl _⟩
  · rw [show l.does 8 a b text = (l, l.expire a) by simp [Ltr.does]]
    go_enter Try.func79, Try.ntmps79
    go_wp2_with (go_at_call 125; refine (letter_expire _ _ _ _ H.out).mono ?_; rintro e _ ⟨rfl, rfl⟩)
    go_ret
    exact ⟨rfl, H.out, Ext.refl _⟩
  · rw [show l.does 9 a b text = (l, 0) by simp [Ltr.does]]
    go_enter Try.func79, Try.ntmps79
    go_wp2
    go_ret
    exact ⟨rfl, H.out, Ext.refl _⟩
end Go.Proofs.Ytdbeinbgekdnmaa
