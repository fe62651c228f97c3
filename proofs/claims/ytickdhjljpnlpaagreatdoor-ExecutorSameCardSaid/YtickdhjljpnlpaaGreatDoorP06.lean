/-
  Packed out of the texts: LetterDo, LetterStep, Oc, Idx, Names, Cores, ACor, EntD, Led, LetterRef, LedW, Rds, FrmS.
-/
import Derived.Test.YtickdhjljpnlpaaGreatDoorP05
import Derived.Sort.Walk0
/-
  Layer 10: what a step of a letter does: the program and the document.
-/
set_option maxRecDepth 100000
namespace Go.Proofs.YtickdhjljpnlpaaGreatDoor
open Go.RowKit

/-! ### What a step does beside the state -/
def Ltr.apply (l : Ltr) (a b : Int) (text : ByteArray) : Ltr × Int :=
  if a < 1 then (l, 5) else if isAmt a = false then (l, 6) else if isAmt b = false then (l, 5) else (⟨l.name, 0, a, b, text, ByteArray.empty⟩, 0)
def Ltr.amend (l : Ltr) (a b : Int) : Ltr × Int :=
  if (amtChange l.amount a).2 ≠ 0 then (l, (amtChange l.amount a).2)
  else if (amtChange l.amount a).1 = 0 ∨ isAmt b = false then (l, 5)
  else ({ l with amount := (amtChange l.amount a).1, due := if b ≠ 0 then b else l.due }, 0)
def Ltr.expire (l : Ltr) (a : Int) : Int := if isAmt a = false then 5 else if a < l.due then 8 else 0
def Ltr.does (l : Ltr) (op a b : Int) (text : ByteArray) : Ltr × Int :=
  if (op = 1 ∨ op = 4) ∧ 200 < text.size then (l, 3)
  else if op = 1 then l.apply a b text
  else if op = 3 then l.amend a b
  else if op = 4 then ({ l with papers := text }, 0)
  else if op = 6 then ({ l with papers := ByteArray.empty }, 0)
  else if op = 8 then (l, l.expire a)
  else (l, 0)
def Ltr.step (l : Ltr) (op a b : Int) (text : ByteArray) : Ltr × Int :=
  if op < 1 ∨ 9 < op then (Ltr.none, 1)
  else if ltrNext l.state op = 0 then (Ltr.none, 8)
  else if (l.does op a b text).2 ≠ 0 then (Ltr.none, (l.does op a b text).2)
  else ({ (l.does op a b text).1 with state := ltrNext l.state op }, 0)
def i64ok (a : Int) : Prop := -9223372036854775808 ≤ a ∧ a ≤ 9223372036854775807
structure Ltr.Wf (l : Ltr) : Prop where
  state : i64ok l.state
  amount : i64ok l.amount
  due : i64ok l.due

theorem letter_day (a : Int) (b : Bool) (hb : isAmt a = b) (w : World) :
    Calls Tryz.prog 160 #[.int .i64 a] w fun e w' => e = .returned (.bool b) ∧ w = w' := by
  by_cases h : 0 ≤ a
  · by_cases h2 : a ≤ 1099511627776
    · obtain rfl : true = b := by rw [← hb, isAmt_mk h h2]
      go_enter Tryz.func160, Tryz.ntmps160
      go_wp2
      go_ret
      exact ⟨rfl, rfl⟩
    · obtain rfl : false = b := by rw [← hb]; simp [isAmt]; omega
      go_enter Tryz.func160, Tryz.ntmps160
      go_wp2
      go_ret
      exact ⟨rfl, rfl⟩
  · obtain rfl : false = b := by rw [← hb]; simp [isAmt]; omega
    go_enter Tryz.func160, Tryz.ntmps160
    go_wp2
    go_ret
    exact ⟨rfl, rfl⟩

/-- The letter in a block. -/
def LtrAt (w : World) (p : Nat) (l : Ltr) : Prop := Blk w p 81 l.cells
section
variable {w : World} {p : Nat} {l : Ltr}
theorem LtrAt.setState (h : LtrAt w p l) (s : Int) : LtrAt (w.setCell ⟨p, 1, none⟩ (.int .i64 s)) p { l with state := s } := Blk.set_ h 1 _
theorem Ltr.one (l : Ltr) : l.cells.all (·.oneCell') = true := Array.all_eq_true_iff_forall_mem.2 (fun v hv => by
  simp [Ltr.cells] at hv
  rcases hv with rfl | rfl | rfl | rfl | rfl | rfl <;> rfl)
theorem wpList_store_ltr {ops : Array Oper} {rest : List Oper} {o : Oper} {a : Act} {Q : Exit → Act → World → Prop} (h : LtrAt w p l) (l' : Ltr) (hg : o.guard = none) (x y : Operand) (ho : o.op = .store 81 x y)
    (hx : a.eval x = .pointer (some ⟨p, 0, none⟩)) (hy : a.eval y = .agg l'.cells) (k : ∀ w', LtrAt w' p l' → Ext [p] w w' → wpList Tryz.prog ops Q rest (a.put o.dst undef) w') : wpList Tryz.prog ops Q (o :: rest) a w :=
  wpList_store_row hg 81 x y ho p l'.cells hx hy 81 l.cells h (by kernel_rfl) rfl (Ltr.one l') (k _ (Blk.setRow h _) ((Ext.refl _).setRow (by simp) _))
theorem LtrAt.c0 (h : LtrAt w p l) : w.cell? ⟨p, 0, none⟩ = some (.string l.name) := by have := Blk.cell h 0; simpa [Ltr.cells] using this
theorem LtrAt.c1 (h : LtrAt w p l) : w.cell? ⟨p, 1, none⟩ = some (.int .i64 l.state) := by have := Blk.cell h 1; simpa [Ltr.cells] using this
theorem LtrAt.c2 (h : LtrAt w p l) : w.cell? ⟨p, 2, none⟩ = some (.int .i64 l.amount) := by have := Blk.cell h 2; simpa [Ltr.cells] using this
theorem LtrAt.c3 (h : LtrAt w p l) : w.cell? ⟨p, 3, none⟩ = some (.int .i64 l.due) := by have := Blk.cell h 3; simpa [Ltr.cells] using this
theorem LtrAt.c4 (h : LtrAt w p l) : w.cell? ⟨p, 4, none⟩ = some (.string l.policy) := by have := Blk.cell h 4; simpa [Ltr.cells] using this
theorem LtrAt.c5 (h : LtrAt w p l) : w.cell? ⟨p, 5, none⟩ = some (.string l.papers) := by have := Blk.cell h 5; simpa [Ltr.cells] using this
end

theorem letter_apply (w : World) (p : Nat) (l : Ltr) (a b : Int) (text : ByteArray) (h : LtrAt w p l) (ha : i64ok a) :
    Calls Tryz.prog 145 #[.pointer (some ⟨p, 0, none⟩), .int .i64 a, .int .i64 b, .string text] w fun e w' => e = .returned (.int .i64 (l.apply a b text).2) ∧ LtrAt w' p (l.apply a b text).1 ∧ Ext [p] w w' := by
  obtain ⟨a0, a1⟩ := ha
  have c0 := h.c0
  have H := Lib.hid h; clear h
  by_cases h1 : a < 1
  · rw [show l.apply a b text = (l, 5) by simp [Ltr.apply, h1]]
    go_enter Tryz.func145, Tryz.ntmps145
    go_wp2
    go_ret
    exact ⟨rfl, H.out, Ext.refl _⟩
  cases h2 : isAmt a
  · rw [show l.apply a b text = (l, 6) by simp [Ltr.apply, h1, h2]]
    have H2 := Lib.hid h2; clear h2
    go_enter Tryz.func145, Tryz.ntmps145
    go_wp2_with (go_at_call 81; with_reducible refine (money_Is a _ H2.out _ (by omega) (by omega)).mono ?_; rintro e _ ⟨rfl, rfl⟩)
    go_ret
    exact ⟨rfl, H.out, Ext.refl _⟩
  have H2 := Lib.hid h2
  cases h3 : isAmt b
  · rw [show l.apply a b text = (l, 5) by simp [Ltr.apply, h2, h3]]
    have H3 := Lib.hid h3; clear h3 h2
    go_enter Tryz.func145, Tryz.ntmps145
    go_wp2_with (first
      | (go_at_call 81; with_reducible refine (money_Is a _ H2.out _ (by omega) (by omega)).mono ?_; rintro e _ ⟨rfl, rfl⟩)
      | (go_at_call 160; with_reducible refine (letter_day b _ H3.out _).mono ?_; rintro e _ ⟨rfl, rfl⟩))
    go_ret
    exact ⟨rfl, H.out, Ext.refl _⟩
  rw [show l.apply a b text = (⟨l.name, 0, a, b, text, ByteArray.empty⟩, 0) by simp [Ltr.apply, h1, h2, h3]]
  have H3 := Lib.hid h3; clear h3 h2
  go_enter Tryz.func145, Tryz.ntmps145
  go_wp2_with (first
    | (go_at_call 81; with_reducible refine (money_Is a _ H2.out _ (by omega) (by omega)).mono ?_; rintro e _ ⟨rfl, rfl⟩)
    | (go_at_call 160; with_reducible refine (letter_day b _ H3.out _).mono ?_; rintro e _ ⟨rfl, rfl⟩)
    | ((with_reducible refine at_op ⟨none, _, _, _, _, _⟩ ?_); refine wpList_store_ltr H.out ⟨l.name, 0, a, b, text, ByteArray.empty⟩ rfl _ _ rfl rfl rfl ?_; intro w1 hw1 x1))
  go_ret
  exact ⟨rfl, hw1, x1⟩


theorem letter_amend (w : World) (p : Nat) (l : Ltr) (a b : Int) (h : LtrAt w p l) (hl : i64ok l.amount) (ha : i64ok a) :
    Calls Tryz.prog 146 #[.pointer (some ⟨p, 0, none⟩), .int .i64 a, .int .i64 b] w fun e w' => e = .returned (.int .i64 (l.amend a b).2) ∧ LtrAt w' p (l.amend a b).1 ∧ Ext [p] w w' := by
  obtain ⟨a0, a1⟩ := ha
  obtain ⟨l0, l1⟩ := hl
  have c2 := h.c2
  have c3 := h.c3
  have f2 := h.frozen 2
  have f3 := h.frozen 3
  have H := Lib.hid h; clear h
  by_cases he : (amtChange l.amount a).2 = 0
  · have hb : ((amtChange l.amount a).2 != 0) = false := by simp [he]
    by_cases hv : (amtChange l.amount a).1 = 0
    · rw [show l.amend a b = (l, 5) by simp [Ltr.amend, he, hv]]
      have hvb : ((amtChange l.amount a).1 == 0) = true := by simp [hv]
      clear he hv
      go_enter Tryz.func146, Tryz.ntmps146
      go_wp2_with (go_at_call 161; refine (money_Change _ _ _ l0 l1 a0 a1).mono ?_; rintro e _ ⟨rfl, rfl⟩)
      go_ret
      exact ⟨rfl, H.out, Ext.refl _⟩
    · have hvb : ((amtChange l.amount a).1 == 0) = false := by simpa using hv
      cases hd : isAmt b
      · rw [show l.amend a b = (l, 5) by simp [Ltr.amend, he, hd]]
        have HD := Lib.hid hd
        clear he hv hd
        go_enter Tryz.func146, Tryz.ntmps146
        go_wp2_with (first
          | (go_at_call 161; refine (money_Change _ _ _ l0 l1 a0 a1).mono ?_; rintro e _ ⟨rfl, rfl⟩)
          | (go_at_call 160; with_reducible refine (letter_day b _ HD.out _).mono ?_; rintro e _ ⟨rfl, rfl⟩))
        go_ret
        exact ⟨rfl, H.out, Ext.refl _⟩
      · by_cases h0 : b = 0
        · subst h0
          rw [show l.amend a 0 = ({ l with amount := (amtChange l.amount a).1 }, 0) by simp [Ltr.amend, he, hd, hv]]
          have HD := Lib.hid hd
          clear he hv hd
          go_enter Tryz.func146, Tryz.ntmps146
          go_wp2_with (first
            | (go_at_call 161; refine (money_Change _ _ _ l0 l1 a0 a1).mono ?_; rintro e _ ⟨rfl, rfl⟩)
            | (go_at_call 160; with_reducible refine (letter_day 0 _ HD.out _).mono ?_; rintro e _ ⟨rfl, rfl⟩))
          go_ret
          exact ⟨rfl, Blk.set_ H.out 2 _, (Ext.refl _).setCell (by simp) _⟩
        · have h0b : (b != 0) = true := by simpa using h0
          rw [show l.amend a b = ({ l with amount := (amtChange l.amount a).1, due := b }, 0) by simp [Ltr.amend, he, hd, hv, h0]]
          have HD := Lib.hid hd
          clear he hv hd h0
          go_enter Tryz.func146, Tryz.ntmps146
          go_wp2_with (first
            | (go_at_call 161; refine (money_Change _ _ _ l0 l1 a0 a1).mono ?_; rintro e _ ⟨rfl, rfl⟩)
            | (go_at_call 160; with_reducible refine (letter_day b _ HD.out _).mono ?_; rintro e _ ⟨rfl, rfl⟩))
          go_ret
          exact ⟨rfl, Blk.set_ (Blk.set_ H.out 3 (.int .i64 b)) 2 _, ((Ext.refl _).setCell (by simp) _).setCell (by simp) _⟩
  · have hb : ((amtChange l.amount a).2 != 0) = true := by simpa using he
    rw [show l.amend a b = (l, (amtChange l.amount a).2) by simp [Ltr.amend, he]]
    clear he
    go_enter Tryz.func146, Tryz.ntmps146
    go_wp2_with (go_at_call 161; refine (money_Change _ _ _ l0 l1 a0 a1).mono ?_; rintro e _ ⟨rfl, rfl⟩)
    go_ret
    exact ⟨rfl, H.out, Ext.refl _⟩


theorem letter_expire (w : World) (p : Nat) (l : Ltr) (a : Int) (h : LtrAt w p l) :
    Calls Tryz.prog 147 #[.pointer (some ⟨p, 0, none⟩), .int .i64 a] w fun e w' => e = .returned (.int .i64 (l.expire a)) ∧ w = w' := by
  have c3 := h.c3
  have H := Lib.hid h; clear h
  cases hd : isAmt a
  · rw [show l.expire a = 5 by simp [Ltr.expire, hd]]
    have HD := Lib.hid hd; clear hd
    go_enter Tryz.func147, Tryz.ntmps147
    go_wp2_with (go_at_call 160; with_reducible refine (letter_day a _ HD.out _).mono ?_; rintro e _ ⟨rfl, rfl⟩)
    go_ret
    exact ⟨rfl, rfl⟩
  · by_cases hlt : a < l.due
    · rw [show l.expire a = 8 by simp [Ltr.expire, hd, hlt]]
      have HD := Lib.hid hd; clear hd
      go_enter Tryz.func147, Tryz.ntmps147
      go_wp2_with (go_at_call 160; with_reducible refine (letter_day a _ HD.out _).mono ?_; rintro e _ ⟨rfl, rfl⟩)
      go_ret
      exact ⟨rfl, rfl⟩
    · rw [show l.expire a = 0 by simp [Ltr.expire, hd, hlt]]
      have HD := Lib.hid hd; clear hd
      go_enter Tryz.func147, Tryz.ntmps147
      go_wp2_with (go_at_call 160; with_reducible refine (letter_day a _ HD.out _).mono ?_; rintro e _ ⟨rfl, rfl⟩)
      go_ret
      exact ⟨rfl, rfl⟩


theorem letter_does (w : World) (p : Nat) (l : Ltr) (op a b : Int) (text : ByteArray) (h : LtrAt w p l) (hl : i64ok l.amount) (ha : i64ok a) (hop : 1 ≤ op) (hop9 : op ≤ 9) (ht : text.size ≤ 9223372036854775807) :
    Calls Tryz.prog 123 #[.pointer (some ⟨p, 0, none⟩), .int .i64 op, .int .i64 a, .int .i64 b, .string text] w fun e w' => e = .returned (.int .i64 (l.does op a b text).2) ∧ LtrAt w' p (l.does op a b text).1 ∧ Ext [p] w w' := by
  have c5 := h.c5
  have f5 := h.frozen 5
  have H := Lib.hid h; clear h
  have : op = 1 ∨ op = 2 ∨ op = 3 ∨ op = 4 ∨ op = 5 ∨ op = 6 ∨ op = 7 ∨ op = 8 ∨ op = 9 := by omega
  clear hop hop9
  rcases this with rfl | rfl | rfl | rfl | rfl | rfl | rfl | rfl | rfl
  · by_cases hs : 200 < text.size
    · rw [show l.does 1 a b text = (l, 3) by simp [Ltr.does, hs]]
      go_enter Tryz.func123, Tryz.ntmps123
      go_wp2
      go_ret
      exact ⟨rfl, H.out, Ext.refl _⟩
    · rw [show l.does 1 a b text = l.apply a b text by simp [Ltr.does, hs]]
      go_enter Tryz.func123, Tryz.ntmps123
      go_wp2_with (go_at_call 145; refine (letter_apply _ _ _ _ _ _ H.out ha).mono ?_; rintro e w1 ⟨rfl, h1, x1⟩)
      go_ret
      exact ⟨rfl, h1, x1⟩
  · rw [show l.does 2 a b text = (l, 0) by simp [Ltr.does]]
    go_enter Tryz.func123, Tryz.ntmps123
    go_wp2
    go_ret
    exact ⟨rfl, H.out, Ext.refl _⟩
  · rw [show l.does 3 a b text = l.amend a b by simp [Ltr.does]]
    go_enter Tryz.func123, Tryz.ntmps123
    go_wp2_with (go_at_call 146; refine (letter_amend _ _ _ _ _ H.out hl ha).mono ?_; rintro e w1 ⟨rfl, h1, x1⟩)
    go_ret
    exact ⟨rfl, h1, x1⟩
  · by_cases hs : 200 < text.size
    · rw [show l.does 4 a b text = (l, 3) by simp [Ltr.does, hs]]
      go_enter Tryz.func123, Tryz.ntmps123
      go_wp2
      go_ret
      exact ⟨rfl, H.out, Ext.refl _⟩
    · rw [show l.does 4 a b text = ({ l with papers := text }, 0) by simp [Ltr.does, hs]]
      go_enter Tryz.func123, Tryz.ntmps123
      go_wp2
      go_ret
      exact ⟨rfl, Blk.set_ H.out 5 _, (Ext.refl _).setCell (by simp) _⟩
  · rw [show l.does 5 a b text = (l, 0) by simp [Ltr.does]]
    go_enter Tryz.func123, Tryz.ntmps123
    go_wp2
    go_ret
    exact ⟨rfl, H.out, Ext.refl _⟩
  · rw [show l.does 6 a b text = ({ l with papers := ByteArray.empty }, 0) by simp [Ltr.does]]
    go_enter Tryz.func123, Tryz.ntmps123
    go_wp2
    go_ret
    exact ⟨rfl, Blk.set_ H.out 5 _, (Ext.refl _).setCell (by simp) _⟩
  · rw [show l.does 7 a b text = (l, 0) by simp [Ltr.does]]
    go_enter Tryz.func123, Tryz.ntmps123
    go_wp2
    go_ret
    exact ⟨rfl, H.out, Ext.refl _⟩
  · rw [show l.does 8 a b text = (l, l.expire a) by simp [Ltr.does]]
    go_enter Tryz.func123, Tryz.ntmps123
    go_wp2_with (go_at_call 147; refine (letter_expire _ _ _ _ H.out).mono ?_; rintro e _ ⟨rfl, rfl⟩)
    go_ret
    exact ⟨rfl, H.out, Ext.refl _⟩
  · rw [show l.does 9 a b text = (l, 0) by simp [Ltr.does]]
    go_enter Tryz.func123, Tryz.ntmps123
    go_wp2
    go_ret
    exact ⟨rfl, H.out, Ext.refl _⟩
end Go.Proofs.YtickdhjljpnlpaaGreatDoor
/-
  Layer 10: a step of a letter: the program.
-/
namespace Go.Proofs.YtickdhjljpnlpaaGreatDoor
open Go.RowKit

theorem letter_Step (w : World) (l : Ltr) (op a b : Int) (text : ByteArray) (hl : l.Wf) (ha : i64ok a) (ht : text.size ≤ 9223372036854775807) :
    Calls Tryz.prog 102 #[.agg l.cells, .int .i64 op, .int .i64 a, .int .i64 b, .string text] w fun e w' => e = .returned (.tuple #[.agg (l.step op a b text).1.cells, .int .i64 (l.step op a b text).2]) ∧ Ext [] w w' := by
  have hbox : LtrAt ((w.alloc (.cells l.cells 81)).alloc (.cells Ltr.none.cells 81)) w.heap.size l := Blk.alloc (Blk.new _ _ _) _
  have hres : LtrAt ((w.alloc (.cells l.cells 81)).alloc (.cells Ltr.none.cells 81)) (w.heap.size + 1) Ltr.none := by
    have := Blk.new (w.alloc (.cells l.cells 81)) 81 Ltr.none.cells
    rw [World.size_alloc] at this
    exact this
  have hx : Ext [] w ((w.alloc (.cells l.cells 81)).alloc (.cells Ltr.none.cells 81)) := ((Ext.refl _).alloc _).alloc _
  have k1 : l.cells[1]? = some (.int .i64 l.state) := rfl
  have HB := Lib.hid hbox
  have HR := Lib.hid hres
  clear hbox hres
  by_cases h1 : op < 1
  · rw [show l.step op a b text = (Ltr.none, 1) by simp [Ltr.step, h1]]
    go_enter Tryz.func102, Tryz.ntmps102
    go_wp2
    exact bodyPost_ret (results_row_tmp rfl _ _ (w.heap.size + 1) _ _ _ _ rfl HR.out Tryz.underlying81 rfl (by kernel_rfl)) rfl ⟨rfl, hx⟩
  by_cases h2 : 9 < op
  · rw [show l.step op a b text = (Ltr.none, 1) by simp [Ltr.step, h2]]
    go_enter Tryz.func102, Tryz.ntmps102
    go_wp2
    exact bodyPost_ret (results_row_tmp rfl _ _ (w.heap.size + 1) _ _ _ _ rfl HR.out Tryz.underlying81 rfl (by kernel_rfl)) rfl ⟨rfl, hx⟩
  have h3 : ¬ (op < 1 ∨ 9 < op) := by omega
  by_cases hn : ltrNext l.state op = 0
  · rw [show l.step op a b text = (Ltr.none, 8) by simp only [Ltr.step, if_neg h3, if_pos hn]]
    have hnb : (ltrNext l.state op == 0) = true := by simp [hn]
    clear hn h3
    go_enter Tryz.func102, Tryz.ntmps102
    go_wp2_with (first
      | (go_at_call 122; refine (letter_Next _ _ _).mono ?_; rintro e w2 ⟨rfl, x2⟩)
      | ((with_reducible refine at_op ⟨none, .store _ (.tmp 10) _, _, _, _, _⟩ ?_); refine wpList_store_ltr (Blk.ext HR.out x2 (by simp)) Ltr.none rfl _ _ rfl rfl rfl ?_; intro w3 hw3 x3))
    exact bodyPost_ret (results_row_tmp rfl _ _ (w.heap.size + 1) _ _ _ _ rfl hw3 Tryz.underlying81 rfl (by kernel_rfl)) rfl ⟨rfl, hx.trans (x2.app x3) (by simp)⟩
  have hnb : (ltrNext l.state op == 0) = false := by simpa using hn
  have hd := fun w2 (hb : LtrAt w2 w.heap.size l) => letter_does w2 w.heap.size l op a b text hb hl.amount ha (by omega) (by omega) ht
  by_cases he : (l.does op a b text).2 = 0
  · rw [show l.step op a b text = ({ (l.does op a b text).1 with state := ltrNext l.state op }, 0) by simp only [Ltr.step, if_neg h3, if_neg hn, he, ne_eq, not_true_eq_false, if_false]]
    have heb : ((l.does op a b text).2 != 0) = false := by simp [he]
    clear hn h3 he
    generalize l.does op a b text = r at *
    obtain ⟨l2, e2⟩ := r
    dsimp only at *
    have HD := Lib.hid hd
    clear hd
    go_enter Tryz.func102, Tryz.ntmps102
    go_wp2_with (first
      | (go_at_call 122; refine (letter_Next _ _ _).mono ?_; rintro e w2 ⟨rfl, x2⟩)
      | (go_at_call 123; refine (HD.out _ (Blk.ext HB.out x2 (by simp))).mono ?_; rintro e w3 ⟨rfl, h3, x3⟩; have g1 := h3.c1; have f1 := h3.frozen 1; have h4 := Lib.hid (h3.setState (ltrNext l.state op)); have h5 := Lib.hid (Blk.far (Blk.ext (Blk.ext HR.out x2 (by simp)) x3 (by simp)) (p := ⟨w.heap.size, 1, none⟩) (by simp) (.int .i64 (ltrNext l.state op))))
      | ((with_reducible refine at_op ⟨some 39, _, _, _, _, _⟩ ?_); refine wpList_load_row rfl _ _ rfl w.heap.size rfl _ _ _ _ h4.out Tryz.underlying81 rfl (by kernel_rfl) ?_)
      | ((with_reducible refine at_op ⟨none, .store _ (.tmp 10) (.tmp 39), _, _, _, _⟩ ?_); refine wpList_store_ltr (p := w.heap.size + 1) (l := Ltr.none) h5.out { l2 with state := ltrNext l.state op } rfl _ _ rfl rfl rfl ?_; intro w5 hw5 x5))
    exact bodyPost_ret (results_row_tmp rfl _ _ (w.heap.size + 1) _ _ _ _ rfl hw5 Tryz.underlying81 rfl (by kernel_rfl)) rfl ⟨rfl, hx.trans (((x2.app x3).setCell (by simp) _).app x5) (by simp <;> omega)⟩
  · rw [show l.step op a b text = (Ltr.none, (l.does op a b text).2) by simp only [Ltr.step, if_neg h3, if_neg hn, he, ne_eq, not_false_eq_true, if_true]]
    have heb : ((l.does op a b text).2 != 0) = true := by simpa using he
    clear hn h3 he
    generalize l.does op a b text = r at *
    obtain ⟨l2, e2⟩ := r
    dsimp only at *
    have HD := Lib.hid hd
    clear hd
    go_enter Tryz.func102, Tryz.ntmps102
    go_wp2_with (first
      | (go_at_call 122; refine (letter_Next _ _ _).mono ?_; rintro e w2 ⟨rfl, x2⟩)
      | (go_at_call 123; refine (HD.out _ (Blk.ext HB.out x2 (by simp))).mono ?_; rintro e w3 ⟨rfl, h3, x3⟩)
      | ((with_reducible refine at_op ⟨none, .store _ (.tmp 10) _, _, _, _, _⟩ ?_); refine wpList_store_ltr (Blk.ext (Blk.ext HR.out x2 (by simp)) x3 (by simp)) Ltr.none rfl _ _ rfl rfl rfl ?_; intro w4 hw4 x4))
    exact bodyPost_ret (results_row_tmp rfl _ _ (w.heap.size + 1) _ _ _ _ rfl hw4 Tryz.underlying81 rfl (by kernel_rfl)) rfl ⟨rfl, hx.trans ((x2.app x3).app x4) (by simp <;> omega)⟩
end Go.Proofs.YtickdhjljpnlpaaGreatDoor
/-
  Outcomes, plain.
-/
set_option linter.unusedSimpArgs false
set_option linter.unusedVariables false
namespace Go.Proofs.YtickdhjljpnlpaaGreatDoor.A
open Go.RowKit

/-- An outcome. -/
structure Oc where
  client : Int
  stamp : Int
  result : Int
def Oc.abs (o : Oc) : List Abs := [int o.client, int o.stamp, int o.result]
def outA (l : List Oc) : Abs := .sl 3 (l.map Oc.abs)
theorem ocs_ones (l : List Oc) : ∀ c ∈ l.map Oc.abs, ones c = true := by
  intro c hc
  obtain ⟨o, _, rfl⟩ := List.mem_map.1 hc
  rfl
end Go.Proofs.YtickdhjljpnlpaaGreatDoor.A
/-
  Places in rows, plain.
-/
namespace Go.Proofs.YtickdhjljpnlpaaGreatDoor.A
open Go.RowKit

/-- The place of the first one, or -1. -/
def IdxOf {α : Type} (p : α → Bool) (xs : List α) (r : Int) : Prop := (r = -1 ∧ ∀ x ∈ xs, p x = false) ∨ ∃ i, ∃ h : i < xs.length, r = (i : Nat) ∧ p xs[i] = true ∧ ∀ j (hj : j < i), p (xs[j]'(by omega)) = false
/-- The same, as a number. -/
theorem IdxOf.eq {α : Type} {p : α → Bool} : ∀ {xs : List α} {r : Int}, IdxOf p xs r → r = if xs.any p then ((xs.findIdx p : Nat) : Int) else -1 := fun {xs r} h => by
  rcases h with ⟨rfl, h⟩ | ⟨i, hi, rfl, h1, h2⟩
  · rw [if_neg]
    rw [Bool.not_eq_true, List.any_eq_false]
    intro x hx
    rw [h x hx]; decide
  · rw [if_pos (List.any_eq_true.2 ⟨_, List.getElem_mem hi, h1⟩)]
    refine congrArg Int.ofNat (Eq.symm ?_)
    rw [List.findIdx_eq hi]
    exact ⟨h1, fun j hj => h2 j hj⟩
end Go.Proofs.YtickdhjljpnlpaaGreatDoor.A
/-
  Names of letters, and cores that may be: the program's and the document's, over the engine.
-/
namespace Go.Proofs.YtickdhjljpnlpaaGreatDoor
open Go.RowKit

/-- A letter of a name. -/
def nameC (c : Nat) : Bool := (decide (97 ≤ c) && decide (c ≤ 122)) || (decide (48 ≤ c) && decide (c ≤ 57)) || decide (c = 45)
def nameB (s : ByteArray) : Bool := s.data.toList.all (fun c => nameC c.toNat) && decide (1 ≤ s.size) && decide (s.size ≤ 16)
section
variable {S : List (World × List Nat)} {σ τ : Blks} {ρ : List Dt} {w : World}
theorem all_at {s : ByteArray} {k : Nat} (h : k < s.size) (hb : nameC (s[k]'h).toNat = false) : s.data.toList.all (fun c => nameC c.toNat) = false := by
  rw [List.all_eq_false]
  refine ⟨s[k]'h, ?_, by rw [hb]; decide⟩
  have : s[k]'h = s.data.toList[k]'(by simpa using h) := rfl
  rw [this]
  exact List.getElem_mem _
theorem all_all {s : ByteArray} (hp : ∀ j (hj : j < s.size), nameC (s[j]'hj).toNat = true) : s.data.toList.all (fun c => nameC c.toNat) = true := by
  rw [List.all_eq_true]
  intro c hc
  obtain ⟨j, hj, rfl⟩ := List.getElem_of_mem hc
  exact hp j (by simpa using hj)

theorem odd_c {r : Nat} (hw : Mem S σ ρ w) : Calls Tryz.prog 97 #[.int .i32 r] w fun e w' => e = .returned (.bool (!nameC r)) ∧ Mem S σ ρ w' := by
  refine calls_of [.int .i32 r] Tryz.func97 rfl Tryz.ntmps97 rfl (Mem S σ ρ) hw ?_
  refine SC.seq (SC.region ?_)
  refine SL.val (Val.assign rfl) rfl rfl ?_
  refine SL.nil (SE.seq ?_)
  refine SC.seq (SC.region ?_)
  refine SL.val (Val.move rfl) rfl rfl ?_
  refine SL.val (Val.ltI rfl rfl) rfl rfl ?_
  refine SL.val (Val.move rfl) rfl rfl ?_
  refine SL.bothP (t := 5) rfl ?_ ?_
  · intro hc5
    iterate 2 refine SL.skip rfl rfl ?_
    refine SL.val (Val.pickT rfl rfl) rfl rfl ?_
    iterate 2 refine SL.val (Val.move rfl) rfl rfl ?_
    refine SL.val (Val.ltI rfl rfl) rfl rfl ?_
    refine SL.val (Val.move rfl) rfl rfl ?_
    refine SL.bothP (t := 12) rfl ?_ ?_
    · intro hc12
      iterate 2 refine SL.skip rfl rfl ?_
      refine SL.val (Val.pickT rfl rfl) rfl rfl ?_
      refine SL.val (Val.pickT rfl rfl) rfl rfl ?_
      iterate 2 refine SL.val (Val.move rfl) rfl rfl ?_
      refine SL.val (Val.neI rfl rfl) rfl rfl ?_
      refine SL.val (Val.pickT rfl rfl) rfl rfl ?_
      refine SL.val (Val.assign rfl) rfl rfl ?_
      refine SL.nil (SE.seq ?_)
      refine SC.ret ?_
      refine SE.ret1 rfl rfl ?_
      intro w' hw'
      refine ⟨?_, hw'⟩
      congr 2
      rw [Bool.eq_iff_iff]
      simp [nameC]
      omega
    intro hc12
    refine SL.val (Val.move rfl) rfl rfl ?_
    refine SL.val (Val.gtI rfl rfl) rfl rfl ?_
    refine SL.val (Val.pickF rfl rfl) rfl rfl ?_
    refine SL.val (Val.pickT rfl rfl) rfl rfl ?_
    refine SL.val (Val.move rfl) rfl rfl ?_
    refine SL.bothP (t := 17) rfl ?_ ?_
    · intro hc17
      refine SL.val (Val.move rfl) rfl rfl ?_
      refine SL.val (Val.neI rfl rfl) rfl rfl ?_
      refine SL.val (Val.pickT rfl rfl) rfl rfl ?_
      refine SL.val (Val.assign rfl) rfl rfl ?_
      refine SL.nil (SE.seq ?_)
      refine SC.ret ?_
      refine SE.ret1 rfl rfl ?_
      intro w' hw'
      refine ⟨?_, hw'⟩
      congr 2
      rw [Bool.eq_iff_iff]
      simp [nameC]
      omega
    intro hc17
    iterate 2 refine SL.skip rfl rfl ?_
    refine SL.val (Val.pickF rfl rfl) rfl rfl ?_
    refine SL.val (Val.assign rfl) rfl rfl ?_
    refine SL.nil (SE.seq ?_)
    refine SC.ret ?_
    refine SE.ret1 rfl rfl ?_
    intro w' hw'
    refine ⟨?_, hw'⟩
    congr 2
    rw [Bool.eq_iff_iff]
    simp [nameC]
    omega
  intro hc5
  refine SL.val (Val.move rfl) rfl rfl ?_
  refine SL.val (Val.gtI rfl rfl) rfl rfl ?_
  refine SL.val (Val.pickF rfl rfl) rfl rfl ?_
  refine SL.val (Val.move rfl) rfl rfl ?_
  refine SL.bothP (t := 9) rfl ?_ ?_
  rotate_left
  · intro hc9
    iterate 6 refine SL.skip rfl rfl ?_
    refine SL.val (Val.pickF rfl rfl) rfl rfl ?_
    refine SL.val (Val.move rfl) rfl rfl ?_
    iterate 2 refine SL.skip rfl rfl ?_
    refine SL.val (Val.pickF rfl rfl) rfl rfl ?_
    refine SL.val (Val.assign rfl) rfl rfl ?_
    refine SL.nil (SE.seq ?_)
    refine SC.ret ?_
    refine SE.ret1 rfl rfl ?_
    intro w' hw'
    refine ⟨?_, hw'⟩
    congr 2
    rw [Bool.eq_iff_iff]
    simp [nameC]
    omega
  intro hc9
  refine SL.val (Val.move rfl) rfl rfl ?_
  refine SL.val (Val.ltI rfl rfl) rfl rfl ?_
  refine SL.val (Val.move rfl) rfl rfl ?_
  refine SL.bothP (t := 12) rfl ?_ ?_
  · intro hc12
    iterate 2 refine SL.skip rfl rfl ?_
    refine SL.val (Val.pickT rfl rfl) rfl rfl ?_
    refine SL.val (Val.pickT rfl rfl) rfl rfl ?_
    iterate 2 refine SL.val (Val.move rfl) rfl rfl ?_
    refine SL.val (Val.neI rfl rfl) rfl rfl ?_
    refine SL.val (Val.pickT rfl rfl) rfl rfl ?_
    refine SL.val (Val.assign rfl) rfl rfl ?_
    refine SL.nil (SE.seq ?_)
    refine SC.ret ?_
    refine SE.ret1 rfl rfl ?_
    intro w' hw'
    refine ⟨?_, hw'⟩
    congr 2
    rw [Bool.eq_iff_iff]
    simp [nameC]
    omega
  intro hc12
  refine SL.val (Val.move rfl) rfl rfl ?_
  refine SL.val (Val.gtI rfl rfl) rfl rfl ?_
  refine SL.val (Val.pickF rfl rfl) rfl rfl ?_
  refine SL.val (Val.pickT rfl rfl) rfl rfl ?_
  refine SL.val (Val.move rfl) rfl rfl ?_
  refine SL.bothP (t := 17) rfl ?_ ?_
  · intro hc17
    refine SL.val (Val.move rfl) rfl rfl ?_
    refine SL.val (Val.neI rfl rfl) rfl rfl ?_
    refine SL.val (Val.pickT rfl rfl) rfl rfl ?_
    refine SL.val (Val.assign rfl) rfl rfl ?_
    refine SL.nil (SE.seq ?_)
    refine SC.ret ?_
    refine SE.ret1 rfl rfl ?_
    intro w' hw'
    refine ⟨?_, hw'⟩
    congr 2
    rw [Bool.eq_iff_iff]
    simp [nameC]
    omega
  intro hc17
  iterate 2 refine SL.skip rfl rfl ?_
  refine SL.val (Val.pickF rfl rfl) rfl rfl ?_
  refine SL.val (Val.assign rfl) rfl rfl ?_
  refine SL.nil (SE.seq ?_)
  refine SC.ret ?_
  refine SE.ret1 rfl rfl ?_
  intro w' hw'
  refine ⟨?_, hw'⟩
  congr 2
  rw [Bool.eq_iff_iff]
  simp [nameC]
  omega

set_option maxHeartbeats 400000 in
theorem indexOdd_c {s : ByteArray} (hw : Mem S σ ρ w) (_hs : s.size ≤ 16) : Calls Tryz.prog 132 #[.string s, .func (.func 97) #[] #[], .bool true] w fun e w' => ∃ r : Int, e = .returned (.int .i64 r) ∧ (0 ≤ r ↔ s.data.toList.all (fun c => nameC c.toNat) = false) ∧ Mem S σ ρ w' := by
  refine calls_of [.string s, .func (.func 97) #[] #[], .bool true] Tryz.func132 rfl Tryz.ntmps132 rfl (Mem S σ ρ) hw ?_
  refine SC.seq (SC.region ?_)
  refine SL.val (Val.assign rfl) rfl rfl ?_
  refine SL.nil (SE.seq ?_)
  refine SC.seq ?_
  refine SC.seq (SC.region ?_)
  refine SL.val (Val.move rfl) rfl rfl ?_
  refine SL.eff (Eff.rangeSt rfl Tryz.underlying9) rfl rfl ?_
  rintro _ _ ⟨b10, rfl, rfl⟩
  refine SL.nil (SE.seq ?_)
  refine SC.block ?_
  refine SC.loop (ι := Nat) (fun k => [(1, .func (.func 97) #[] #[]), (2, .bool true), (10, .pointer (some ⟨b10, 0, none⟩))]) (fun k w' => (k ≤ s.size ∧ ∀ j (hj : j < s.size), j < k → nameC (s[j]'hj).toNat = true) ∧ Mem S (.blk b10 (.stringIter s k) :: σ) ρ w') (fun k => s.size - k) 0 (by exact ⟨rfl, rfl, rfl, trivial⟩) (fun w' hw' => ⟨⟨Nat.zero_le _, fun j hj h => by omega⟩, hw'⟩) ?_
  intro k
  refine SC.facts ?_
  rintro ⟨hk, hp⟩
  by_cases hlt : k < s.size
  · have hd := decode_high s k hlt
    have hc := (s[k]'hlt).toNat_lt
    skip
    refine SC.seq (SC.region ?_)
    refine SL.eff (Eff.nextSt rfl .here hlt) rfl rfl ?_
    rintro _ _ ⟨rfl, rfl⟩
    refine SL.val (Val.extract rfl rfl) rfl rfl ?_
    refine SL.nil (SE.seq ?_)
    refine SC.seq ?_
    refine SC.condT rfl ?_
    refine SC.skip ?_
    refine SE.seq ?_
    refine SC.block ?_
    refine SC.seq (SC.region ?_)
    refine SL.val (Val.extract rfl rfl) rfl rfl ?_
    refine SL.val (Val.extract rfl rfl) rfl rfl ?_
    iterate 2 refine SL.val (Val.assign rfl) rfl rfl ?_
    refine SL.nil (SE.seq ?_)
    refine SC.seq (SC.region ?_)
    iterate 2 refine SL.val (Val.move rfl) rfl rfl ?_
    refine SL.callv rfl (by kernel_rfl) rfl rfl rfl ?_
    intro w hw
    refine (odd_c hw).mono ?_
    rintro _ _ ⟨rfl, hm⟩
    refine ⟨_, _, rfl, hm, ?_⟩
    clear hm hw w
    refine SL.val (Val.move rfl) rfl rfl ?_
    refine SL.val (Val.eqB rfl rfl (by kernel_rfl)) rfl rfl ?_
    refine SL.nil (SE.seq ?_)
    refine SC.cond rfl ?_ ?_
    rotate_left
    · intro hodd
      refine SC.skip ?_
      refine SE.inBlock ?_
      simp only [beq_true, Bool.not_eq_false'] at hodd
      have h128 : (s[k]'hlt).toNat < 128 := by
        rcases Nat.lt_or_ge (s[k]'hlt).toNat 128 with h | h
        · exact h
        · have h2 := hd (by omega)
          simp only [nameC, Bool.or_eq_true, Bool.and_eq_true, decide_eq_true_eq] at hodd
          omega
      have e1 := decode_ascii s k hlt h128
      exact SE.round (k + 1) (by omega) (by exact ⟨rfl, rfl, rfl, trivial⟩) (fun w' hw' => ⟨⟨hlt, fun j hj h => by
        rcases Nat.lt_or_ge j k with h2 | h2
        · exact hp j hj h2
        · obtain rfl : j = k := by omega
          rw [e1] at hodd; exact hodd⟩, by rw [e1] at hw'; exact hw'⟩)
    intro hodd
    refine SC.seq (SC.region ?_)
    refine SL.val (Val.move rfl) rfl rfl ?_
    refine SL.val (Val.assign rfl) rfl rfl ?_
    refine SL.nil (SE.seq ?_)
    refine SC.ret ?_
    refine SE.ret ?_
    refine SE.then_ (by intro h; cases h) ?_
    refine SE.ret ?_
    refine SE.then_ (by intro h; cases h) ?_
    refine SE.ret1 rfl rfl ?_
    intro w' hw'
    refine ⟨_, rfl, ?_, hw'.sub (fun _ h => h) (List.sublist_cons_self _ _)⟩
    rw [all_at hlt (by
  simp only [beq_true, Bool.not_eq_true'] at hodd
  rcases Nat.lt_or_ge (s[k]'hlt).toNat 128 with h | h
  · rw [decode_ascii s k hlt h] at hodd; exact hodd
  · simp only [nameC, Bool.or_eq_false_iff, Bool.and_eq_false_iff, decide_eq_false_iff_not]; omega)]
    simp
  · skip
    refine SC.seq (SC.region ?_)
    refine SL.val (Val.nextEnd rfl List.mem_cons_self hlt) rfl rfl ?_
    refine SL.val (Val.extract rfl rfl) rfl rfl ?_
    refine SL.nil (SE.seq ?_)
    refine SC.seq ?_
    refine SC.condF rfl ?_
    refine SC.exit ?_
    refine SE.then_ (by intro h; cases h) ?_
    refine SE.then_ (by intro h; cases h) ?_
    refine SE.exit ?_
    refine SE.seq ?_
    refine SC.seq (SC.region ?_)
    refine SL.val (Val.assign rfl) rfl rfl ?_
    refine SL.nil (SE.seq ?_)
    refine SC.ret ?_
    refine SE.ret1 rfl rfl ?_
    intro w' hw'
    refine ⟨_, rfl, ?_, hw'.sub (fun _ h => h) (List.sublist_cons_self _ _)⟩
    rw [all_all fun j hj => hp j hj (by omega)]
    simp

theorem index_c {s : ByteArray} (hw : Mem S σ ρ w) (hs : s.size ≤ 16) : Calls Tryz.prog 115 #[.string s, .func (.func 97) #[] #[]] w fun e w' => ∃ r : Int, e = .returned (.int .i64 r) ∧ (0 ≤ r ↔ s.data.toList.all (fun c => nameC c.toNat) = false) ∧ Mem S σ ρ w' := by
  refine calls_of [.string s, .func (.func 97) #[] #[]] Tryz.func115 rfl Tryz.ntmps115 rfl (Mem S σ ρ) hw ?_
  refine SC.seq (SC.region ?_)
  refine SL.val (Val.assign rfl) rfl rfl ?_
  refine SL.nil (SE.seq ?_)
  refine SC.seq (SC.region ?_)
  iterate 2 refine SL.val (Val.move rfl) rfl rfl ?_
  refine SL.call (by kernel_rfl) rfl rfl rfl ?_
  intro w hw
  refine (indexOdd_c hw hs).mono ?_; rintro _ _ ⟨r, rfl, hr, hm⟩; refine ⟨_, _, rfl, hm, ?_⟩; clear hm hw w
  refine SL.val (Val.assign rfl) rfl rfl ?_
  refine SL.nil (SE.seq ?_)
  refine SC.ret ?_
  refine SE.ret1 rfl rfl ?_
  intro w' hw'
  exact ⟨_, rfl, hr, hw'⟩
theorem contains_c {s : ByteArray} (hw : Mem S σ ρ w) (hs : s.size ≤ 16) : Calls Tryz.prog 98 #[.string s, .func (.func 97) #[] #[]] w fun e w' => e = .returned (.bool (!s.data.toList.all (fun c => nameC c.toNat))) ∧ Mem S σ ρ w' := by
  refine calls_of [.string s, .func (.func 97) #[] #[]] Tryz.func98 rfl Tryz.ntmps98 rfl (Mem S σ ρ) hw ?_
  refine SC.seq (SC.region ?_)
  refine SL.val (Val.assign rfl) rfl rfl ?_
  refine SL.nil (SE.seq ?_)
  refine SC.seq (SC.region ?_)
  iterate 2 refine SL.val (Val.move rfl) rfl rfl ?_
  refine SL.call (by kernel_rfl) rfl rfl rfl ?_
  intro w hw
  refine (index_c hw hs).mono ?_; rintro _ _ ⟨r, rfl, hr, hm⟩; refine ⟨_, _, rfl, hm, ?_⟩; clear hm hw w
  refine SL.val (Val.geI rfl rfl) rfl rfl ?_
  refine SL.val (Val.assign rfl) rfl rfl ?_
  refine SL.nil (SE.seq ?_)
  refine SC.ret ?_
  refine SE.ret1 rfl rfl ?_
  intro w' hw'
  refine ⟨?_, hw'⟩
  congr 2
  rw [Bool.eq_iff_iff, decide_eq_true_eq, hr]
  simp

theorem isName_c {s : ByteArray} (hw : Mem S σ ρ w) : Calls Tryz.prog 67 #[.string s] w fun e w' => e = .returned (.bool (nameB s)) ∧ Mem S σ ρ w' := by
  have h0 : (s = ⟨#[]⟩) ↔ s.size = 0 := by
    constructor
    · rintro rfl; rfl
    · intro h
      obtain ⟨a⟩ := s
      congr 1
      exact Array.eq_empty_of_size_eq_zero h
  refine calls_of [.string s] Tryz.func67 rfl Tryz.ntmps67 rfl (Mem S σ ρ) hw ?_
  refine SC.seq (SC.region ?_)
  refine SL.val (Val.assign rfl) rfl rfl ?_
  refine SL.nil (SE.seq ?_)
  refine SC.seq (SC.region ?_)
  refine SL.val (Val.assign rfl) rfl rfl ?_
  refine SL.nil (SE.seq ?_)
  refine SC.seq (SC.region ?_)
  refine SL.val (Val.move rfl) rfl rfl ?_
  refine SL.val (Val.neS rfl rfl) rfl rfl ?_
  refine SL.val (Val.move rfl) rfl rfl ?_
  refine SL.bothP (t := 6) rfl ?_ ?_
  rotate_left
  · intro hc6
    iterate 3 refine SL.skip rfl rfl ?_
    refine SL.val (Val.pickF rfl rfl) rfl rfl ?_
    refine SL.val (Val.move rfl) rfl rfl ?_
    iterate 4 refine SL.skip rfl rfl ?_
    refine SL.val (Val.pickF rfl rfl) rfl rfl ?_
    refine SL.val (Val.assign rfl) rfl rfl ?_
    refine SL.nil (SE.seq ?_)
    refine SC.ret ?_
    refine SE.ret1 rfl rfl ?_
    intro w' hw'
    refine ⟨?_, hw'⟩
    congr 2
    unfold nameB
    rw [Ne, h0] at hc6
    rw [Bool.eq_iff_iff]
    first
      | (simp; omega)
      | (have h1 : 1 ≤ s.size := by omega
         have h2 : s.size ≤ 16 := by omega
         simp [h1, h2])
  intro hc6
  refine SL.val (Val.move rfl) rfl rfl ?_
  refine SL.val (Val.lenSt rfl Tryz.underlying9) rfl rfl ?_
  refine SL.val (Val.leI rfl rfl) rfl rfl ?_
  refine SL.val (Val.pickT rfl rfl) rfl rfl ?_
  refine SL.val (Val.move rfl) rfl rfl ?_
  refine SL.bothP (t := 11) rfl ?_ ?_
  rotate_left
  · intro hc11
    iterate 4 refine SL.skip rfl rfl ?_
    refine SL.val (Val.pickF rfl rfl) rfl rfl ?_
    refine SL.val (Val.assign rfl) rfl rfl ?_
    refine SL.nil (SE.seq ?_)
    refine SC.ret ?_
    refine SE.ret1 rfl rfl ?_
    intro w' hw'
    refine ⟨?_, hw'⟩
    congr 2
    unfold nameB
    rw [Ne, h0] at hc6
    rw [Bool.eq_iff_iff]
    first
      | (simp; omega)
      | (have h1 : 1 ≤ s.size := by omega
         have h2 : s.size ≤ 16 := by omega
         simp [h1, h2])
  intro hc11
  iterate 2 refine SL.val (Val.move rfl) rfl rfl ?_
  refine SL.call (by kernel_rfl) rfl rfl rfl ?_
  intro w hw
  refine (contains_c hw (by omega)).mono ?_; rintro _ _ ⟨rfl, hm⟩; refine ⟨_, _, rfl, hm, ?_⟩; clear hm hw w
  refine SL.val (Val.notB rfl) rfl rfl ?_
  refine SL.val (Val.pickT rfl rfl) rfl rfl ?_
  refine SL.val (Val.assign rfl) rfl rfl ?_
  refine SL.nil (SE.seq ?_)
  refine SC.ret ?_
  refine SE.ret1 rfl rfl ?_
  intro w' hw'
  refine ⟨?_, hw'⟩
  congr 2
  unfold nameB
  rw [Ne, h0] at hc6
  rw [Bool.eq_iff_iff]
  first
    | (simp; omega)
    | (have h1 : 1 ≤ s.size := by omega
       have h2 : s.size ≤ 16 := by omega
       simp [h1, h2])

end
end Go.Proofs.YtickdhjljpnlpaaGreatDoor
/-
  Cores: whether they may be, and their bytes: the program's and the document's, over the engine.
-/
namespace Go.Proofs.YtickdhjljpnlpaaGreatDoor
open Go.RowKit

structure Core where
  client : Int
  stamp : Int
  op : Int
  letter : ByteArray
  a : Int
  b : Int
  text : ByteArray
def Core.cells (c : Core) : List Value := [.int .i64 c.client, .int .i64 c.stamp, .int .i64 c.op, .string c.letter, .int .i64 c.a, .int .i64 c.b, .string c.text]
def Core.check (c : Core) (n : Int) : Int :=
  if n < 1 ∨ 7 < n then 1 else if c.client < n ∨ n + 4 ≤ c.client then 17 else if c.stamp < 1 ∨ 1099511627776 < c.stamp ∨ c.op < 1 ∨ 9 < c.op then 5 else if nameB c.letter = false then 7 else if 200 < c.text.size then 3 else 0
def rowB (m : List UInt8) : List UInt8 := beBytes m.length 4 ++ m
def Core.bytes (c : Core) : List UInt8 :=
  beBytes (u64 c.client) 1 ++ beBytes (u64 c.stamp) 8 ++ beBytes (u64 c.op) 1 ++ rowB c.letter.data.toList ++ beBytes (u64 c.a) 8 ++ beBytes (u64 c.b) 8 ++ rowB c.text.data.toList
theorem u64_lt (x : Int) : u64 x < 18446744073709551616 := by unfold u64; omega
section
variable {S : List (World × List Nat)} {σ τ : Blks} {ρ : List Dt} {w : World} {P : Program} {n : Nat} {l : Slots} {D : World → Prop} {x y : Operand} {d : Option Nat} {ty t : TypeId} {pos : String} {aft : Array Edge} {g : Option (Nat × Bool)} {v : Value}
set_option maxHeartbeats 400000 in
theorem check_c {c : Core} {n : Int} (hw : Mem S σ ρ w) : Calls Tryz.prog 44 #[.agg c.cells.toArray, .int .i64 n] w fun e w' => e = .returned (.int .i64 (c.check n)) ∧ Mem S σ ρ w' := by
  refine calls_of [.agg c.cells.toArray, .int .i64 n] Tryz.func44 rfl Tryz.ntmps44 rfl (Mem S σ ρ) hw ?_
  refine SC.seq (SC.region ?_)
  refine SL.eff (Eff.boxA rfl) rfl rfl ?_
  rintro _ _ ⟨b2, rfl, rfl⟩
  refine SL.val (Val.assign rfl) rfl rfl ?_
  refine SL.nil (SE.seq ?_)
  refine SC.seq ?_
  refine SC.block ?_
  refine SC.seq (SC.region ?_)
  refine SL.val (Val.move rfl) rfl rfl ?_
  refine SL.val (Val.ltI rfl rfl) rfl rfl ?_
  refine SL.val (Val.move rfl) rfl rfl ?_
  refine SL.bothP (t := 8) rfl ?_ ?_
  · intro hc8
    iterate 2 refine SL.skip rfl rfl ?_
    refine SL.val (Val.pickT rfl rfl) rfl rfl ?_
    refine SL.val (Val.assign rfl) rfl rfl ?_
    refine SL.nil (SE.seq ?_)
    refine SC.condT rfl ?_
    refine SC.seq (SC.region ?_)
    refine SL.val (Val.assign rfl) rfl rfl ?_
    refine SL.nil (SE.seq ?_)
    refine SC.ret ?_
    refine SE.ret ?_
    refine SE.then_ (by intro h; cases h) ?_
    refine SE.ret1 rfl rfl ?_
    intro w' hw'
    refine ⟨?_, hw'.sub (fun _ h => h) (List.sublist_cons_self _ _)⟩
    congr 2
    unfold Core.check
    repeat' split
    all_goals first | rfl | omega | simp_all
  intro hc8
  refine SL.val (Val.move rfl) rfl rfl ?_
  refine SL.val (Val.gtI rfl rfl) rfl rfl ?_
  refine SL.val (Val.pickF rfl rfl) rfl rfl ?_
  refine SL.val (Val.assign rfl) rfl rfl ?_
  refine SL.nil (SE.seq ?_)
  refine SC.condP rfl ?_ ?_
  · intro hc5
    refine SC.seq (SC.region ?_)
    refine SL.val (Val.assign rfl) rfl rfl ?_
    refine SL.nil (SE.seq ?_)
    refine SC.ret ?_
    refine SE.ret ?_
    refine SE.then_ (by intro h; cases h) ?_
    refine SE.ret1 rfl rfl ?_
    intro w' hw'
    refine ⟨?_, hw'.sub (fun _ h => h) (List.sublist_cons_self _ _)⟩
    congr 2
    unfold Core.check
    repeat' split
    all_goals first | rfl | omega | simp_all
  intro hc5
  refine SC.seq (SC.region ?_)
  refine SL.val (Val.fieldAddr tabOk rfl rfl rfl rfl rfl) rfl rfl ?_
  first
    | refine SL.val (Val.load1 tabOk rfl rfl (by repeat (first | assumption | exact List.mem_cons_self | exact hmem _ | apply List.mem_cons_of_mem)) (by rfl)) rfl rfl ?_
    | refine SL.val (Val.load1C tabOk rfl rfl (by assumption)) rfl rfl ?_
  refine SL.val (Val.move rfl) rfl rfl ?_
  refine SL.val (Val.ltI rfl rfl) rfl rfl ?_
  refine SL.val (Val.move rfl) rfl rfl ?_
  refine SL.bothP (t := 17) rfl ?_ ?_
  · intro hc17
    iterate 5 refine SL.skip rfl rfl ?_
    refine SL.val (Val.pickT rfl rfl) rfl rfl ?_
    refine SL.val (Val.assign rfl) rfl rfl ?_
    refine SL.nil (SE.seq ?_)
    refine SC.condT rfl ?_
    refine SC.seq (SC.region ?_)
    refine SL.val (Val.assign rfl) rfl rfl ?_
    refine SL.nil (SE.seq ?_)
    refine SC.ret ?_
    refine SE.ret ?_
    refine SE.then_ (by intro h; cases h) ?_
    refine SE.ret1 rfl rfl ?_
    intro w' hw'
    refine ⟨?_, hw'.sub (fun _ h => h) (List.sublist_cons_self _ _)⟩
    congr 2
    unfold Core.check
    repeat' split
    all_goals first | rfl | omega | simp_all
  intro hc17
  refine SL.val (Val.fieldAddr tabOk rfl rfl rfl rfl rfl) rfl rfl ?_
  first
    | refine SL.val (Val.load1 tabOk rfl rfl (by repeat (first | assumption | exact List.mem_cons_self | exact hmem _ | apply List.mem_cons_of_mem)) (by rfl)) rfl rfl ?_
    | refine SL.val (Val.load1C tabOk rfl rfl (by assumption)) rfl rfl ?_
  refine SL.val (Val.move rfl) rfl rfl ?_
  first
    | refine SL.val (Val.addI rfl rfl (by simp only [InR, lo, hi]; omega)) rfl rfl ?_
    | refine SL.val (Val.addW rfl rfl) rfl rfl ?_
  refine SL.val (Val.geI rfl rfl) rfl rfl ?_
  refine SL.val (Val.pickF rfl rfl) rfl rfl ?_
  refine SL.val (Val.assign rfl) rfl rfl ?_
  refine SL.nil (SE.seq ?_)
  refine SC.condP rfl ?_ ?_
  · intro hc12
    refine SC.seq (SC.region ?_)
    refine SL.val (Val.assign rfl) rfl rfl ?_
    refine SL.nil (SE.seq ?_)
    refine SC.ret ?_
    refine SE.ret ?_
    refine SE.then_ (by intro h; cases h) ?_
    refine SE.ret1 rfl rfl ?_
    intro w' hw'
    refine ⟨?_, hw'.sub (fun _ h => h) (List.sublist_cons_self _ _)⟩
    congr 2
    unfold Core.check
    repeat' split
    all_goals first | rfl | omega | simp_all
  intro hc12
  refine SC.seq (SC.region ?_)
  refine SL.val (Val.fieldAddr tabOk rfl rfl rfl rfl rfl) rfl rfl ?_
  first
    | refine SL.val (Val.load1 tabOk rfl rfl (by repeat (first | assumption | exact List.mem_cons_self | exact hmem _ | apply List.mem_cons_of_mem)) (by rfl)) rfl rfl ?_
    | refine SL.val (Val.load1C tabOk rfl rfl (by assumption)) rfl rfl ?_
  refine SL.val (Val.ltI rfl rfl) rfl rfl ?_
  refine SL.val (Val.move rfl) rfl rfl ?_
  refine SL.bothP (t := 28) rfl ?_ ?_
  · intro hc28
    iterate 3 refine SL.skip rfl rfl ?_
    refine SL.val (Val.pickT rfl rfl) rfl rfl ?_
    refine SL.val (Val.move rfl) rfl rfl ?_
    iterate 3 refine SL.skip rfl rfl ?_
    refine SL.val (Val.pickT rfl rfl) rfl rfl ?_
    refine SL.val (Val.move rfl) rfl rfl ?_
    iterate 3 refine SL.skip rfl rfl ?_
    refine SL.val (Val.pickT rfl rfl) rfl rfl ?_
    refine SL.val (Val.assign rfl) rfl rfl ?_
    refine SL.nil (SE.seq ?_)
    refine SC.condT rfl ?_
    refine SC.seq (SC.region ?_)
    refine SL.val (Val.assign rfl) rfl rfl ?_
    refine SL.nil (SE.seq ?_)
    refine SC.ret ?_
    refine SE.ret ?_
    refine SE.then_ (by intro h; cases h) ?_
    refine SE.ret1 rfl rfl ?_
    intro w' hw'
    refine ⟨?_, hw'.sub (fun _ h => h) (List.sublist_cons_self _ _)⟩
    congr 2
    unfold Core.check
    repeat' split
    all_goals first | rfl | omega | simp_all
  intro hc28
  refine SL.val (Val.fieldAddr tabOk rfl rfl rfl rfl rfl) rfl rfl ?_
  first
    | refine SL.val (Val.load1 tabOk rfl rfl (by repeat (first | assumption | exact List.mem_cons_self | exact hmem _ | apply List.mem_cons_of_mem)) (by rfl)) rfl rfl ?_
    | refine SL.val (Val.load1C tabOk rfl rfl (by assumption)) rfl rfl ?_
  refine SL.val (Val.gtI rfl rfl) rfl rfl ?_
  refine SL.val (Val.pickF rfl rfl) rfl rfl ?_
  refine SL.val (Val.move rfl) rfl rfl ?_
  refine SL.bothP (t := 33) rfl ?_ ?_
  · intro hc33
    iterate 3 refine SL.skip rfl rfl ?_
    refine SL.val (Val.pickT rfl rfl) rfl rfl ?_
    refine SL.val (Val.move rfl) rfl rfl ?_
    iterate 3 refine SL.skip rfl rfl ?_
    refine SL.val (Val.pickT rfl rfl) rfl rfl ?_
    refine SL.val (Val.assign rfl) rfl rfl ?_
    refine SL.nil (SE.seq ?_)
    refine SC.condT rfl ?_
    refine SC.seq (SC.region ?_)
    refine SL.val (Val.assign rfl) rfl rfl ?_
    refine SL.nil (SE.seq ?_)
    refine SC.ret ?_
    refine SE.ret ?_
    refine SE.then_ (by intro h; cases h) ?_
    refine SE.ret1 rfl rfl ?_
    intro w' hw'
    refine ⟨?_, hw'.sub (fun _ h => h) (List.sublist_cons_self _ _)⟩
    congr 2
    unfold Core.check
    repeat' split
    all_goals first | rfl | omega | simp_all
  intro hc33
  refine SL.val (Val.fieldAddr tabOk rfl rfl rfl rfl rfl) rfl rfl ?_
  first
    | refine SL.val (Val.load1 tabOk rfl rfl (by repeat (first | assumption | exact List.mem_cons_self | exact hmem _ | apply List.mem_cons_of_mem)) (by rfl)) rfl rfl ?_
    | refine SL.val (Val.load1C tabOk rfl rfl (by assumption)) rfl rfl ?_
  refine SL.val (Val.ltI rfl rfl) rfl rfl ?_
  refine SL.val (Val.pickF rfl rfl) rfl rfl ?_
  refine SL.val (Val.move rfl) rfl rfl ?_
  refine SL.bothP (t := 38) rfl ?_ ?_
  · intro hc38
    iterate 3 refine SL.skip rfl rfl ?_
    refine SL.val (Val.pickT rfl rfl) rfl rfl ?_
    refine SL.val (Val.assign rfl) rfl rfl ?_
    refine SL.nil (SE.seq ?_)
    refine SC.condT rfl ?_
    refine SC.seq (SC.region ?_)
    refine SL.val (Val.assign rfl) rfl rfl ?_
    refine SL.nil (SE.seq ?_)
    refine SC.ret ?_
    refine SE.ret ?_
    refine SE.then_ (by intro h; cases h) ?_
    refine SE.ret1 rfl rfl ?_
    intro w' hw'
    refine ⟨?_, hw'.sub (fun _ h => h) (List.sublist_cons_self _ _)⟩
    congr 2
    unfold Core.check
    repeat' split
    all_goals first | rfl | omega | simp_all
  intro hc38
  refine SL.val (Val.fieldAddr tabOk rfl rfl rfl rfl rfl) rfl rfl ?_
  first
    | refine SL.val (Val.load1 tabOk rfl rfl (by repeat (first | assumption | exact List.mem_cons_self | exact hmem _ | apply List.mem_cons_of_mem)) (by rfl)) rfl rfl ?_
    | refine SL.val (Val.load1C tabOk rfl rfl (by assumption)) rfl rfl ?_
  refine SL.val (Val.gtI rfl rfl) rfl rfl ?_
  refine SL.val (Val.pickF rfl rfl) rfl rfl ?_
  refine SL.val (Val.assign rfl) rfl rfl ?_
  refine SL.nil (SE.seq ?_)
  refine SC.condP rfl ?_ ?_
  · intro hc24
    refine SC.seq (SC.region ?_)
    refine SL.val (Val.assign rfl) rfl rfl ?_
    refine SL.nil (SE.seq ?_)
    refine SC.ret ?_
    refine SE.ret ?_
    refine SE.then_ (by intro h; cases h) ?_
    refine SE.ret1 rfl rfl ?_
    intro w' hw'
    refine ⟨?_, hw'.sub (fun _ h => h) (List.sublist_cons_self _ _)⟩
    congr 2
    unfold Core.check
    repeat' split
    all_goals first | rfl | omega | simp_all
  intro hc24
  refine SC.seq (SC.region ?_)
  refine SL.val (Val.fieldAddr tabOk rfl rfl rfl rfl rfl) rfl rfl ?_
  first
    | refine SL.val (Val.load1 tabOk rfl rfl (by repeat (first | assumption | exact List.mem_cons_self | exact hmem _ | apply List.mem_cons_of_mem)) (by rfl)) rfl rfl ?_
    | refine SL.val (Val.load1C tabOk rfl rfl (by assumption)) rfl rfl ?_
  refine SL.call (by kernel_rfl) rfl rfl rfl ?_
  intro w hw
  refine (isName_c hw).mono ?_; rintro _ _ ⟨rfl, hm⟩; refine ⟨_, _, rfl, hm, ?_⟩; clear hm hw w
  refine SL.val (Val.notB rfl) rfl rfl ?_
  refine SL.val (Val.assign rfl) rfl rfl ?_
  refine SL.nil (SE.seq ?_)
  refine SC.cond rfl ?_ ?_
  · intro hc43
    refine SC.seq (SC.region ?_)
    refine SL.val (Val.assign rfl) rfl rfl ?_
    refine SL.nil (SE.seq ?_)
    refine SC.ret ?_
    refine SE.ret ?_
    refine SE.then_ (by intro h; cases h) ?_
    refine SE.ret1 rfl rfl ?_
    intro w' hw'
    refine ⟨?_, hw'.sub (fun _ h => h) (List.sublist_cons_self _ _)⟩
    congr 2
    unfold Core.check
    repeat' split
    all_goals first | rfl | omega | simp_all
  intro hc43
  refine SC.seq (SC.region ?_)
  refine SL.val (Val.fieldAddr tabOk rfl rfl rfl rfl rfl) rfl rfl ?_
  first
    | refine SL.val (Val.load1 tabOk rfl rfl (by repeat (first | assumption | exact List.mem_cons_self | exact hmem _ | apply List.mem_cons_of_mem)) (by rfl)) rfl rfl ?_
    | refine SL.val (Val.load1C tabOk rfl rfl (by assumption)) rfl rfl ?_
  refine SL.val (Val.lenSt rfl Tryz.underlying9) rfl rfl ?_
  refine SL.val (Val.gtI rfl rfl) rfl rfl ?_
  refine SL.val (Val.assign rfl) rfl rfl ?_
  refine SL.nil (SE.seq ?_)
  refine SC.condP rfl ?_ ?_
  · intro hc48
    refine SC.seq (SC.region ?_)
    refine SL.val (Val.assign rfl) rfl rfl ?_
    refine SL.nil (SE.seq ?_)
    refine SC.ret ?_
    refine SE.ret ?_
    refine SE.then_ (by intro h; cases h) ?_
    refine SE.ret1 rfl rfl ?_
    intro w' hw'
    refine ⟨?_, hw'.sub (fun _ h => h) (List.sublist_cons_self _ _)⟩
    congr 2
    unfold Core.check
    repeat' split
    all_goals first | rfl | omega | simp_all
  intro hc48
  refine SC.skip ?_
  refine SE.inBlock ?_
  refine SE.seq ?_
  refine SC.seq (SC.region ?_)
  refine SL.val (Val.assign rfl) rfl rfl ?_
  refine SL.nil (SE.seq ?_)
  refine SC.ret ?_
  refine SE.ret1 rfl rfl ?_
  intro w' hw'
  refine ⟨?_, hw'.sub (fun _ h => h) (List.sublist_cons_self _ _)⟩
  congr 2
  unfold Core.check
  repeat' split
  all_goals first | rfl | omega | simp_all

end
end Go.Proofs.YtickdhjljpnlpaaGreatDoor
/-
  The second engine: the bytes of cores.
-/
namespace Go.Proofs.YtickdhjljpnlpaaGreatDoor.A
open Go.RowKit

abbrev coreA (c : Core) : Abs := .agg (c.cells.map .v)
section
variable {c : Core} {n : Int}
theorem core_val2 {K : List Nat} {w : World} {vals : List Value} (hv : reps K w [coreA c, int n] vals) : vals = [.agg c.cells.toArray, .int .i64 n] := by
  obtain ⟨v, us', rfl, ⟨us, rfl, h1⟩, h2⟩ := hv
  have h1 := (reps_plain (us := c.cells)).1 h1
  have h2 := (reps_plain (us := [.int .i64 n])).1 h2
  rw [h2, h1]
theorem ccheck_s : Pure Tryz.prog 44 [coreA c, int n] (int (c.check n)) := Pure.of2 fun K w vals hK hv => by
  rw [core_val2 hv]
  exact (check_c (enter2 w K)).mono fun e w' ⟨he, hm⟩ => ⟨_, he, leave2 hm (by simp), rfl⟩
end
end Go.Proofs.YtickdhjljpnlpaaGreatDoor.A
/-
  Entries, plain.
-/
namespace Go.Proofs.YtickdhjljpnlpaaGreatDoor
open Go.RowKit

/-- A core, and who stands behind it. -/
structure Ent where
  core : Core
  mask : Nat
def Ent.cells (e : Ent) : List Value := [.int .i64 e.core.client, .int .i64 e.core.stamp, .int .i64 e.core.op, .string e.core.letter, .int .i64 e.core.a, .int .i64 e.core.b, .string e.core.text, .int .u32 e.mask]
theorem Ent.one (e : Ent) : ∀ u ∈ e.cells, u.oneCell' = true := by
  intro u hu
  simp only [Ent.cells, List.mem_cons, List.not_mem_nil, or_false] at hu
  rcases hu with rfl | rfl | rfl | rfl | rfl | rfl | rfl | rfl <;> rfl
end Go.Proofs.YtickdhjljpnlpaaGreatDoor
/-
  Ledgers, plain: letters and outcomes put in where they belong; what an entry does.
-/
namespace Go.Proofs.YtickdhjljpnlpaaGreatDoor.A
open Go.RowKit

/-! ### Rows with keys -/
section
variable {α : Type} {p eq gt : α → Bool} {x y : α}
/-- Put in ahead of the first one that p holds of, or in its stead; or at the end. -/
def putG (p : α → Bool) (r : Bool) (x : α) : List α → List α
  | [] => [x]
  | y :: ys => if p y = true then (if r = true then x :: ys else x :: y :: ys) else y :: putG p r x ys
/-- Put in for the one of its key, or where it belongs. -/
def withG (eq gt : α → Bool) (x : α) (l : List α) : List α := if l.any eq = true then putG eq true x l else putG gt false x l
/-- Where it is, or belongs. -/
def placeG (eq gt : α → Bool) (l : List α) : Nat × Bool := if l.any eq = true then (l.findIdx eq, true) else (l.findIdx gt, false)
theorem putG_set : ∀ {l : List α}, l.any p = true → putG p true x l = l.set (l.findIdx p) x
  | [], h => by simp at h
  | y :: l, h => by
    unfold putG
    rw [List.findIdx_cons]
    by_cases hy : p y = true
    · simp [hy]
    · have h1 : l.any p = true := by simpa [hy] using h
      rw [if_neg hy, putG_set h1]
      simp [hy]
theorem putG_ins : ∀ {l : List α}, putG p false x l = l.take (l.findIdx p) ++ x :: l.drop (l.findIdx p)
  | [] => rfl
  | y :: l => by
    unfold putG
    rw [List.findIdx_cons]
    by_cases hy : p y = true
    · simp [hy]
    · rw [if_neg hy, putG_ins]
      simp [hy]
theorem putG_length (r : Bool) : ∀ l : List α, (putG p r x l).length ≤ l.length + 1
  | [] => Nat.le_refl _
  | y :: l => by
    have := putG_length r l
    unfold putG
    split
    · split <;> simp
    · simpa using this
theorem withG_length (l : List α) : (withG eq gt x l).length ≤ l.length + 1 := by
  unfold withG
  split <;> exact putG_length _ _
theorem findIdx_le {l : List α} : l.findIdx p ≤ l.length := List.findIdx_le_length
theorem findIdx_in {l : List α} (h : l.any p = true) : l.findIdx p < l.length := List.findIdx_lt_length.2 (by simpa using h)
theorem find_at : ∀ {l : List α} (h : l.any p = true), l.find? p = some (l[l.findIdx p]'(findIdx_in h))
  | [], h => by simp at h
  | y :: l, h => by
    by_cases hy : p y = true
    · simp [List.findIdx_cons, hy]
    · have h1 : l.any p = true := by simpa [hy] using h
      have h2 := find_at h1
      simp [List.findIdx_cons, hy, h2]
theorem find_none {l : List α} (h : ¬ l.any p = true) : l.find? p = none := by
  rw [List.find?_eq_none]
  intro x hx hp
  exact h (List.any_eq_true.2 ⟨x, hx, hp⟩)
theorem find_some {l : List α} {x : α} (h : l.find? p = some x) : x ∈ l ∧ p x = true := ⟨List.mem_of_find?_eq_some h, List.find?_some h⟩
theorem putG_mem {r : Bool} {z : α} : ∀ {l : List α}, z ∈ putG p r x l → z = x ∨ z ∈ l
  | [], h => .inl (List.mem_singleton.1 h)
  | y :: l, h => by
    unfold putG at h
    split at h
    · split at h
      · rcases List.mem_cons.1 h with h | h
        · exact .inl h
        · exact .inr (List.mem_cons_of_mem _ h)
      · rcases List.mem_cons.1 h with h | h
        · exact .inl h
        · exact .inr h
    · rcases List.mem_cons.1 h with h | h
      · exact .inr (h ▸ List.mem_cons_self)
      · rcases putG_mem h with h | h
        · exact .inl h
        · exact .inr (List.mem_cons_of_mem _ h)
theorem withG_mem {z : α} {l : List α} (h : z ∈ withG eq gt x l) : z = x ∨ z ∈ l := by
  unfold withG at h
  split at h <;> exact putG_mem h
end
/-! ### Letters and outcomes -/
/-- A text ahead of another one. -/
def ltB (a b : ByteArray) : Prop := a.data.toList < b.data.toList
instance (a b : ByteArray) : Decidable (ltB a b) := by unfold ltB; infer_instance
theorem ltB_irr (a : ByteArray) : ¬ ltB a a := List.lt_irrefl _
theorem ltB_trans {a b c : ByteArray} (h : ltB a b) (k : ltB b c) : ltB a c := List.lt_trans h k
theorem ltB_tri (a b : ByteArray) : ltB a b ∨ a = b ∨ ltB b a := by
  by_cases h : ltB a b
  · exact .inl h
  · by_cases k : ltB b a
    · exact .inr (.inr k)
    · exact .inr (.inl (tx_inj (List.le_antisymm (show ¬ b.data.toList < a.data.toList from k) h)))
section
variable {P : Program} {n : Nat} {W : Wd} {σ : Blks} {l : Slots} {X : List Nat} {x y : Operand} {d : Option Nat} {ty t t' : TypeId} {pos : String} {aft : Array Edge} {g : Option (Nat × Bool)} {s r : ByteArray}
/-- 's > r' of texts. -/
theorem Val.gtS (hx : look l x = some (.v (.string s))) (hy : look l y = some (.v (.string r))) : Val P n W σ l X ⟨d, .binOp .gtr t x y t', ty, pos, aft, g⟩ (.v (.bool (decide (ltB r s)))) := fun a w hs _ => by
  refine ⟨_, rfl, fun w' _ => ?_⟩
  have key : (!decide (s.data < r.data) && !s.data == r.data) = decide (r.data < s.data) := by
    rcases ltB_tri s r with h | rfl | h
    · have k : ¬ ltB r s := fun k => ltB_irr _ (ltB_trans h k)
      rw [decide_eq_true (show s.data < r.data from h), decide_eq_false (show ¬ r.data < s.data from k)]
      rfl
    · rw [decide_eq_false (show ¬ s.data < s.data from ltB_irr s)]
      simp
    · have k : ¬ ltB s r := fun k => ltB_irr _ (ltB_trans h k)
      have k2 : ¬ s.data = r.data := fun e => by
        have : s = r := tx_inj (congrArg Array.toList e)
        subst this
        exact ltB_irr _ h
      rw [decide_eq_false (show ¬ s.data < r.data from k), decide_eq_true (show r.data < s.data from h)]
      simp [k2]
  simp [execOp, hs.plain hx, hs.plain hy, eqGuard, binOp, Op.stringOp, Proofs.bytesLess_eq, Lib.toList_data, ltB, key]
end
abbrev st (s : ByteArray) : Abs := .v (.string s)
def ltrA (x : Ltr) : List Abs := [st x.name, int x.state, int x.amount, int x.due, st x.policy, st x.papers]
def entA (e : Ent) : List Abs := e.cells.map .v
abbrev ltrsA (l : List Ltr) : Abs := .sl 6 (l.map ltrA)
theorem ltrs_ones (l : List Ltr) : ∀ c ∈ l.map ltrA, ones c = true := by
  intro c hc
  obtain ⟨o, _, rfl⟩ := List.mem_map.1 hc
  rfl
/-- A ledger. -/
structure Lg where
  seq : Int
  total : Int
  ls : List Ltr
  os : List Oc
def Lg.abs (l : Lg) : List Abs := [int l.seq, int l.total, ltrsA l.ls, outA l.os]
def Lg.zero : Lg := ⟨0, 0, [], []⟩
abbrev eqL (s : ByteArray) (x : Ltr) : Bool := decide (x.name = s)
abbrev gtL (s : ByteArray) (x : Ltr) : Bool := decide (ltB s x.name)
abbrev eqO (k : Int) (o : Oc) : Bool := decide (o.client = k)
abbrev gtO (k : Int) (o : Oc) : Bool := decide (k < o.client)
def Lg.find (l : Lg) (s : ByteArray) : Option Ltr := l.ls.find? (eqL s)
def Lg.last (l : Lg) (k : Int) : Option Oc := l.os.find? (eqO k)
/-- With an outcome. -/
def Lg.told (l : Lg) (o : Oc) : Lg := { l with os := withG (eqO o.client) (gtO o.client) o l.os }
def Lg.putL (l : Lg) (x : Ltr) : Lg := { l with ls := withG (eqL x.name) (gtL x.name) x l.ls }
/-- With a letter. -/
def Lg.with_ (l : Lg) (x : Ltr) : Lg × Int := if nameB x.name = false then (Lg.zero, 7) else if 16 < (l.putL x).ls.length then (Lg.zero, 11) else (l.putL x, 0)
def Lg.stale (l : Lg) (c : Core) : Bool := match l.last c.client with
  | some o => decide (c.stamp ≤ o.stamp)
  | none => false
def Lg.old (l : Lg) (s : ByteArray) : Ltr := (l.find s).getD Ltr.none
def Lg.known (l : Lg) (c : Core) : Int := if (l.find c.letter).isNone = true ∧ c.op ≠ 1 then 7 else 0
/-- The policy that counts. -/
def polB (x : Ltr) (c : Core) : ByteArray := if c.op = 1 then c.text else x.policy
def endorsedF (x : Ltr) (e : Ent) (n : Int) : Int := if (parseF (tx (polB x e.core)) n).2 ≠ 0 then 2 else if (parseF (tx (polB x e.core)) n).1.holds (BitVec.ofNat 32 e.mask) = false then 9 else 0
/-- The step, of a letter. -/
def Lg.stepped (l : Lg) (x : Ltr) (c : Core) : Lg × Int :=
  if (x.step c.op c.a c.b c.text).2 ≠ 0 then (l, (x.step c.op c.a c.b c.text).2)
  else if (l.with_ { (x.step c.op c.a c.b c.text).1 with name := c.letter }).2 ≠ 0 then (l, (l.with_ { (x.step c.op c.a c.b c.text).1 with name := c.letter }).2)
  else if c.op ≠ 7 then ((l.with_ { (x.step c.op c.a c.b c.text).1 with name := c.letter }).1, 0)
  else if (amtAdd l.total (x.step c.op c.a c.b c.text).1.amount).2 ≠ 0 then (l, 6)
  else ({ (l.with_ { (x.step c.op c.a c.b c.text).1 with name := c.letter }).1 with total := (amtAdd l.total (x.step c.op c.a c.b c.text).1.amount).1 }, 0)
/-- What comes of an entry that may be. -/
def Lg.res (l : Lg) (e : Ent) (n : Int) : Lg × Int :=
  if l.known e.core ≠ 0 then (l, l.known e.core) else if endorsedF (l.old e.core.letter) e n ≠ 0 then (l, endorsedF (l.old e.core.letter) e n) else l.stepped (l.old e.core.letter) e.core
/-- What an entry does. -/
def Lg.doF (l : Lg) (e : Ent) (n : Int) : Lg × Int :=
  if l.stale e.core = true then (l, 10) else if e.core.check n ≠ 0 then (l, e.core.check n) else ((l.res e n).1.told ⟨e.core.client, e.core.stamp, (l.res e n).2⟩, (l.res e n).2)
/-- All entries of a batch, one behind the other. -/
def Lg.goes (n : Int) (l : Lg) : List Ent → Lg × List Int
  | [] => (l, [])
  | e :: es => ((Lg.goes n (l.doF e n).1 es).1, (l.doF e n).2 :: (Lg.goes n (l.doF e n).1 es).2)
def Lg.foldF (l : Lg) (es : List Ent) (n : Int) : Lg × List Int := ({ (Lg.goes n l es).1 with seq := (Lg.goes n l es).1.seq + 1 }, (Lg.goes n l es).2)
/-- Numbers as they come in. -/
structure Lg.Wf (l : Lg) : Prop where
  seq : i64ok l.seq
  total : i64ok l.total
  ls : ∀ x ∈ l.ls, x.Wf
theorem none_wf : Ltr.none.Wf := ⟨by show _ ∧ _; decide, by show _ ∧ _; decide, by show _ ∧ _; decide⟩
theorem Lg.old_wf {l : Lg} (h : l.Wf) (s : ByteArray) : (l.old s).Wf := by
  unfold Lg.old Lg.find
  cases hf : l.ls.find? (eqL s) with
  | none => exact none_wf
  | some x => exact h.ls x (find_some hf).1
end Go.Proofs.YtickdhjljpnlpaaGreatDoor.A
/-
  Layer 10: a step of a letter: the document; the laws.
-/
namespace Go.Proofs.YtickdhjljpnlpaaGreatDoor
open Go.RowKit

end Go.Proofs.YtickdhjljpnlpaaGreatDoor
/-
  What the layers below say, as contracts of the second engine: names, sums, steps of letters.
-/
namespace Go.Proofs.YtickdhjljpnlpaaGreatDoor.A
open Go.RowKit

section
variable {K : List Nat} {w : World} {vals : List Value}
theorem plain_vals {us : List Value} (hv : reps K w (us.map .v) vals) : vals = us := reps_plain.1 hv
theorem ltr_rep {x : Ltr} : rep K w (.agg (ltrA x)) (.agg x.cells) := ⟨x.cells.toList, by simp, by
  have := (reps_plain (K := K) (w := w) (us := x.cells.toList)).2 rfl
  exact this⟩
theorem ltr_vals {x : Ltr} {us : List Value} (hv : reps K w (.agg (ltrA x) :: us.map .v) vals) : vals = .agg x.cells :: us := by
  obtain ⟨v, us', rfl, ⟨cs, rfl, h1⟩, h2⟩ := hv
  have h1 : cs = x.cells.toList := reps_plain.1 (show reps K w (x.cells.toList.map .v) cs from h1)
  rw [h1, reps_plain.1 h2]
theorem isname_s {s : ByteArray} : Pure Tryz.prog 67 [st s] (boo (nameB s)) := Pure.of2 fun K w vals hK hv => by
  rw [plain_vals (us := [.string s]) hv]
  exact (isName_c (enter2 w K)).mono fun e w' ⟨he, hm⟩ => ⟨_, he, leave2 hm (by simp), rfl⟩
theorem mis_s {a : Int} (h : i64ok a) : Pure Tryz.prog 81 [int a] (boo (isAmt a)) := Pure.of2 fun K w vals hK hv => by
  rw [plain_vals (us := [.int .i64 a]) hv]
  exact (money_Is a _ rfl w h.1 h.2).mono fun e w' ⟨he, hw⟩ => by subst hw; exact ⟨_, he, Ext.refl _, rfl⟩
theorem two_ints {a b : Int} : rep K w (.tup [int a, int b]) (.tuple #[.int .i64 a, .int .i64 b]) := ⟨[_, _], rfl, _, _, rfl, rfl, _, _, rfl, rfl, rfl⟩
theorem madd_s {a b : Int} (h : i64ok a) (h2 : i64ok b) : Pure Tryz.prog 104 [int a, int b] (.tup [int (amtAdd a b).1, int (amtAdd a b).2]) := Pure.of2 fun K w vals hK hv => by
  rw [plain_vals (us := [.int .i64 a, .int .i64 b]) hv]
  exact (money_Add a b w h.1 h.2 h2.1 h2.2).mono fun e w' ⟨he, hw⟩ => by subst hw; exact ⟨_, he, Ext.refl _, two_ints⟩
theorem step_s {x : Ltr} {op a b : Int} {t : ByteArray} (hl : x.Wf) (ha : i64ok a) (ht : t.size ≤ 9223372036854775807) : Pure Tryz.prog 102 [.agg (ltrA x), int op, int a, int b, st t] (.tup [.agg (ltrA (x.step op a b t).1), int (x.step op a b t).2]) := Pure.of2 fun K w vals hK hv => by
  rw [ltr_vals (us := [.int .i64 op, .int .i64 a, .int .i64 b, .string t]) hv]
  exact (letter_Step w x op a b t hl ha ht).mono fun e w' ⟨he, hw⟩ => ⟨_, he, hw, ⟨[_, _], rfl, _, _, rfl, ltr_rep, _, _, rfl, rfl, rfl⟩⟩
end
end Go.Proofs.YtickdhjljpnlpaaGreatDoor.A
/-
  Pieces that are read alone.
-/
namespace Go.Proofs.YtickdhjljpnlpaaGreatDoor.A
open Go.RowKit

def Rds (σ : Blks) : Prop := ∀ x ∈ σ, (∃ b t cs, x = .rd b t cs) ∨ ∃ c, x = .rdpc c
theorem Rds.reads {σ τ : Blks} (h : Rds τ) (hs : ∀ x ∈ τ, x ∈ σ) : Reads σ τ := by
  induction τ with
  | nil => exact .nil
  | cons x τ ih =>
    have h1 := ih (fun y hy => h y (List.mem_cons_of_mem _ hy)) (fun y hy => hs y (List.mem_cons_of_mem _ hy))
    have hx := hs x List.mem_cons_self
    rcases h x List.mem_cons_self with ⟨b, t, cs, rfl⟩ | ⟨c, rfl⟩
    · exact .rd hx h1
    · exact .rdpc hx h1
end Go.Proofs.YtickdhjljpnlpaaGreatDoor.A
/-
  Policies: the program's formula, and the document's layer 8.
-/
namespace Go.Proofs.YtickdhjljpnlpaaGreatDoor.A
open Go.RowKit

section
variable {o a n deep : Int} {ks : List Frm} {s : Wo} {f : Frm}
set_option maxHeartbeats 1000000 in
theorem shape_step (ih : ∀ k ∈ ks, ∀ deep : Int, k.nodes ≤ 1099511627776 → 0 ≤ deep → deep ≤ 1099511627776 - k.nodes → Spec Tryz.prog 140 [.agg k.abs, int deep] [] (fun _ : Unit => []) (fun _ => .tup [int (k.nodes : Nat), int (deep + k.depth - 1)])) (hn : (Frm.mk o a ks).nodes ≤ 1099511627776) (h0 : 0 ≤ deep) (hd : deep ≤ 1099511627776 - (Frm.mk o a ks).nodes) : Spec Tryz.prog 140 [.agg (Frm.mk o a ks).abs, int deep] [] (fun _ : Unit => []) (fun _ => .tup [int ((Frm.mk o a ks).nodes : Nat), int (deep + (Frm.mk o a ks).depth - 1)]) := by
 rw [Frm.abs_mk]
 have hlen := Frm.length_le ks
 rw [Frm.nodes_mk] at hn hd
 refine spec_of Tryz.func140 rfl Tryz.ntmps140 rfl fun G w => ?_
 refine SC.seq (SC.region ?_)
 refine SL.eff (Eff.boxA rfl) rfl rfl ?_
 rintro _ _ ⟨b2, rfl, rfl⟩
 iterate 2 refine SL.val (Val.assign rfl) rfl rfl ?_
 refine SL.nil (SE.seq ?_)
 refine SC.seq (SC.region ?_)
 refine SL.val (Val.move rfl) rfl rfl ?_
 iterate 2 refine SL.val (Val.assign rfl) rfl rfl ?_
 refine SL.nil (SE.seq ?_)
 refine SC.seq ?_
 refine SC.seq (SC.region ?_)
 refine SL.val (Val.fieldAddr tabOk rfl rfl rfl rfl rfl) rfl rfl ?_
 refine SL.val (Val.load1 tabOk rfl rfl (by repeat first|assumption|exact o0_|exact o1_|apply o2_) List.not_mem_nil (by rfl)) rfl rfl ?_
 first
  | refine SL.val (Val.lenSl rfl Tryz.underlying128 (List.length_map _)) rfl rfl ?_
  | refine SL.val (Val.lenOwn rfl (by repeat first|assumption|exact m0_|apply m1_) Tryz.underlying128 (List.length_map _)) rfl rfl ?_
  | refine SL.val (Val.lenNil rfl Tryz.underlying128) rfl rfl ?_
 refine SL.val (Val.move rfl) rfl rfl ?_
 refine SL.nil (SE.seq ?_)
 refine SC.block ?_
 refine SC.loop (ι := Nat) (fun z => [.blk b2 130 [int o, int a, .sl 3 (ks.map Frm.abs)]]) (fun z => [(1, int deep), (2, ptr b2), (4, int ((1 + Frm.nodess (ks.take z) : Nat) : Int)), (5, int (deep + (Frm.depths (ks.take z) : Nat))), (12, .sl 3 (ks.map Frm.abs)), (13, int (ks.length : Nat)), (14, int (z : Nat))]) (fun z => z ≤ ks.length) (fun z => ks.length - z) (0) (Nat.zero_le _) (by exact ⟨rfl, rfl, rfl, congrArg (fun x : Int => some (int x)) (show deep = deep + ((0 : Nat) : Int) by omega), rfl, rfl, rfl, trivial⟩) (by repeat first|exact s0_ _|exact s1_ _|apply s2_|apply s3_) ?_
 intro z hz
 refine SC.seq (SC.region ?_)
 refine SL.val (Val.ltI rfl rfl) rfl rfl ?_
 refine SL.nil (SE.seq ?_)
 refine SC.seq ?_
 refine SC.condP rfl ?_ ?_
 rotate_left
 ·intro hc15
  have hz2 : z = ks.length := by omega
  have htk : ks.take z = ks := by rw [hz2]; exact List.take_of_length_le (Nat.le_refl _)
  refine SC.exit ?_
  refine SE.then_ nofun ?_
  refine SE.then_ nofun ?_
  refine SE.exit ?_
  refine SE.seq ?_
  refine SC.seq (SC.region ?_)
  iterate 2 refine SL.val (Val.move rfl) rfl rfl ?_
  iterate 2 refine SL.val (Val.assign rfl) rfl rfl ?_
  refine SL.nil (SE.seq ?_)
  refine SC.ret ?_
  refine SE.fin (rs := [.tmp 4, .tmp 5]) rfl (RV.tmp rfl (RV.tmp rfl RV.nil)) (()) (by repeat first|exact s0_ _|exact s1_ _|apply s2_|apply s3_) (by simp [It.rids]) ?_
  rw [htk, Frm.nodes_mk, Frm.depth_mk]
  rw [show deep + ((1 + Frm.depths ks : Nat) : Int) - 1 = deep + (Frm.depths ks : Nat) by omega]
  rfl
 intro hc15
 have hlt : z < ks.length := by omega
 have hkz := Frm.nodes_mem (List.getElem_mem hlt)
 have hdz := Frm.depths_mem (List.getElem_mem hlt)
 have htn := Frm.take_nodes1 hlt
 have htd := Frm.take_depths1 hlt
 have htl := Frm.take_nodes (ks := ks) (z + 1)
 have hdn := Frm.depth_le (ks[z]'hlt)
 refine SC.skip ?_
 refine SE.seq ?_
 refine SC.seq ?_
 refine SC.block ?_
 refine SC.seq (SC.region ?_)
 refine SL.val (Val.indexSl tabOk Tryz.underlying128 rfl rfl rfl rfl (at_map (by omega)) rfl rfl) rfl rfl ?_
 refine SL.val (Val.loadAR tabOk rfl rfl rfl (Frm.abs_len _)) rfl rfl ?_
 refine SL.eff (Eff.alloc tabOk rfl) rfl rfl ?_
 rintro _ _ ⟨b7, rfl, rfl⟩
 refine SL.eff (Eff.store (L' := (ks[z]'hlt).abs) tabOk rfl rfl rfl (by repeat first|assumption|exact Upd.here|apply Upd.there) (by exact Frm.abs_len _) (lb_ (by rfl)) (by exact Frm.abs_ones _) (putL_whole (by exact Frm.abs_len _))) rfl rfl ?_
 rintro _ _ ⟨rfl, rfl⟩
 refine SL.nil (SE.seq ?_)
 refine SC.seq (SC.region ?_)
 refine SL.val (Val.loadA tabOk rfl rfl rfl (by repeat first|assumption|exact o0_|exact o1_|apply o2_) List.not_mem_nil (Frm.abs_len _)) rfl rfl ?_
 refine SL.val (Val.move rfl) rfl rfl ?_
 refine SL.val (Val.addI rfl rfl (by simp only [InR, lo, hi]; omega)) rfl rfl ?_
 refine SL.call (ih (ks[z]'hlt) (List.getElem_mem hlt) (deep + 1) (by omega) (by omega) (by omega)) Casts.refl (by kernel_rfl) rfl rfl rfl ?_
 refine ap_ ?_
 intro _
 refine SL.val (Val.move rfl) rfl rfl ?_
 refine SL.val (Val.extract rfl rfl) rfl rfl ?_
 refine SL.val (Val.extract rfl rfl) rfl rfl ?_
 iterate 2 refine SL.val (Val.assign rfl) rfl rfl ?_
 refine SL.nil (SE.seq ?_)
 refine SC.region ?_
 iterate 2 refine SL.val (Val.move rfl) rfl rfl ?_
 refine SL.val (Val.to (C := int ((1 + Frm.nodess (ks.take (z + 1)) : Nat) : Int)) (Val.addI rfl rfl (by simp only [InR, lo, hi]; omega)) (congrArg int (by omega))) rfl rfl ?_
 iterate 2 refine SL.val (Val.move rfl) rfl rfl ?_
 refine SL.val (Val.to (C := int (deep + (Frm.depths (ks.take (z + 1)) : Nat))) (Val.maxI rfl rfl) (congrArg int (by omega))) rfl rfl ?_
 iterate 2 refine SL.val (Val.assign rfl) rfl rfl ?_
 refine SL.nil ?_
 refine SE.inBlock ?_
 refine SE.seq ?_
 refine SC.region ?_
 first
  | refine SL.val (Val.addI rfl rfl (by simp only [InR, lo, hi]; omega)) rfl rfl ?_
  | refine SL.val (Val.addW rfl rfl) rfl rfl ?_
 refine SL.val (Val.move rfl) rfl rfl ?_
 refine SL.nil ?_
 refine SE.round (z + 1) (by first | omega | (dsimp only; omega)) (by first | omega | (dsimp only; omega)) (by exact ⟨rfl, rfl, rfl, rfl, rfl, rfl, rfl, trivial⟩) (by repeat first|exact s0_ _|exact s1_ _|apply s2_|apply s3_)
theorem shape_s (f : Frm) : ∀ deep : Int, f.nodes ≤ 1099511627776 → 0 ≤ deep → deep ≤ 1099511627776 - f.nodes → Spec Tryz.prog 140 [.agg f.abs, int deep] [] (fun _ : Unit => []) (fun _ => .tup [int (f.nodes : Nat), int (deep + f.depth - 1)]) := Frm.ind (p := fun f => ∀ deep : Int, f.nodes ≤ 1099511627776 → 0 ≤ deep → deep ≤ 1099511627776 - f.nodes → Spec Tryz.prog 140 [.agg f.abs, int deep] [] (fun _ : Unit => []) (fun _ => .tup [int (f.nodes : Nat), int (deep + f.depth - 1)])) (fun o a ks ih => fun deep hn h0 hd => shape_step ih hn h0 hd) f
theorem boo_i' {p : Prop} [Decidable p] {b : Bool} (h : b = true ↔ p) : retA [boo (decide p)] = boo b := by
  refine congrArg (fun b => Abs.v (Value.bool b)) ?_
  rw [Bool.eq_iff_iff, decide_eq_true_iff]
  exact h.symm
theorem boo_t' {b : Bool} (h : b = true) : retA [boo true] = boo b := by rw [h]; rfl
theorem indexFunc_frm {xs : List Frm} {p : Frm → Bool} {k : Nat} {caps : List Abs} {σ : Blks} (hb : goesIn Tryz.prog k = true) (hr : Rds σ) (hn : xs.length < 9223372036854775807) (h : ∀ x ∈ xs, Spec Tryz.prog k (.agg (Frm.abs x) :: caps) σ (fun _ : Unit => []) (fun _ => boo (p x))) : Spec Tryz.prog 172 [.sl 3 (xs.map Frm.abs), .fn (.func k) [] caps] σ (fun _ : {r : Int // 0 ≤ r ↔ ∃ x ∈ xs, p x = true} => []) (fun z => int z.1) := by
 refine spec_of Tryz.func172 rfl Tryz.ntmps172 rfl fun G w => ?_
 refine SC.seq (SC.region ?_)
 refine SL.val (Val.assign rfl) rfl rfl ?_
 refine SL.nil (SE.seq ?_)
 refine SC.seq ?_
 refine SC.seq (SC.region ?_)
 refine SL.val (Val.move rfl) rfl rfl ?_
 first
  | refine SL.val (Val.lenSl rfl Tryz.underlying128 (List.length_map _)) rfl rfl ?_
  | refine SL.val (Val.lenOwn rfl (by repeat first|assumption|exact m0_|apply m1_) Tryz.underlying128 (List.length_map _)) rfl rfl ?_
  | refine SL.val (Val.lenNil rfl Tryz.underlying128) rfl rfl ?_
 refine SL.val (Val.move rfl) rfl rfl ?_
 refine SL.nil (SE.seq ?_)
 refine SC.block ?_
 refine SC.loop (ι := Nat) (fun z => σ) (fun z => [(0, .sl 3 (xs.map Frm.abs)), (1, .fn (.func k) [] caps), (7, int (xs.length : Nat)), (8, int (z : Nat))]) (fun z => z ≤ xs.length ∧ ∀ j (hj : j < xs.length), j < z → p xs[j] = false) (fun z => xs.length - z) (0) (⟨Nat.zero_le _, by omega⟩) (by exact ⟨rfl, rfl, rfl, rfl, trivial⟩) (by repeat first|exact s0_ _|exact s1_ _|apply s2_|apply s3_) ?_
 intro z hz
 refine SC.seq (SC.region ?_)
 refine SL.val (Val.ltI rfl rfl) rfl rfl ?_
 refine SL.nil (SE.seq ?_)
 refine SC.seq ?_
 refine SC.condP rfl ?_ ?_
 rotate_left
 ·intro hc9
  refine SC.exit ?_
  refine SE.then_ nofun ?_
  refine SE.then_ nofun ?_
  refine SE.exit ?_
  refine SE.seq ?_
  refine SC.seq (SC.region ?_)
  refine SL.val (Val.assign rfl) rfl rfl ?_
  refine SL.nil (SE.seq ?_)
  refine SC.ret ?_
  refine SE.fin (rs := [.tmp 4]) rfl (RV.tmp rfl RV.nil) (⟨-1, ⟨fun h => (by omega), fun ⟨x, hx, hp⟩ => by obtain ⟨j, hj, rfl⟩ := List.getElem_of_mem hx; have := hz.2 j hj (by omega); rw [this] at hp; cases hp⟩⟩) (by repeat first|exact s0_ _|exact s1_ _|apply s2_|apply s3_) (by simp [It.rids]) ?_
  exact rfl
 intro hc9
 have hlt : z < xs.length := by omega
 refine SC.skip ?_
 refine SE.seq ?_
 refine SC.seq ?_
 refine SC.block ?_
 refine SC.seq (SC.region ?_)
 refine SL.val (Val.move rfl) rfl rfl ?_
 refine SL.val (Val.assign rfl) rfl rfl ?_
 refine SL.nil (SE.seq ?_)
 refine SC.seq (SC.region ?_)
 iterate 3 refine SL.val (Val.move rfl) rfl rfl ?_
 refine SL.val (Val.indexSl tabOk Tryz.underlying128 rfl rfl rfl rfl (at_map (by omega)) rfl rfl) rfl rfl ?_
 refine SL.val (Val.loadAR tabOk rfl rfl rfl (Frm.abs_len _)) rfl rfl ?_
 refine SL.callv (h _ (List.getElem_mem hlt)) rfl Casts.refl hb rfl rfl rfl ?_
 refine After.pure (Rds.reads hr (fun x hx => by repeat (first | exact hx | apply List.mem_cons_of_mem))) (fun _ => rfl) ?_
 intro _
 refine SL.nil (SE.seq ?_)
 refine SC.cond rfl ?_ ?_
 rotate_left
 ·intro hc16
  refine SC.skip ?_
  refine SE.inBlock ?_
  refine SE.seq ?_
  refine SC.region ?_
  first
   | refine SL.val (Val.addI rfl rfl (by simp only [InR, lo, hi]; omega)) rfl rfl ?_
   | refine SL.val (Val.addW rfl rfl) rfl rfl ?_
  refine SL.val (Val.move rfl) rfl rfl ?_
  refine SL.nil ?_
  refine SE.round (z + 1) (by first | omega | (dsimp only; omega)) (⟨by omega, fun j hj hjz => by rcases Nat.lt_or_ge j z with h1 | h1; exact hz.2 j hj h1; obtain rfl : j = z := (by omega); exact hc16⟩) (by exact ⟨rfl, rfl, rfl, rfl, trivial⟩) (by repeat first|exact s0_ _|exact s1_ _|apply s2_|apply s3_)
 intro hc16
 refine SC.seq (SC.region ?_)
 refine SL.val (Val.move rfl) rfl rfl ?_
 refine SL.val (Val.assign rfl) rfl rfl ?_
 refine SL.nil (SE.seq ?_)
 refine SC.ret ?_
 refine SE.ret ?_
 refine SE.then_ nofun ?_
 refine SE.then_ nofun ?_
 refine SE.ret ?_
 refine SE.then_ nofun ?_
 refine SE.fin (rs := [.tmp 4]) rfl (RV.tmp rfl RV.nil) (⟨(z : Nat), ⟨fun _ => ⟨_, List.getElem_mem hlt, hc16⟩, fun _ => (by omega)⟩⟩) (by repeat first|exact s0_ _|exact s1_ _|apply s2_|apply s3_) (by simp [It.rids]) ?_
 exact rfl
theorem containsFunc_frm {xs : List Frm} {p : Frm → Bool} {k : Nat} {caps : List Abs} {σ : Blks} (hb : goesIn Tryz.prog k = true) (hr : Rds σ) (hn : xs.length < 9223372036854775807) (h : ∀ x ∈ xs, Spec Tryz.prog k (.agg (Frm.abs x) :: caps) σ (fun _ : Unit => []) (fun _ => boo (p x))) : Spec Tryz.prog 158 [.sl 3 (xs.map Frm.abs), .fn (.func k) [] caps] σ (fun _ : Unit => []) (fun _ => boo (xs.any p)) := by
 refine spec_of Tryz.func158 rfl Tryz.ntmps158 rfl fun G w => ?_
 refine SC.seq (SC.region ?_)
 refine SL.val (Val.assign rfl) rfl rfl ?_
 refine SL.nil (SE.seq ?_)
 refine SC.seq (SC.region ?_)
 iterate 2 refine SL.val (Val.move rfl) rfl rfl ?_
 refine SL.call (indexFunc_frm hb hr hn h) Casts.refl (by kernel_rfl) rfl rfl rfl ?_
 refine After.pure (Rds.reads hr (fun x hx => by repeat (first | exact hx | apply List.mem_cons_of_mem))) (fun _ => rfl) ?_
 intro r
 refine SL.val (Val.geI rfl rfl) rfl rfl ?_
 refine SL.val (Val.assign rfl) rfl rfl ?_
 refine SL.nil (SE.seq ?_)
 refine SC.ret ?_
 refine SE.fin (rs := [.tmp 4]) rfl (RV.tmp rfl RV.nil) (()) (by repeat first|exact s0_ _|exact s1_ _|apply s2_|apply s3_) (by simp [It.rids]) ?_
 refine congrArg (fun b => Abs.v (Value.bool b)) ?_
 rw [Bool.eq_iff_iff, decide_eq_true_iff, r.2, List.any_eq_true]
theorem odd1_s {p : Nat} (h : Spec Tryz.prog 141 [.agg f.abs, int n] [] (fun _ : Unit => []) (fun _ => boo (!f.ranges n))) : Spec Tryz.prog 159 [.agg f.abs, ptr p] [.rd p 3 [int n]] (fun _ : Unit => []) (fun _ => boo (!f.ranges n)) := by
 refine spec_of Tryz.func159 rfl Tryz.ntmps159 rfl fun G w => ?_
 refine SC.seq (SC.region ?_)
 refine SL.eff (Eff.boxA (cs := f.abs) rfl) rfl rfl ?_
 rintro _ _ ⟨b2, rfl, rfl⟩
 refine SL.val (Val.assign rfl) rfl rfl ?_
 refine SL.nil (SE.seq ?_)
 refine SC.seq (SC.region ?_)
 refine SL.val (Val.loadA tabOk rfl rfl rfl (by repeat first|assumption|exact o0_|exact o1_|apply o2_) List.not_mem_nil (Frm.abs_len _)) rfl rfl ?_
 refine SL.val (Val.load1 tabOk rfl rfl (by repeat first|assumption|exact o0_|exact o1_|apply o2_) List.not_mem_nil (by rfl)) rfl rfl ?_
 refine SL.call (h) Casts.refl (by kernel_rfl) rfl rfl rfl ?_
 refine After.pure Reads.nil (fun _ => rfl) ?_
 intro _
 refine SL.val (Val.assign rfl) rfl rfl ?_
 refine SL.nil (SE.seq ?_)
 refine SC.ret ?_
 refine SE.fin (rs := [.tmp 3]) rfl (RV.tmp rfl RV.nil) (()) (by repeat first|exact s0_ _|exact s1_ _|apply s2_|apply s3_) (by simp [It.rids]) ?_
 exact rfl
set_option maxHeartbeats 1000000 in
theorem odd_step (ih : ∀ k ∈ ks, k.nodes ≤ 1099511627776 → Spec Tryz.prog 141 [.agg k.abs, int n] [] (fun _ : Unit => []) (fun _ => boo (!k.ranges n))) (hn : (Frm.mk o a ks).nodes ≤ 1099511627776) : Spec Tryz.prog 141 [.agg (Frm.mk o a ks).abs, int n] [] (fun _ : Unit => []) (fun _ => boo (!(Frm.mk o a ks).ranges n)) := by
 rw [Frm.abs_mk]
 have hlen := Frm.length_le ks
 rw [Frm.nodes_mk] at hn
 refine spec_of Tryz.func141 rfl Tryz.ntmps141 rfl fun G w => ?_
 refine SC.seq (SC.region ?_)
 refine SL.eff (Eff.boxA rfl) rfl rfl ?_
 rintro _ _ ⟨b2, rfl, rfl⟩
 refine SL.eff (Eff.box1 rfl rfl) rfl rfl ?_
 rintro _ _ ⟨b3, rfl, rfl⟩
 refine SL.val (Val.assign rfl) rfl rfl ?_
 refine SL.nil (SE.seq ?_)
 refine SC.seq ?_
 refine SC.seq (SC.region ?_)
 refine SL.val (Val.fieldAddr tabOk rfl rfl rfl rfl rfl) rfl rfl ?_
 refine SL.val (Val.load1 tabOk rfl rfl (by repeat first|assumption|exact o0_|exact o1_|apply o2_) List.not_mem_nil (by rfl)) rfl rfl ?_
 first
  | refine SL.val (Val.lenSl rfl Tryz.underlying128 (List.length_map _)) rfl rfl ?_
  | refine SL.val (Val.lenOwn rfl (by repeat first|assumption|exact m0_|apply m1_) Tryz.underlying128 (List.length_map _)) rfl rfl ?_
  | refine SL.val (Val.lenNil rfl Tryz.underlying128) rfl rfl ?_
 refine SL.val (Val.eqI rfl rfl) rfl rfl ?_
 refine SL.nil (SE.seq ?_)
 refine SC.condP rfl ?_ ?_
 ·intro hc8
  have hk0 : ks = [] := List.eq_nil_of_length_eq_zero (by omega)
  subst hk0
  refine SC.seq (SC.region ?_)
  refine SL.val (Val.fieldAddr tabOk rfl rfl rfl rfl rfl) rfl rfl ?_
  refine SL.val (Val.load1 tabOk rfl rfl (by repeat first|assumption|exact o0_|exact o1_|apply o2_) List.not_mem_nil (by rfl)) rfl rfl ?_
  refine SL.val (Val.neI rfl rfl) rfl rfl ?_
  refine SL.val (Val.move rfl) rfl rfl ?_
  refine SL.bothP (t := 12) rfl ?_ ?_
  ·intro hc12
   iterate 3 refine SL.skip rfl rfl ?_
   refine SL.val (Val.pickT rfl rfl) rfl rfl ?_
   refine SL.val (Val.move rfl) rfl rfl ?_
   iterate 4 refine SL.skip rfl rfl ?_
   refine SL.val (Val.pickT rfl rfl) rfl rfl ?_
   refine SL.val (Val.assign rfl) rfl rfl ?_
   refine SL.nil (SE.seq ?_)
   refine SC.ret ?_
   refine SE.then_ nofun ?_
   refine SE.fin (rs := [.tmp 4]) rfl (RV.tmp rfl RV.nil) (()) (by repeat first|exact s0_ _|exact s1_ _|apply s2_|apply s3_) (by simp [It.rids]) ?_
   first
    | (refine boo_i' ?_; rw [Frm.ranges_leaf, Bool.not_eq_true', decide_eq_false_iff_not]; omega)
    | (refine boo_t' ?_; rw [Frm.ranges_leaf, Bool.not_eq_true', decide_eq_false_iff_not]; omega)
  intro hc12
  refine SL.val (Val.fieldAddr tabOk rfl rfl rfl rfl rfl) rfl rfl ?_
  refine SL.val (Val.load1 tabOk rfl rfl (by repeat first|assumption|exact o0_|exact o1_|apply o2_) List.not_mem_nil (by rfl)) rfl rfl ?_
  refine SL.val (Val.ltI rfl rfl) rfl rfl ?_
  refine SL.val (Val.pickF rfl rfl) rfl rfl ?_
  refine SL.val (Val.move rfl) rfl rfl ?_
  refine SL.bothP (t := 17) rfl ?_ ?_
  ·intro hc17
   iterate 4 refine SL.skip rfl rfl ?_
   refine SL.val (Val.pickT rfl rfl) rfl rfl ?_
   refine SL.val (Val.assign rfl) rfl rfl ?_
   refine SL.nil (SE.seq ?_)
   refine SC.ret ?_
   refine SE.then_ nofun ?_
   refine SE.fin (rs := [.tmp 4]) rfl (RV.tmp rfl RV.nil) (()) (by repeat first|exact s0_ _|exact s1_ _|apply s2_|apply s3_) (by simp [It.rids]) ?_
   first
    | (refine boo_i' ?_; rw [Frm.ranges_leaf, Bool.not_eq_true', decide_eq_false_iff_not]; omega)
    | (refine boo_t' ?_; rw [Frm.ranges_leaf, Bool.not_eq_true', decide_eq_false_iff_not]; omega)
  intro hc17
  refine SL.val (Val.fieldAddr tabOk rfl rfl rfl rfl rfl) rfl rfl ?_
  refine SL.val (Val.load1 tabOk rfl rfl (by repeat first|assumption|exact o0_|exact o1_|apply o2_) List.not_mem_nil (by rfl)) rfl rfl ?_
  refine SL.val (Val.load1 tabOk rfl rfl (by repeat first|assumption|exact o0_|exact o1_|apply o2_) List.not_mem_nil (by rfl)) rfl rfl ?_
  refine SL.val (Val.geI rfl rfl) rfl rfl ?_
  refine SL.val (Val.pickF rfl rfl) rfl rfl ?_
  refine SL.val (Val.assign rfl) rfl rfl ?_
  refine SL.nil (SE.seq ?_)
  refine SC.ret ?_
  refine SE.then_ nofun ?_
  refine SE.fin (rs := [.tmp 4]) rfl (RV.tmp rfl RV.nil) (()) (by repeat first|exact s0_ _|exact s1_ _|apply s2_|apply s3_) (by simp [It.rids]) ?_
  first
   | (refine boo_i' ?_; rw [Frm.ranges_leaf, Bool.not_eq_true', decide_eq_false_iff_not]; omega)
   | (refine boo_t' ?_; rw [Frm.ranges_leaf, Bool.not_eq_true', decide_eq_false_iff_not]; omega)
 intro hc8
 have hk0 : ks ≠ [] := by rintro rfl; simp at hc8
 refine SC.skip ?_
 refine SE.seq ?_
 refine SC.seq (SC.region ?_)
 refine SL.val (Val.fieldAddr tabOk rfl rfl rfl rfl rfl) rfl rfl ?_
 refine SL.val (Val.load1 tabOk rfl rfl (by repeat first|assumption|exact o0_|exact o1_|apply o2_) List.not_mem_nil (by rfl)) rfl rfl ?_
 refine SL.val (Val.neI rfl rfl) rfl rfl ?_
 refine SL.val (Val.move rfl) rfl rfl ?_
 refine SL.bothP (t := 26) rfl ?_ ?_
 ·intro hc26
  iterate 3 refine SL.skip rfl rfl ?_
  refine SL.val (Val.pickT rfl rfl) rfl rfl ?_
  refine SL.val (Val.move rfl) rfl rfl ?_
  iterate 6 refine SL.skip rfl rfl ?_
  refine SL.val (Val.pickT rfl rfl) rfl rfl ?_
  refine SL.val (Val.move rfl) rfl rfl ?_
  iterate 4 refine SL.skip rfl rfl ?_
  refine SL.val (Val.pickT rfl rfl) rfl rfl ?_
  refine SL.val (Val.assign rfl) rfl rfl ?_
  refine SL.nil (SE.seq ?_)
  refine SC.ret ?_
  refine SE.fin (rs := [.tmp 4]) rfl (RV.tmp rfl RV.nil) (()) (by repeat first|exact s0_ _|exact s1_ _|apply s2_|apply s3_) (by simp [It.rids]) ?_
  first
   | (refine boo_t' ?_; rw [Frm.ranges_node n o a hk0, Bool.not_eq_true', Bool.and_eq_false_iff, decide_eq_false_iff_not]; right; omega)
   | (show boo (ks.any fun f => !f.ranges n) = _; refine congrArg (fun b => Abs.v (Value.bool b)) ?_; rw [Frm.ranges_node n o a hk0, show decide (1 ≤ a ∧ a ≤ ((ks.length : Nat) : Int) ∧ o = 0) = true from decide_eq_true (by omega), Bool.and_true, Bool.eq_iff_iff, List.any_eq_true, Bool.not_eq_true', Bool.eq_false_iff, ne_eq, Frm.rangess_iff]; simp)
 intro hc26
 refine SL.val (Val.fieldAddr tabOk rfl rfl rfl rfl rfl) rfl rfl ?_
 refine SL.val (Val.load1 tabOk rfl rfl (by repeat first|assumption|exact o0_|exact o1_|apply o2_) List.not_mem_nil (by rfl)) rfl rfl ?_
 refine SL.val (Val.ltI rfl rfl) rfl rfl ?_
 refine SL.val (Val.pickF rfl rfl) rfl rfl ?_
 refine SL.val (Val.move rfl) rfl rfl ?_
 refine SL.bothP (t := 31) rfl ?_ ?_
 ·intro hc31
  iterate 6 refine SL.skip rfl rfl ?_
  refine SL.val (Val.pickT rfl rfl) rfl rfl ?_
  refine SL.val (Val.move rfl) rfl rfl ?_
  iterate 4 refine SL.skip rfl rfl ?_
  refine SL.val (Val.pickT rfl rfl) rfl rfl ?_
  refine SL.val (Val.assign rfl) rfl rfl ?_
  refine SL.nil (SE.seq ?_)
  refine SC.ret ?_
  refine SE.fin (rs := [.tmp 4]) rfl (RV.tmp rfl RV.nil) (()) (by repeat first|exact s0_ _|exact s1_ _|apply s2_|apply s3_) (by simp [It.rids]) ?_
  first
   | (refine boo_t' ?_; rw [Frm.ranges_node n o a hk0, Bool.not_eq_true', Bool.and_eq_false_iff, decide_eq_false_iff_not]; right; omega)
   | (show boo (ks.any fun f => !f.ranges n) = _; refine congrArg (fun b => Abs.v (Value.bool b)) ?_; rw [Frm.ranges_node n o a hk0, show decide (1 ≤ a ∧ a ≤ ((ks.length : Nat) : Int) ∧ o = 0) = true from decide_eq_true (by omega), Bool.and_true, Bool.eq_iff_iff, List.any_eq_true, Bool.not_eq_true', Bool.eq_false_iff, ne_eq, Frm.rangess_iff]; simp)
 intro hc31
 refine SL.val (Val.fieldAddr tabOk rfl rfl rfl rfl rfl) rfl rfl ?_
 refine SL.val (Val.load1 tabOk rfl rfl (by repeat first|assumption|exact o0_|exact o1_|apply o2_) List.not_mem_nil (by rfl)) rfl rfl ?_
 refine SL.val (Val.fieldAddr tabOk rfl rfl rfl rfl rfl) rfl rfl ?_
 refine SL.val (Val.load1 tabOk rfl rfl (by repeat first|assumption|exact o0_|exact o1_|apply o2_) List.not_mem_nil (by rfl)) rfl rfl ?_
 first
  | refine SL.val (Val.lenSl rfl Tryz.underlying128 (List.length_map _)) rfl rfl ?_
  | refine SL.val (Val.lenOwn rfl (by repeat first|assumption|exact m0_|apply m1_) Tryz.underlying128 (List.length_map _)) rfl rfl ?_
  | refine SL.val (Val.lenNil rfl Tryz.underlying128) rfl rfl ?_
 refine SL.val (Val.gtI rfl rfl) rfl rfl ?_
 refine SL.val (Val.pickF rfl rfl) rfl rfl ?_
 refine SL.val (Val.move rfl) rfl rfl ?_
 refine SL.bothP (t := 39) rfl ?_ ?_
 ·intro hc39
  iterate 4 refine SL.skip rfl rfl ?_
  refine SL.val (Val.pickT rfl rfl) rfl rfl ?_
  refine SL.val (Val.assign rfl) rfl rfl ?_
  refine SL.nil (SE.seq ?_)
  refine SC.ret ?_
  refine SE.fin (rs := [.tmp 4]) rfl (RV.tmp rfl RV.nil) (()) (by repeat first|exact s0_ _|exact s1_ _|apply s2_|apply s3_) (by simp [It.rids]) ?_
  first
   | (refine boo_t' ?_; rw [Frm.ranges_node n o a hk0, Bool.not_eq_true', Bool.and_eq_false_iff, decide_eq_false_iff_not]; right; omega)
   | (show boo (ks.any fun f => !f.ranges n) = _; refine congrArg (fun b => Abs.v (Value.bool b)) ?_; rw [Frm.ranges_node n o a hk0, show decide (1 ≤ a ∧ a ≤ ((ks.length : Nat) : Int) ∧ o = 0) = true from decide_eq_true (by omega), Bool.and_true, Bool.eq_iff_iff, List.any_eq_true, Bool.not_eq_true', Bool.eq_false_iff, ne_eq, Frm.rangess_iff]; simp)
 intro hc39
 refine SL.val (Val.fieldAddr tabOk rfl rfl rfl rfl rfl) rfl rfl ?_
 refine SL.val (Val.load1 tabOk rfl rfl (by repeat first|assumption|exact o0_|exact o1_|apply o2_) List.not_mem_nil (by rfl)) rfl rfl ?_
 refine SL.val (Val.makeFunc rfl rfl) rfl rfl ?_
 refine SL.call (containsFunc_frm (xs := ks) (k := 159) (caps := [ptr b3]) (σ := [.rd b3 3 [int n]]) (p := fun f : Frm => !f.ranges n) (by kernel_rfl) (by intro x hx; simp only [List.mem_cons, List.not_mem_nil, or_false] at hx; rcases hx with rfl; exact .inl ⟨_, _, _, rfl⟩) (by omega) (fun k hk => odd1_s (ih k hk (by have := Frm.nodes_mem hk; omega)))) Casts.refl (by kernel_rfl) rfl rfl rfl ?_
 refine ap_ ?_
 intro _
 refine SL.val (Val.pickF rfl rfl) rfl rfl ?_
 refine SL.val (Val.assign rfl) rfl rfl ?_
 refine SL.nil (SE.seq ?_)
 refine SC.ret ?_
 refine SE.fin (rs := [.tmp 4]) rfl (RV.tmp rfl RV.nil) (()) (by repeat first|exact s0_ _|exact s1_ _|apply s2_|apply s3_) (by simp [It.rids]) ?_
 first
  | (refine boo_t' ?_; rw [Frm.ranges_node n o a hk0, Bool.not_eq_true', Bool.and_eq_false_iff, decide_eq_false_iff_not]; right; omega)
  | (show boo (ks.any fun f => !f.ranges n) = _; refine congrArg (fun b => Abs.v (Value.bool b)) ?_; rw [Frm.ranges_node n o a hk0, show decide (1 ≤ a ∧ a ≤ ((ks.length : Nat) : Int) ∧ o = 0) = true from decide_eq_true (by omega), Bool.and_true, Bool.eq_iff_iff, List.any_eq_true, Bool.not_eq_true', Bool.eq_false_iff, ne_eq, Frm.rangess_iff]; simp)
theorem odd_s (n : Int) (f : Frm) : f.nodes ≤ 1099511627776 → Spec Tryz.prog 141 [.agg f.abs, int n] [] (fun _ : Unit => []) (fun _ => boo (!f.ranges n)) := Frm.ind (p := fun f => f.nodes ≤ 1099511627776 → Spec Tryz.prog 141 [.agg f.abs, int n] [] (fun _ : Unit => []) (fun _ => boo (!f.ranges n))) (fun o a ks ih => fun hn => odd_step ih hn) f
theorem fcheck_s (hn : f.nodes ≤ 1099511627000) : Spec Tryz.prog 120 [.agg f.abs, int n] [] (fun _ : Unit => []) (fun _ => int (f.check n)) := by
 have hdp := f.depth_le
 refine spec_of Tryz.func120 rfl Tryz.ntmps120 rfl fun G w => ?_
 refine SC.seq (SC.region ?_)
 refine SL.eff (Eff.boxA (cs := f.abs) rfl) rfl rfl ?_
 rintro _ _ ⟨b2, rfl, rfl⟩
 refine SL.val (Val.assign rfl) rfl rfl ?_
 refine SL.nil (SE.seq ?_)
 refine SC.seq ?_
 refine SC.seq (SC.region ?_)
 refine SL.val (Val.move rfl) rfl rfl ?_
 refine SL.val (Val.ltI rfl rfl) rfl rfl ?_
 refine SL.val (Val.move rfl) rfl rfl ?_
 refine SL.bothP (t := 9) rfl ?_ ?_
 ·intro hc9
  iterate 2 refine SL.skip rfl rfl ?_
  refine SL.val (Val.pickT rfl rfl) rfl rfl ?_
  refine SL.nil (SE.seq ?_)
  refine SC.condT rfl ?_
  refine SC.seq (SC.region ?_)
  refine SL.val (Val.assign rfl) rfl rfl ?_
  refine SL.nil (SE.seq ?_)
  refine SC.ret ?_
  refine SE.then_ nofun ?_
  try have hr := hc24
  refine SE.fin (rs := [.tmp 4]) rfl (RV.tmp rfl RV.nil) (()) (by repeat first|exact s0_ _|exact s1_ _|apply s2_|apply s3_) (by simp [It.rids]) ?_
  first
   | (refine congrArg int ?_; unfold Frm.check; rw [if_pos (by omega)])
   | (refine congrArg int ?_; unfold Frm.check; rw [if_neg (by omega), if_pos (by omega)])
   | (refine congrArg int ?_; unfold Frm.check; rw [if_neg (by omega), if_neg (by omega), if_pos (by omega)])
   | (refine congrArg int ?_; unfold Frm.check; rw [if_neg (by omega), if_neg (by omega), if_neg (by omega)]; rename_i hr; simp at hr; simp [hr])
 intro hc9
 refine SL.val (Val.move rfl) rfl rfl ?_
 refine SL.val (Val.gtI rfl rfl) rfl rfl ?_
 refine SL.val (Val.pickF rfl rfl) rfl rfl ?_
 refine SL.nil (SE.seq ?_)
 refine SC.condP rfl ?_ ?_
 ·intro hc12
  refine SC.seq (SC.region ?_)
  refine SL.val (Val.assign rfl) rfl rfl ?_
  refine SL.nil (SE.seq ?_)
  refine SC.ret ?_
  refine SE.then_ nofun ?_
  try have hr := hc24
  refine SE.fin (rs := [.tmp 4]) rfl (RV.tmp rfl RV.nil) (()) (by repeat first|exact s0_ _|exact s1_ _|apply s2_|apply s3_) (by simp [It.rids]) ?_
  first
   | (refine congrArg int ?_; unfold Frm.check; rw [if_pos (by omega)])
   | (refine congrArg int ?_; unfold Frm.check; rw [if_neg (by omega), if_pos (by omega)])
   | (refine congrArg int ?_; unfold Frm.check; rw [if_neg (by omega), if_neg (by omega), if_pos (by omega)])
   | (refine congrArg int ?_; unfold Frm.check; rw [if_neg (by omega), if_neg (by omega), if_neg (by omega)]; rename_i hr; simp at hr; simp [hr])
 intro hc12
 refine SC.skip ?_
 refine SE.seq ?_
 refine SC.seq ?_
 refine SC.seq (SC.region ?_)
 refine SL.val (Val.loadA tabOk rfl rfl rfl (by repeat first|assumption|exact o0_|exact o1_|apply o2_) List.not_mem_nil (Frm.abs_len _)) rfl rfl ?_
 refine SL.call (shape_s f 1 (by omega) (by omega) (by omega)) Casts.refl (by kernel_rfl) rfl rfl rfl ?_
 refine ap_ ?_
 intro _
 refine SL.val (Val.move rfl) rfl rfl ?_
 refine SL.val (Val.extract rfl rfl) rfl rfl ?_
 refine SL.val (Val.extract rfl rfl) rfl rfl ?_
 iterate 2 refine SL.val (Val.assign rfl) rfl rfl ?_
 refine SL.nil (SE.seq ?_)
 refine SC.block ?_
 refine SC.seq (SC.region ?_)
 refine SL.val (Val.move rfl) rfl rfl ?_
 refine SL.val (Val.gtI rfl rfl) rfl rfl ?_
 refine SL.val (Val.assign rfl) rfl rfl ?_
 refine SL.nil (SE.seq ?_)
 refine SC.condP rfl ?_ ?_
 ·intro hc18
  refine SC.seq (SC.region ?_)
  refine SL.val (Val.assign rfl) rfl rfl ?_
  refine SL.nil (SE.seq ?_)
  refine SC.ret ?_
  refine SE.ret ?_
  refine SE.then_ nofun ?_
  try have hr := hc24
  refine SE.fin (rs := [.tmp 4]) rfl (RV.tmp rfl RV.nil) (()) (by repeat first|exact s0_ _|exact s1_ _|apply s2_|apply s3_) (by simp [It.rids]) ?_
  first
   | (refine congrArg int ?_; unfold Frm.check; rw [if_pos (by omega)])
   | (refine congrArg int ?_; unfold Frm.check; rw [if_neg (by omega), if_pos (by omega)])
   | (refine congrArg int ?_; unfold Frm.check; rw [if_neg (by omega), if_neg (by omega), if_pos (by omega)])
   | (refine congrArg int ?_; unfold Frm.check; rw [if_neg (by omega), if_neg (by omega), if_neg (by omega)]; rename_i hr; simp at hr; simp [hr])
 intro hc18
 refine SC.seq (SC.region ?_)
 refine SL.val (Val.move rfl) rfl rfl ?_
 refine SL.val (Val.gtI rfl rfl) rfl rfl ?_
 refine SL.val (Val.assign rfl) rfl rfl ?_
 refine SL.nil (SE.seq ?_)
 refine SC.condP rfl ?_ ?_
 ·intro hc21
  refine SC.seq (SC.region ?_)
  refine SL.val (Val.assign rfl) rfl rfl ?_
  refine SL.nil (SE.seq ?_)
  refine SC.ret ?_
  refine SE.ret ?_
  refine SE.then_ nofun ?_
  try have hr := hc24
  refine SE.fin (rs := [.tmp 4]) rfl (RV.tmp rfl RV.nil) (()) (by repeat first|exact s0_ _|exact s1_ _|apply s2_|apply s3_) (by simp [It.rids]) ?_
  first
   | (refine congrArg int ?_; unfold Frm.check; rw [if_pos (by omega)])
   | (refine congrArg int ?_; unfold Frm.check; rw [if_neg (by omega), if_pos (by omega)])
   | (refine congrArg int ?_; unfold Frm.check; rw [if_neg (by omega), if_neg (by omega), if_pos (by omega)])
   | (refine congrArg int ?_; unfold Frm.check; rw [if_neg (by omega), if_neg (by omega), if_neg (by omega)]; rename_i hr; simp at hr; simp [hr])
 intro hc21
 refine SC.seq (SC.region ?_)
 refine SL.val (Val.loadA tabOk rfl rfl rfl (by repeat first|assumption|exact o0_|exact o1_|apply o2_) List.not_mem_nil (Frm.abs_len _)) rfl rfl ?_
 refine SL.val (Val.move rfl) rfl rfl ?_
 refine SL.call (odd_s n f (by omega)) Casts.refl (by kernel_rfl) rfl rfl rfl ?_
 refine ap_ ?_
 intro _
 refine SL.val (Val.assign rfl) rfl rfl ?_
 refine SL.nil (SE.seq ?_)
 refine SC.cond rfl ?_ ?_
 ·intro hc24
  refine SC.seq (SC.region ?_)
  refine SL.val (Val.assign rfl) rfl rfl ?_
  refine SL.nil (SE.seq ?_)
  refine SC.ret ?_
  refine SE.ret ?_
  refine SE.then_ nofun ?_
  try have hr := hc24
  refine SE.fin (rs := [.tmp 4]) rfl (RV.tmp rfl RV.nil) (()) (by repeat first|exact s0_ _|exact s1_ _|apply s2_|apply s3_) (by simp [It.rids]) ?_
  first
   | (refine congrArg int ?_; unfold Frm.check; rw [if_pos (by omega)])
   | (refine congrArg int ?_; unfold Frm.check; rw [if_neg (by omega), if_pos (by omega)])
   | (refine congrArg int ?_; unfold Frm.check; rw [if_neg (by omega), if_neg (by omega), if_pos (by omega)])
   | (refine congrArg int ?_; unfold Frm.check; rw [if_neg (by omega), if_neg (by omega), if_neg (by omega)]; rename_i hr; simp at hr; simp [hr])
 intro hc24
 refine SC.skip ?_
 refine SE.inBlock ?_
 refine SE.seq ?_
 refine SC.seq (SC.region ?_)
 refine SL.val (Val.assign rfl) rfl rfl ?_
 refine SL.nil (SE.seq ?_)
 refine SC.ret ?_
 try have hr := hc24
 refine SE.fin (rs := [.tmp 4]) rfl (RV.tmp rfl RV.nil) (()) (by repeat first|exact s0_ _|exact s1_ _|apply s2_|apply s3_) (by simp [It.rids]) ?_
 first
  | (refine congrArg int ?_; unfold Frm.check; rw [if_pos (by omega)])
  | (refine congrArg int ?_; unfold Frm.check; rw [if_neg (by omega), if_pos (by omega)])
  | (refine congrArg int ?_; unfold Frm.check; rw [if_neg (by omega), if_neg (by omega), if_pos (by omega)])
  | (refine congrArg int ?_; unfold Frm.check; rw [if_neg (by omega), if_neg (by omega), if_neg (by omega)]; rename_i hr; simp at hr; simp [hr])
set_option maxHeartbeats 1000000 in
theorem holds_step (ih : ∀ k ∈ ks, k.nodes ≤ 1099511627776 → k.ranges 7 = true → Spec Tryz.prog 143 [.agg k.abs, u32 s] [] (fun _ : Unit => []) (fun _ => boo (k.holds s))) (hn : (Frm.mk o a ks).nodes ≤ 1099511627776) (hr : (Frm.mk o a ks).ranges 7 = true) : Spec Tryz.prog 143 [.agg (Frm.mk o a ks).abs, u32 s] [] (fun _ : Unit => []) (fun _ => boo ((Frm.mk o a ks).holds s)) := by
 rw [Frm.abs_mk]
 have hlen := Frm.length_le ks
 rw [Frm.nodes_mk] at hn
 have hkr := Frm.kids_range hr
 refine spec_of Tryz.func143 rfl Tryz.ntmps143 rfl fun G w => ?_
 refine SC.seq (SC.region ?_)
 refine SL.eff (Eff.boxA rfl) rfl rfl ?_
 rintro _ _ ⟨b2, rfl, rfl⟩
 refine SL.val (Val.assign rfl) rfl rfl ?_
 refine SL.nil (SE.seq ?_)
 refine SC.seq ?_
 refine SC.seq (SC.region ?_)
 refine SL.val (Val.fieldAddr tabOk rfl rfl rfl rfl rfl) rfl rfl ?_
 refine SL.val (Val.load1 tabOk rfl rfl (by repeat first|assumption|exact o0_|exact o1_|apply o2_) List.not_mem_nil (by rfl)) rfl rfl ?_
 first
  | refine SL.val (Val.lenSl rfl Tryz.underlying128 (List.length_map _)) rfl rfl ?_
  | refine SL.val (Val.lenOwn rfl (by repeat first|assumption|exact m0_|apply m1_) Tryz.underlying128 (List.length_map _)) rfl rfl ?_
  | refine SL.val (Val.lenNil rfl Tryz.underlying128) rfl rfl ?_
 refine SL.val (Val.eqI rfl rfl) rfl rfl ?_
 refine SL.nil (SE.seq ?_)
 refine SC.condP rfl ?_ ?_
 ·intro hc11
  have hk0 : ks = [] := List.eq_nil_of_length_eq_zero (by omega)
  subst hk0
  have hro := hr
  rw [Frm.ranges_leaf, decide_eq_true_iff] at hro
  obtain ⟨m, rfl⟩ : ∃ m : Nat, o = (m : Nat) := ⟨o.toNat, by omega⟩
  refine SC.seq (SC.region ?_)
  refine SL.val (Val.move rfl) rfl rfl ?_
  refine SL.val (Val.fieldAddr tabOk rfl rfl rfl rfl rfl) rfl rfl ?_
  refine SL.val (Val.load1 tabOk rfl rfl (by repeat first|assumption|exact o0_|exact o1_|apply o2_) List.not_mem_nil (by rfl)) rfl rfl ?_
  refine SL.val (Val.to (C := .v (.int .u64 (m : Nat))) (Val.convI rfl Tryz.underlying91 (by kernel_rfl) (by simp only [InR, lo, hi]; omega)) rfl) rfl rfl ?_
  refine SL.val (Val.shrB (m := m) rfl rfl rfl) rfl rfl ?_
  refine SL.val (Val.andW (q := 1#32) rfl rfl) rfl rfl ?_
  refine SL.val (Val.eqI rfl rfl) rfl rfl ?_
  refine SL.val (Val.assign rfl) rfl rfl ?_
  refine SL.nil (SE.seq ?_)
  refine SC.ret ?_
  refine SE.then_ nofun ?_
  refine SE.fin (rs := [.tmp 4]) rfl (RV.tmp rfl RV.nil) (()) (by repeat first|exact s0_ _|exact s1_ _|apply s2_|apply s3_) (by simp [It.rids]) ?_
  refine congrArg (fun b => Abs.v (Value.bool b)) ?_
  rw [Frm.holds_leaf, ← and_bit]
  rw [decide_eq_decide]
  exact Int.ofNat_inj
 intro hc11
 have hk0 : ks ≠ [] := by rintro rfl; simp at hc11
 have hro := hr
 rw [Frm.ranges_node 7 o a hk0, Bool.and_eq_true, decide_eq_true_iff] at hro
 refine SC.skip ?_
 refine SE.seq ?_
 refine SC.seq (SC.region ?_)
 refine SL.val (Val.fieldAddr tabOk rfl rfl rfl rfl rfl) rfl rfl ?_
 refine SL.val (Val.load1 tabOk rfl rfl (by repeat first|assumption|exact o0_|exact o1_|apply o2_) List.not_mem_nil (by rfl)) rfl rfl ?_
 refine SL.val (Val.assign rfl) rfl rfl ?_
 refine SL.nil (SE.seq ?_)
 refine SC.seq ?_
 refine SC.seq (SC.region ?_)
 refine SL.val (Val.fieldAddr tabOk rfl rfl rfl rfl rfl) rfl rfl ?_
 refine SL.val (Val.load1 tabOk rfl rfl (by repeat first|assumption|exact o0_|exact o1_|apply o2_) List.not_mem_nil (by rfl)) rfl rfl ?_
 first
  | refine SL.val (Val.lenSl rfl Tryz.underlying128 (List.length_map _)) rfl rfl ?_
  | refine SL.val (Val.lenOwn rfl (by repeat first|assumption|exact m0_|apply m1_) Tryz.underlying128 (List.length_map _)) rfl rfl ?_
  | refine SL.val (Val.lenNil rfl Tryz.underlying128) rfl rfl ?_
 refine SL.val (Val.move rfl) rfl rfl ?_
 refine SL.nil (SE.seq ?_)
 refine SC.block ?_
 refine SC.loop (ι := Nat) (fun z => [.blk b2 130 [int o, int a, .sl 3 (ks.map Frm.abs)]]) (fun z => [(1, u32 s), (2, ptr b2), (5, int (a - (Frm.holdss s (ks.take z) : Nat))), (22, .sl 3 (ks.map Frm.abs)), (23, int (ks.length : Nat)), (24, int (z : Nat))]) (fun z => z ≤ ks.length) (fun z => ks.length - z) (0) (Nat.zero_le _) (by exact ⟨rfl, rfl, congrArg (fun x : Int => some (int x)) (show a = a - ((0 : Nat) : Int) by omega), rfl, rfl, rfl, trivial⟩) (by repeat first|exact s0_ _|exact s1_ _|apply s2_|apply s3_) ?_
 intro z hz
 refine SC.seq (SC.region ?_)
 refine SL.val (Val.ltI rfl rfl) rfl rfl ?_
 refine SL.nil (SE.seq ?_)
 refine SC.seq ?_
 refine SC.condP rfl ?_ ?_
 rotate_left
 ·intro hc25
  have hz2 : z = ks.length := by omega
  have htk : ks.take z = ks := by rw [hz2]; exact List.take_of_length_le (Nat.le_refl _)
  refine SC.exit ?_
  refine SE.then_ nofun ?_
  refine SE.then_ nofun ?_
  refine SE.exit ?_
  refine SE.seq ?_
  refine SC.seq (SC.region ?_)
  refine SL.val (Val.move rfl) rfl rfl ?_
  refine SL.val (Val.leI rfl rfl) rfl rfl ?_
  refine SL.val (Val.assign rfl) rfl rfl ?_
  refine SL.nil (SE.seq ?_)
  refine SC.ret ?_
  refine SE.fin (rs := [.tmp 4]) rfl (RV.tmp rfl RV.nil) (()) (by repeat first|exact s0_ _|exact s1_ _|apply s2_|apply s3_) (by simp [It.rids]) ?_
  refine boo_i' ?_
  rw [Frm.holds_node s o a hk0, decide_eq_true_iff, htk]
  omega
 intro hc25
 have hlt : z < ks.length := by omega
 have hkz := Frm.nodes_mem (List.getElem_mem hlt)
 have hdz := Frm.depths_mem (List.getElem_mem hlt)
 have htn := Frm.take_nodes1 hlt
 have htd := Frm.take_depths1 hlt
 have htl := Frm.take_nodes (ks := ks) (z + 1)
 have hdn := Frm.depth_le (ks[z]'hlt)
 have hth := Frm.take_holds1 (s := s) hlt
 refine SC.skip ?_
 refine SE.seq ?_
 refine SC.seq ?_
 refine SC.block ?_
 refine SC.seq (SC.region ?_)
 refine SL.val (Val.indexSl tabOk Tryz.underlying128 rfl rfl rfl rfl (at_map (by omega)) rfl rfl) rfl rfl ?_
 refine SL.val (Val.loadAR tabOk rfl rfl rfl (Frm.abs_len _)) rfl rfl ?_
 refine SL.eff (Eff.alloc tabOk rfl) rfl rfl ?_
 rintro _ _ ⟨b7, rfl, rfl⟩
 refine SL.eff (Eff.store (L' := (ks[z]'hlt).abs) tabOk rfl rfl rfl (by repeat first|assumption|exact Upd.here|apply Upd.there) (by exact Frm.abs_len _) (lb_ (by rfl)) (by exact Frm.abs_ones _) (putL_whole (by exact Frm.abs_len _))) rfl rfl ?_
 rintro _ _ ⟨rfl, rfl⟩
 refine SL.nil (SE.seq ?_)
 refine SC.seq (SC.region ?_)
 refine SL.val (Val.loadA tabOk rfl rfl rfl (by repeat first|assumption|exact o0_|exact o1_|apply o2_) List.not_mem_nil (Frm.abs_len _)) rfl rfl ?_
 refine SL.val (Val.move rfl) rfl rfl ?_
 refine SL.call (ih (ks[z]'hlt) (List.getElem_mem hlt) (by omega) (hkr _ (List.getElem_mem hlt))) Casts.refl (by kernel_rfl) rfl rfl rfl ?_
 refine ap_ ?_
 intro _
 refine SL.nil (SE.seq ?_)
 refine SC.cond rfl ?_ ?_
 rotate_left
 ·intro hc30
  rw [if_neg (by rw [hc30]; decide)] at hth
  refine SC.skip ?_
  refine SE.inBlock ?_
  refine SE.seq ?_
  refine SC.region ?_
  first
   | refine SL.val (Val.addI rfl rfl (by simp only [InR, lo, hi]; omega)) rfl rfl ?_
   | refine SL.val (Val.addW rfl rfl) rfl rfl ?_
  refine SL.val (Val.move rfl) rfl rfl ?_
  refine SL.nil ?_
  refine SE.round (z + 1) (by first | omega | (dsimp only; omega)) (by first | omega | (dsimp only; omega)) (by exact ⟨rfl, rfl, congrArg (fun x : Int => some (int x)) (show a - (Frm.holdss s (ks.take z) : Nat) = a - (Frm.holdss s (ks.take (z + 1)) : Nat) by omega), rfl, rfl, rfl, trivial⟩) (by repeat first|exact s0_ _|exact s1_ _|apply s2_|apply s3_)
 intro hc30
 rw [if_pos hc30] at hth
 refine SC.region ?_
 refine SL.val (Val.move rfl) rfl rfl ?_
 refine SL.val (Val.to (C := int (a - (Frm.holdss s (ks.take (z + 1)) : Nat))) (Val.subI rfl rfl (by have := Frm.holdss_le s (ks.take z); rw [List.length_take] at this; simp only [InR, lo, hi]; omega)) (congrArg int (by have := Frm.take_holds1 (s := s) hlt; rw [if_pos (by assumption)] at this; omega))) rfl rfl ?_
 refine SL.val (Val.assign rfl) rfl rfl ?_
 refine SL.nil ?_
 refine SE.inBlock ?_
 refine SE.seq ?_
 refine SC.region ?_
 first
  | refine SL.val (Val.addI rfl rfl (by simp only [InR, lo, hi]; omega)) rfl rfl ?_
  | refine SL.val (Val.addW rfl rfl) rfl rfl ?_
 refine SL.val (Val.move rfl) rfl rfl ?_
 refine SL.nil ?_
 refine SE.round (z + 1) (by first | omega | (dsimp only; omega)) (by first | omega | (dsimp only; omega)) (by exact ⟨rfl, rfl, rfl, rfl, rfl, rfl, trivial⟩) (by repeat first|exact s0_ _|exact s1_ _|apply s2_|apply s3_)
theorem holds_s (s : Wo) (f : Frm) : f.nodes ≤ 1099511627776 → f.ranges 7 = true → Spec Tryz.prog 143 [.agg f.abs, u32 s] [] (fun _ : Unit => []) (fun _ => boo (f.holds s)) := Frm.ind (p := fun f => f.nodes ≤ 1099511627776 → f.ranges 7 = true → Spec Tryz.prog 143 [.agg f.abs, u32 s] [] (fun _ : Unit => []) (fun _ => boo (f.holds s))) (fun o a ks ih => fun hn hr => holds_step ih hn hr) f
theorem right_s (hn : f.nodes ≤ 1099511627000) : Spec Tryz.prog 142 [.agg f.abs] [] (fun _ : Unit => []) (fun _ => boo (decide (f.check 7 = 0))) := by
 refine spec_of Tryz.func142 rfl Tryz.ntmps142 rfl fun G w => ?_
 refine SC.seq (SC.region ?_)
 refine SL.eff (Eff.boxA (cs := f.abs) rfl) rfl rfl ?_
 rintro _ _ ⟨b1, rfl, rfl⟩
 refine SL.val (Val.assign rfl) rfl rfl ?_
 refine SL.nil (SE.seq ?_)
 refine SC.seq (SC.region ?_)
 refine SL.val (Val.loadA tabOk rfl rfl rfl (by repeat first|assumption|exact o0_|exact o1_|apply o2_) List.not_mem_nil (Frm.abs_len _)) rfl rfl ?_
 refine SL.call (fcheck_s (n := 7) hn) Casts.refl (by kernel_rfl) rfl rfl rfl ?_
 refine ap_ ?_
 intro _
 refine SL.val (Val.eqI rfl rfl) rfl rfl ?_
 refine SL.val (Val.assign rfl) rfl rfl ?_
 refine SL.nil (SE.seq ?_)
 refine SC.ret ?_
 refine SE.fin (rs := [.tmp 2]) rfl (RV.tmp rfl RV.nil) (()) (by repeat first|exact s0_ _|exact s1_ _|apply s2_|apply s3_) (by simp [It.rids]) ?_
 exact rfl
theorem fholds_s (hn : f.nodes ≤ 1099511627000) : Spec Tryz.prog 121 [.agg f.abs, u32 s] [] (fun _ : Unit => []) (fun _ => boo (decide (f.check 7 = 0) && f.holds s)) := by
 refine spec_of Tryz.func121 rfl Tryz.ntmps121 rfl fun G w => ?_
 refine SC.seq (SC.region ?_)
 refine SL.eff (Eff.boxA (cs := f.abs) rfl) rfl rfl ?_
 rintro _ _ ⟨b2, rfl, rfl⟩
 refine SL.val (Val.assign rfl) rfl rfl ?_
 refine SL.nil (SE.seq ?_)
 refine SC.seq (SC.region ?_)
 refine SL.val (Val.loadA tabOk rfl rfl rfl (by repeat first|assumption|exact o0_|exact o1_|apply o2_) List.not_mem_nil (Frm.abs_len _)) rfl rfl ?_
 refine SL.call (right_s hn) Casts.refl (by kernel_rfl) rfl rfl rfl ?_
 refine ap_ ?_
 intro _
 refine SL.val (Val.move rfl) rfl rfl ?_
 refine SL.bothP (t := 7) rfl ?_ ?_
 rotate_left
 ·intro hc7
  iterate 3 refine SL.skip rfl rfl ?_
  refine SL.val (Val.pickF rfl rfl) rfl rfl ?_
  refine SL.val (Val.assign rfl) rfl rfl ?_
  refine SL.nil (SE.seq ?_)
  refine SC.ret ?_
  refine SE.fin (rs := [.tmp 4]) rfl (RV.tmp rfl RV.nil) (()) (by repeat first|exact s0_ _|exact s1_ _|apply s2_|apply s3_) (by simp [It.rids]) ?_
  first
   | (rw [decide_eq_true (by assumption), Bool.true_and]; rfl)
   | (rw [decide_eq_false (by assumption), Bool.false_and]; rfl)
 intro hc7
 refine SL.val (Val.loadA tabOk rfl rfl rfl (by repeat first|assumption|exact o0_|exact o1_|apply o2_) List.not_mem_nil (Frm.abs_len _)) rfl rfl ?_
 refine SL.val (Val.move rfl) rfl rfl ?_
 refine SL.call (holds_s s f (by omega) (Frm.check_ok.1 (by assumption)).2.2.2) Casts.refl (by kernel_rfl) rfl rfl rfl ?_
 refine ap_ ?_
 intro _
 refine SL.val (Val.pickT rfl rfl) rfl rfl ?_
 refine SL.val (Val.assign rfl) rfl rfl ?_
 refine SL.nil (SE.seq ?_)
 refine SC.ret ?_
 refine SE.fin (rs := [.tmp 4]) rfl (RV.tmp rfl RV.nil) (()) (by repeat first|exact s0_ _|exact s1_ _|apply s2_|apply s3_) (by simp [It.rids]) ?_
 first
  | (rw [decide_eq_true (by assumption), Bool.true_and]; rfl)
  | (rw [decide_eq_false (by assumption), Bool.false_and]; rfl)
theorem enough_s (hn : f.nodes ≤ 1099511627000) : Spec Tryz.prog 101 [.agg f.abs, u32 s, int n] [] (fun _ : Unit => []) (fun _ => boo (decide (f.check n = 0) && f.holds s)) := by
 refine spec_of Tryz.func101 rfl Tryz.ntmps101 rfl fun G w => ?_
 refine SC.seq (SC.region ?_)
 refine SL.eff (Eff.boxA (cs := f.abs) rfl) rfl rfl ?_
 rintro _ _ ⟨b3, rfl, rfl⟩
 refine SL.val (Val.assign rfl) rfl rfl ?_
 refine SL.nil (SE.seq ?_)
 refine SC.seq (SC.region ?_)
 refine SL.val (Val.loadA tabOk rfl rfl rfl (by repeat first|assumption|exact o0_|exact o1_|apply o2_) List.not_mem_nil (Frm.abs_len _)) rfl rfl ?_
 refine SL.val (Val.move rfl) rfl rfl ?_
 refine SL.call (fcheck_s (n := n) hn) Casts.refl (by kernel_rfl) rfl rfl rfl ?_
 refine ap_ ?_
 intro _
 refine SL.val (Val.eqI rfl rfl) rfl rfl ?_
 refine SL.val (Val.move rfl) rfl rfl ?_
 refine SL.bothP (t := 11) rfl ?_ ?_
 rotate_left
 ·intro hc11
  iterate 3 refine SL.skip rfl rfl ?_
  refine SL.val (Val.pickF rfl rfl) rfl rfl ?_
  refine SL.val (Val.assign rfl) rfl rfl ?_
  refine SL.nil (SE.seq ?_)
  refine SC.ret ?_
  refine SE.fin (rs := [.tmp 6]) rfl (RV.tmp rfl RV.nil) (()) (by repeat first|exact s0_ _|exact s1_ _|apply s2_|apply s3_) (by simp [It.rids]) ?_
  first
   | (rw [decide_eq_true hc11, decide_eq_true (Frm.check_ok.2 (by have h9 := Frm.check_ok.1 hc11; exact ⟨by omega, h9.2.1, h9.2.2.1, Frm.ranges_mono h9.1.2 f h9.2.2.2⟩)), Bool.true_and]; rfl)
   | (rw [decide_eq_false hc11, Bool.false_and]; rfl)
 intro hc11
 refine SL.val (Val.loadA tabOk rfl rfl rfl (by repeat first|assumption|exact o0_|exact o1_|apply o2_) List.not_mem_nil (Frm.abs_len _)) rfl rfl ?_
 refine SL.val (Val.move rfl) rfl rfl ?_
 refine SL.call (fholds_s (s := s) hn) Casts.refl (by kernel_rfl) rfl rfl rfl ?_
 refine ap_ ?_
 intro _
 refine SL.val (Val.pickT rfl rfl) rfl rfl ?_
 refine SL.val (Val.assign rfl) rfl rfl ?_
 refine SL.nil (SE.seq ?_)
 refine SC.ret ?_
 refine SE.fin (rs := [.tmp 6]) rfl (RV.tmp rfl RV.nil) (()) (by repeat first|exact s0_ _|exact s1_ _|apply s2_|apply s3_) (by simp [It.rids]) ?_
 first
  | (rw [decide_eq_true hc11, decide_eq_true (Frm.check_ok.2 (by have h9 := Frm.check_ok.1 hc11; exact ⟨by omega, h9.2.1, h9.2.2.1, Frm.ranges_mono h9.1.2 f h9.2.2.2⟩)), Bool.true_and]; rfl)
  | (rw [decide_eq_false hc11, Bool.false_and]; rfl)
end
end Go.Proofs.YtickdhjljpnlpaaGreatDoor.A
