/-
  Layer 10: a step of a letter: the document; the laws.
-/
import Derived.Test.YtdbeinbgekdnmaaLetterStep
set_option maxRecDepth 100000
namespace Go.Proofs.Ytdbeinbgekdnmaa
open Go.RowKit

theorem ref10_apply (w : World) (l : Ltr) (a b : Int) (text : ByteArray) :
    Calls Try.prog 80 #[.agg l.cells, .int .i64 a, .int .i64 b, .string text] w fun e w' => e = .returned (.tuple #[.agg (l.apply a b text).1.cells, .int .i64 (l.apply a b text).2]) ∧ Ext [] w w' := by
  by_cases h1 : a < 1
  · rw [show l.apply a b text = (l, 5) by simp [Ltr.apply, h1]]
    change Calls Try.prog 80 #[.agg #[.string l.name, .int .i64 l.state, .int .i64 l.amount, .int .i64 l.due, .string l.policy, .string l.papers], .int .i64 a, .int .i64 b, .string text] w _
    go_enter Try.func80, Try.ntmps80
    go_wp2
    exact bodyPost_ret (results_row_tmp rfl _ _ (w.heap.size + 1) _ _ _ _ rfl (heap_alloc2_new _ _ _) Try.underlying56 rfl (by kernel_rfl)) rfl ⟨rfl, ((Ext.refl _).alloc _).alloc _⟩
  by_cases h2 : 1099511627776 < a
  · rw [show l.apply a b text = (l, 6) by simp [Ltr.apply, h1, isAmt]; omega]
    change Calls Try.prog 80 #[.agg #[.string l.name, .int .i64 l.state, .int .i64 l.amount, .int .i64 l.due, .string l.policy, .string l.papers], .int .i64 a, .int .i64 b, .string text] w _
    go_enter Try.func80, Try.ntmps80
    go_wp2
    exact bodyPost_ret (results_row_tmp rfl _ _ (w.heap.size + 1) _ _ _ _ rfl (heap_alloc2_new _ _ _) Try.underlying56 rfl (by kernel_rfl)) rfl ⟨rfl, ((Ext.refl _).alloc _).alloc _⟩
  have h2' : isAmt a = true := isAmt_mk (by omega) (by omega)
  cases h3 : isAmt b
  · rw [show l.apply a b text = (l, 5) by simp [Ltr.apply, h2', h3]]
    have H3 := Lib.hid h3; clear h3 h2'
    change Calls Try.prog 80 #[.agg #[.string l.name, .int .i64 l.state, .int .i64 l.amount, .int .i64 l.due, .string l.policy, .string l.papers], .int .i64 a, .int .i64 b, .string text] w _
    go_enter Try.func80, Try.ntmps80
    go_wp2_with (go_at_call 82; with_reducible refine (ref10_Day b _ H3.out _).mono ?_; rintro e _ ⟨rfl, rfl⟩)
    exact bodyPost_ret (results_row_tmp rfl _ _ (w.heap.size + 1) _ _ _ _ rfl (heap_alloc2_new _ _ _) Try.underlying56 rfl (by kernel_rfl)) rfl ⟨rfl, ((Ext.refl _).alloc _).alloc _⟩
  · rw [show l.apply a b text = (⟨l.name, 0, a, b, text, ByteArray.empty⟩, 0) by simp [Ltr.apply, h1, h2', h3]]
    have H3 := Lib.hid h3; clear h3 h2'
    change Calls Try.prog 80 #[.agg #[.string l.name, .int .i64 l.state, .int .i64 l.amount, .int .i64 l.due, .string l.policy, .string l.papers], .int .i64 a, .int .i64 b, .string text] w _
    go_enter Try.func80, Try.ntmps80
    go_wp2_with (go_at_call 82; with_reducible refine (ref10_Day b _ H3.out _).mono ?_; rintro e _ ⟨rfl, rfl⟩)
    exact bodyPost_ret (results_row_tmp rfl _ _ (w.heap.size + 1) _ _ _ _ rfl (heap_alloc2_new _ _ _) Try.underlying56 rfl (by kernel_rfl)) rfl ⟨rfl, ((Ext.refl _).alloc _).alloc _⟩

theorem ref10_amend (w : World) (l : Ltr) (a b : Int) (hl : i64ok l.amount) (ha : i64ok a) :
    Calls Try.prog 81 #[.agg l.cells, .int .i64 a, .int .i64 b] w fun e w' => e = .returned (.tuple #[.agg (l.amend a b).1.cells, .int .i64 (l.amend a b).2]) ∧ Ext [] w w' := by
  obtain ⟨a0, a1⟩ := ha
  obtain ⟨l0, l1⟩ := hl
  by_cases he : (amtChange l.amount a).2 = 0
  · have hb : ((amtChange l.amount a).2 != 0) = false := by simp [he]
    by_cases hv : (amtChange l.amount a).1 = 0
    · rw [show l.amend a b = (l, 5) by simp [Ltr.amend, he, hv]]
      have hvb : ((amtChange l.amount a).1 == 0) = true := by simp [hv]
      clear he hv
      change Calls Try.prog 81 #[.agg #[.string l.name, .int .i64 l.state, .int .i64 l.amount, .int .i64 l.due, .string l.policy, .string l.papers], .int .i64 a, .int .i64 b] w _
      go_enter Try.func81, Try.ntmps81
      go_wp2_with (go_at_call 26; refine (ref07_Change' _ _ _ l0 l1 a0 a1).mono ?_; rintro e _ ⟨rfl, rfl⟩)
      exact bodyPost_ret (results_row_tmp rfl _ _ (w.heap.size + 1) _ _ _ _ rfl (heap_alloc2_new _ _ _) Try.underlying56 rfl (by kernel_rfl)) rfl ⟨rfl, ((Ext.refl _).alloc _).alloc _⟩
    · have hvb : ((amtChange l.amount a).1 == 0) = false := by simpa using hv
      cases hd : isAmt b
      · rw [show l.amend a b = (l, 5) by simp [Ltr.amend, he, hd]]
        have HD := Lib.hid hd
        clear he hv hd
        change Calls Try.prog 81 #[.agg #[.string l.name, .int .i64 l.state, .int .i64 l.amount, .int .i64 l.due, .string l.policy, .string l.papers], .int .i64 a, .int .i64 b] w _
        go_enter Try.func81, Try.ntmps81
        go_wp2_with (first
          | (go_at_call 26; refine (ref07_Change' _ _ _ l0 l1 a0 a1).mono ?_; rintro e _ ⟨rfl, rfl⟩)
          | (go_at_call 82; with_reducible refine (ref10_Day b _ HD.out _).mono ?_; rintro e _ ⟨rfl, rfl⟩))
        exact bodyPost_ret (results_row_tmp rfl _ _ (w.heap.size + 1) _ _ _ _ rfl (heap_alloc2_new _ _ _) Try.underlying56 rfl (by kernel_rfl)) rfl ⟨rfl, ((Ext.refl _).alloc _).alloc _⟩
      · by_cases h0 : b = 0
        · subst h0
          rw [show l.amend a 0 = ({ l with amount := (amtChange l.amount a).1 }, 0) by simp [Ltr.amend, he, hd, hv]]
          have HD := Lib.hid hd
          clear he hv hd
          change Calls Try.prog 81 #[.agg #[.string l.name, .int .i64 l.state, .int .i64 l.amount, .int .i64 l.due, .string l.policy, .string l.papers], .int .i64 a, .int .i64 0] w _
          go_enter Try.func81, Try.ntmps81
          go_wp2_with (first
            | (go_at_call 26; refine (ref07_Change' _ _ _ l0 l1 a0 a1).mono ?_; rintro e _ ⟨rfl, rfl⟩)
            | (go_at_call 82; with_reducible refine (ref10_Day 0 _ HD.out _).mono ?_; rintro e _ ⟨rfl, rfl⟩))
          exact bodyPost_ret (results_row_tmp rfl _ _ (w.heap.size + 1) _ _ _ _ rfl (heap_alloc2_new _ _ _) Try.underlying56 rfl (by kernel_rfl)) rfl ⟨rfl, ((Ext.refl _).alloc _).alloc _⟩
        · have h0b : (b != 0) = true := by simpa using h0
          rw [show l.amend a b = ({ l with amount := (amtChange l.amount a).1, due := b }, 0) by simp [Ltr.amend, he, hd, hv, h0]]
          have HD := Lib.hid hd
          clear he hv hd h0
          change Calls Try.prog 81 #[.agg #[.string l.name, .int .i64 l.state, .int .i64 l.amount, .int .i64 l.due, .string l.policy, .string l.papers], .int .i64 a, .int .i64 b] w _
          go_enter Try.func81, Try.ntmps81
          go_wp2_with (first
            | (go_at_call 26; refine (ref07_Change' _ _ _ l0 l1 a0 a1).mono ?_; rintro e _ ⟨rfl, rfl⟩)
            | (go_at_call 82; with_reducible refine (ref10_Day b _ HD.out _).mono ?_; rintro e _ ⟨rfl, rfl⟩))
          exact bodyPost_ret (results_row_tmp rfl _ _ (w.heap.size + 1) _ _ _ _ rfl (heap_alloc2_new _ _ _) Try.underlying56 rfl (by kernel_rfl)) rfl ⟨rfl, ((Ext.refl _).alloc _).alloc _⟩
  · have hb : ((amtChange l.amount a).2 != 0) = true := by simpa using he
    rw [show l.amend a b = (l, (amtChange l.amount a).2) by simp [Ltr.amend, he]]
    clear he
    change Calls Try.prog 81 #[.agg #[.string l.name, .int .i64 l.state, .int .i64 l.amount, .int .i64 l.due, .string l.policy, .string l.papers], .int .i64 a, .int .i64 b] w _
    go_enter Try.func81, Try.ntmps81
    go_wp2_with (go_at_call 26; refine (ref07_Change' _ _ _ l0 l1 a0 a1).mono ?_; rintro e _ ⟨rfl, rfl⟩)
    exact bodyPost_ret (results_row_tmp rfl _ _ (w.heap.size + 1) _ _ _ _ rfl (heap_alloc2_new _ _ _) Try.underlying56 rfl (by kernel_rfl)) rfl ⟨rfl, ((Ext.refl _).alloc _).alloc _⟩

set_option maxHeartbeats 2000000 in
theorem ref10_Step (w : World) (l : Ltr) (op a b : Int) (text : ByteArray) (hl : l.Wf) (ha : i64ok a) (ht : text.size ≤ 9223372036854775807) :
    Calls Try.prog 46 #[.agg l.cells, .int .i64 op, .int .i64 a, .int .i64 b, .string text] w fun e w' => e = .returned (.tuple #[.agg (l.step op a b text).1.cells, .int .i64 (l.step op a b text).2]) ∧ Ext [] w w' := by
  by_cases h1 : op < 1
  · rw [show l.step op a b text = (Ltr.none, 1) by simp [Ltr.step, h1]]
    change Calls Try.prog 46 #[.agg #[.string l.name, .int .i64 l.state, .int .i64 l.amount, .int .i64 l.due, .string l.policy, .string l.papers], .int .i64 op, .int .i64 a, .int .i64 b, .string text] w _
    go_enter Try.func46, Try.ntmps46
    go_wp2_with (go_at_call 48; refine (ref10_Next _ _ _).mono ?_; rintro e _ ⟨rfl, rfl⟩)
    exact bodyPost_ret (results_row_tmp rfl _ _ (w.heap.size + 1) _ _ _ _ rfl (heap_alloc2_new _ _ _) Try.underlying56 rfl (by kernel_rfl)) rfl ⟨rfl, ((Ext.refl _).alloc _).alloc _⟩
  by_cases h2 : 9 < op
  · rw [show l.step op a b text = (Ltr.none, 1) by simp [Ltr.step, h2]]
    change Calls Try.prog 46 #[.agg #[.string l.name, .int .i64 l.state, .int .i64 l.amount, .int .i64 l.due, .string l.policy, .string l.papers], .int .i64 op, .int .i64 a, .int .i64 b, .string text] w _
    go_enter Try.func46, Try.ntmps46
    go_wp2_with (go_at_call 48; refine (ref10_Next _ _ _).mono ?_; rintro e _ ⟨rfl, rfl⟩)
    exact bodyPost_ret (results_row_tmp rfl _ _ (w.heap.size + 1) _ _ _ _ rfl (heap_alloc2_new _ _ _) Try.underlying56 rfl (by kernel_rfl)) rfl ⟨rfl, ((Ext.refl _).alloc _).alloc _⟩
  have h3 : ¬ (op < 1 ∨ 9 < op) := by omega
  by_cases hn : ltrNext l.state op = 0
  · rw [show l.step op a b text = (Ltr.none, 8) by simp only [Ltr.step, if_neg h3, if_pos hn]]
    have hnb : (ltrNext l.state op == 0) = true := by simp [hn]
    clear hn h3
    change Calls Try.prog 46 #[.agg #[.string l.name, .int .i64 l.state, .int .i64 l.amount, .int .i64 l.due, .string l.policy, .string l.papers], .int .i64 op, .int .i64 a, .int .i64 b, .string text] w _
    go_enter Try.func46, Try.ntmps46
    go_wp2_with (go_at_call 48; refine (ref10_Next _ _ _).mono ?_; rintro e _ ⟨rfl, rfl⟩)
    exact bodyPost_ret (results_row_tmp rfl _ _ (w.heap.size + 1) _ _ _ _ rfl (heap_alloc2_new _ _ _) Try.underlying56 rfl (by kernel_rfl)) rfl ⟨rfl, ((Ext.refl _).alloc _).alloc _⟩
  have hs : l.step op a b text = if (l.does op a b text).2 ≠ 0 then (Ltr.none, (l.does op a b text).2) else ({ (l.does op a b text).1 with state := ltrNext l.state op }, 0) := by
    simp only [Ltr.step, if_neg h3, if_neg hn]
  have hnb : (ltrNext l.state op == 0) = false := by simpa using hn
  rw [hs]
  clear hs hn
  have : op = 1 ∨ op = 2 ∨ op = 3 ∨ op = 4 ∨ op = 5 ∨ op = 6 ∨ op = 7 ∨ op = 8 ∨ op = 9 := by omega
  clear h1 h2 h3
  have HB : Hid (LtrAt ((w.alloc (.cells l.cells 56)).alloc (.cells Ltr.none.cells 56)) w.heap.size l) := Blk.alloc (Blk.new _ _ _) _
  have HR : Hid (LtrAt ((w.alloc (.cells l.cells 56)).alloc (.cells Ltr.none.cells 56)) (w.heap.size + 1) Ltr.none) := by
    have := Blk.new (w.alloc (.cells l.cells 56)) 56 Ltr.none.cells
    rw [World.size_alloc] at this
    exact this
  have hx : Ext [] w ((w.alloc (.cells l.cells 56)).alloc (.cells Ltr.none.cells 56)) := ((Ext.refl _).alloc _).alloc _
  rcases this with rfl | rfl | rfl | rfl | rfl | rfl | rfl | rfl | rfl
  ·
    by_cases hs : 200 < text.size
    · rw [show l.does 1 a b text = (l, 3) by simp [Ltr.does, hs]]
      rw [if_pos (by simp)]
      change Calls Try.prog 46 #[.agg #[.string l.name, .int .i64 l.state, .int .i64 l.amount, .int .i64 l.due, .string l.policy, .string l.papers], .int .i64 1, .int .i64 a, .int .i64 b, .string text] w _
      go_enter Try.func46, Try.ntmps46
      go_wp2_with (go_at_call 48; refine (ref10_Next _ _ _).mono ?_; rintro e _ ⟨rfl, rfl⟩)
      exact bodyPost_ret (results_row_tmp rfl _ _ (w.heap.size + 1) _ _ _ _ rfl (heap_alloc2_new _ _ _) Try.underlying56 rfl (by kernel_rfl)) rfl ⟨rfl, ((Ext.refl _).alloc _).alloc _⟩
    · rw [show l.does 1 a b text = l.apply a b text by simp [Ltr.does, hs]]
      have hc := fun w2 => ref10_apply w2 l a b text
      generalize l.apply a b text = r at *
      obtain ⟨l2, e2⟩ := r
      dsimp only at *
      have HC := Lib.hid hc
      clear hc
      by_cases he : e2 = 0
      · subst he
        rw [if_neg (by simp)]
        change Calls Try.prog 46 #[.agg #[.string l.name, .int .i64 l.state, .int .i64 l.amount, .int .i64 l.due, .string l.policy, .string l.papers], .int .i64 1, .int .i64 a, .int .i64 b, .string text] w _
        go_enter Try.func46, Try.ntmps46
        go_wp2_with (first
          | (go_at_call 48; refine (ref10_Next _ _ _).mono ?_; rintro e _ ⟨rfl, rfl⟩)
          | ((with_reducible refine at_op ⟨some 44, _, _, _, _, _⟩ ?_); refine wpList_load_row rfl _ _ rfl w.heap.size rfl _ _ _ _ HB.out Try.underlying56 rfl (by kernel_rfl) ?_)
          | (go_at_call 80; refine (HC.out _).mono ?_; rintro e w2 ⟨rfl, x2⟩; have hp2 := Lib.hid (Blk.ext HB.out x2 (by simp)); have hq2 := Lib.hid (Blk.ext HR.out x2 (by simp)))
          | ((with_reducible refine at_op ⟨none, .store _ (.tmp 5) (.tmp 49), _, _, _, _⟩ ?_); refine wpList_store_ltr (p := w.heap.size) (l := l) hp2.out l2 rfl _ _ rfl rfl rfl ?_; intro w3 hw3 x3; have g1 := hw3.c1; have f1 := hw3.frozen 1; have h4 := Lib.hid (hw3.setState (ltrNext l.state 1)); have h5 := Lib.hid (Blk.far (Blk.ext hq2.out x3 (by simp)) (p := ⟨w.heap.size, 1, none⟩) (by simp) (.int .i64 (ltrNext l.state 1))))
          | ((with_reducible refine at_op ⟨some 93, _, _, _, _, _⟩ ?_); refine wpList_load_row rfl _ _ rfl w.heap.size rfl _ _ _ _ h4.out Try.underlying56 rfl (by kernel_rfl) ?_)
          | ((with_reducible refine at_op ⟨none, .store _ (.tmp 10) (.tmp 93), _, _, _, _⟩ ?_); refine wpList_store_ltr (p := w.heap.size + 1) (l := Ltr.none) h5.out { l2 with state := ltrNext l.state 1 } rfl _ _ rfl rfl rfl ?_; intro w5 hw5 x5))
        exact bodyPost_ret (results_row_tmp rfl _ _ (w.heap.size + 1) _ _ _ _ rfl hw5 Try.underlying56 rfl (by kernel_rfl)) rfl ⟨rfl, hx.trans (((x2.app x3).setCell (by simp) _).app x5) (by simp)⟩
      · have heb : (e2 != 0) = true := by simpa using he
        rw [if_pos he]
        clear he
        change Calls Try.prog 46 #[.agg #[.string l.name, .int .i64 l.state, .int .i64 l.amount, .int .i64 l.due, .string l.policy, .string l.papers], .int .i64 1, .int .i64 a, .int .i64 b, .string text] w _
        go_enter Try.func46, Try.ntmps46
        go_wp2_with (first
          | (go_at_call 48; refine (ref10_Next _ _ _).mono ?_; rintro e _ ⟨rfl, rfl⟩)
          | ((with_reducible refine at_op ⟨some 44, _, _, _, _, _⟩ ?_); refine wpList_load_row rfl _ _ rfl w.heap.size rfl _ _ _ _ HB.out Try.underlying56 rfl (by kernel_rfl) ?_)
          | (go_at_call 80; refine (HC.out _).mono ?_; rintro e w2 ⟨rfl, x2⟩; have hp2 := Lib.hid (Blk.ext HB.out x2 (by simp)); have hq2 := Lib.hid (Blk.ext HR.out x2 (by simp)))
          | ((with_reducible refine at_op ⟨none, .store _ (.tmp 5) (.tmp 49), _, _, _, _⟩ ?_); refine wpList_store_ltr (p := w.heap.size) (l := l) hp2.out l2 rfl _ _ rfl rfl rfl ?_; intro w3 hw3 x3; have g1 := hw3.c1; have f1 := hw3.frozen 1; have h4 := Lib.hid (hw3.setState (ltrNext l.state 1)); have h5 := Lib.hid (Blk.far (Blk.ext hq2.out x3 (by simp)) (p := ⟨w.heap.size, 1, none⟩) (by simp) (.int .i64 (ltrNext l.state 1))))
          | ((with_reducible refine at_op ⟨none, .store _ (.tmp 10) (.tmp 89), _, _, _, _⟩ ?_); refine wpList_store_ltr (p := w.heap.size + 1) (l := Ltr.none) (Blk.ext hq2.out x3 (by simp)) Ltr.none rfl _ _ rfl rfl rfl ?_; intro w5 hw5 x5))
        exact bodyPost_ret (results_row_tmp rfl _ _ (w.heap.size + 1) _ _ _ _ rfl hw5 Try.underlying56 rfl (by kernel_rfl)) rfl ⟨rfl, hx.trans ((x2.app x3).app x5) (by simp)⟩
  ·
    rw [show l.does 2 a b text = (l, 0) by simp [Ltr.does]]
    rw [if_neg (by simp)]
    change Calls Try.prog 46 #[.agg #[.string l.name, .int .i64 l.state, .int .i64 l.amount, .int .i64 l.due, .string l.policy, .string l.papers], .int .i64 2, .int .i64 a, .int .i64 b, .string text] w _
    go_enter Try.func46, Try.ntmps46
    go_wp2_with (go_at_call 48; refine (ref10_Next _ _ _).mono ?_; rintro e _ ⟨rfl, rfl⟩)
    exact bodyPost_ret (results_row_tmp rfl _ _ (w.heap.size + 1) _ _ _ _ rfl (heap_alloc2_new _ _ _) Try.underlying56 rfl (by kernel_rfl)) rfl ⟨rfl, ((Ext.refl _).alloc _).alloc _⟩
  ·
    rw [show l.does 3 a b text = l.amend a b by simp [Ltr.does]]
    have hc := fun w2 => ref10_amend w2 l a b hl.amount ha
    generalize l.amend a b = r at *
    obtain ⟨l2, e2⟩ := r
    dsimp only at *
    have HC := Lib.hid hc
    clear hc
    by_cases he : e2 = 0
    · subst he
      rw [if_neg (by simp)]
      change Calls Try.prog 46 #[.agg #[.string l.name, .int .i64 l.state, .int .i64 l.amount, .int .i64 l.due, .string l.policy, .string l.papers], .int .i64 3, .int .i64 a, .int .i64 b, .string text] w _
      go_enter Try.func46, Try.ntmps46
      go_wp2_with (first
        | (go_at_call 48; refine (ref10_Next _ _ _).mono ?_; rintro e _ ⟨rfl, rfl⟩)
        | ((with_reducible refine at_op ⟨some 55, _, _, _, _, _⟩ ?_); refine wpList_load_row rfl _ _ rfl w.heap.size rfl _ _ _ _ HB.out Try.underlying56 rfl (by kernel_rfl) ?_)
        | (go_at_call 81; refine (HC.out _).mono ?_; rintro e w2 ⟨rfl, x2⟩; have hp2 := Lib.hid (Blk.ext HB.out x2 (by simp)); have hq2 := Lib.hid (Blk.ext HR.out x2 (by simp)))
        | ((with_reducible refine at_op ⟨none, .store _ (.tmp 5) (.tmp 59), _, _, _, _⟩ ?_); refine wpList_store_ltr (p := w.heap.size) (l := l) hp2.out l2 rfl _ _ rfl rfl rfl ?_; intro w3 hw3 x3; have g1 := hw3.c1; have f1 := hw3.frozen 1; have h4 := Lib.hid (hw3.setState (ltrNext l.state 3)); have h5 := Lib.hid (Blk.far (Blk.ext hq2.out x3 (by simp)) (p := ⟨w.heap.size, 1, none⟩) (by simp) (.int .i64 (ltrNext l.state 3))))
        | ((with_reducible refine at_op ⟨some 93, _, _, _, _, _⟩ ?_); refine wpList_load_row rfl _ _ rfl w.heap.size rfl _ _ _ _ h4.out Try.underlying56 rfl (by kernel_rfl) ?_)
        | ((with_reducible refine at_op ⟨none, .store _ (.tmp 10) (.tmp 93), _, _, _, _⟩ ?_); refine wpList_store_ltr (p := w.heap.size + 1) (l := Ltr.none) h5.out { l2 with state := ltrNext l.state 3 } rfl _ _ rfl rfl rfl ?_; intro w5 hw5 x5))
      exact bodyPost_ret (results_row_tmp rfl _ _ (w.heap.size + 1) _ _ _ _ rfl hw5 Try.underlying56 rfl (by kernel_rfl)) rfl ⟨rfl, hx.trans (((x2.app x3).setCell (by simp) _).app x5) (by simp)⟩
    · have heb : (e2 != 0) = true := by simpa using he
      rw [if_pos he]
      clear he
      change Calls Try.prog 46 #[.agg #[.string l.name, .int .i64 l.state, .int .i64 l.amount, .int .i64 l.due, .string l.policy, .string l.papers], .int .i64 3, .int .i64 a, .int .i64 b, .string text] w _
      go_enter Try.func46, Try.ntmps46
      go_wp2_with (first
        | (go_at_call 48; refine (ref10_Next _ _ _).mono ?_; rintro e _ ⟨rfl, rfl⟩)
        | ((with_reducible refine at_op ⟨some 55, _, _, _, _, _⟩ ?_); refine wpList_load_row rfl _ _ rfl w.heap.size rfl _ _ _ _ HB.out Try.underlying56 rfl (by kernel_rfl) ?_)
        | (go_at_call 81; refine (HC.out _).mono ?_; rintro e w2 ⟨rfl, x2⟩; have hp2 := Lib.hid (Blk.ext HB.out x2 (by simp)); have hq2 := Lib.hid (Blk.ext HR.out x2 (by simp)))
        | ((with_reducible refine at_op ⟨none, .store _ (.tmp 5) (.tmp 59), _, _, _, _⟩ ?_); refine wpList_store_ltr (p := w.heap.size) (l := l) hp2.out l2 rfl _ _ rfl rfl rfl ?_; intro w3 hw3 x3; have g1 := hw3.c1; have f1 := hw3.frozen 1; have h4 := Lib.hid (hw3.setState (ltrNext l.state 3)); have h5 := Lib.hid (Blk.far (Blk.ext hq2.out x3 (by simp)) (p := ⟨w.heap.size, 1, none⟩) (by simp) (.int .i64 (ltrNext l.state 3))))
        | ((with_reducible refine at_op ⟨none, .store _ (.tmp 10) (.tmp 89), _, _, _, _⟩ ?_); refine wpList_store_ltr (p := w.heap.size + 1) (l := Ltr.none) (Blk.ext hq2.out x3 (by simp)) Ltr.none rfl _ _ rfl rfl rfl ?_; intro w5 hw5 x5))
      exact bodyPost_ret (results_row_tmp rfl _ _ (w.heap.size + 1) _ _ _ _ rfl hw5 Try.underlying56 rfl (by kernel_rfl)) rfl ⟨rfl, hx.trans ((x2.app x3).app x5) (by simp)⟩
  ·
    by_cases hs : 200 < text.size
    · rw [show l.does 4 a b text = (l, 3) by simp [Ltr.does, hs]]
      rw [if_pos (by simp)]
      change Calls Try.prog 46 #[.agg #[.string l.name, .int .i64 l.state, .int .i64 l.amount, .int .i64 l.due, .string l.policy, .string l.papers], .int .i64 4, .int .i64 a, .int .i64 b, .string text] w _
      go_enter Try.func46, Try.ntmps46
      go_wp2_with (go_at_call 48; refine (ref10_Next _ _ _).mono ?_; rintro e _ ⟨rfl, rfl⟩)
      exact bodyPost_ret (results_row_tmp rfl _ _ (w.heap.size + 1) _ _ _ _ rfl (heap_alloc2_new _ _ _) Try.underlying56 rfl (by kernel_rfl)) rfl ⟨rfl, ((Ext.refl _).alloc _).alloc _⟩
    · rw [show l.does 4 a b text = ({ l with papers := text }, 0) by simp [Ltr.does, hs]]
      rw [if_neg (by simp)]
      change Calls Try.prog 46 #[.agg #[.string l.name, .int .i64 l.state, .int .i64 l.amount, .int .i64 l.due, .string l.policy, .string l.papers], .int .i64 4, .int .i64 a, .int .i64 b, .string text] w _
      go_enter Try.func46, Try.ntmps46
      go_wp2_with (go_at_call 48; refine (ref10_Next _ _ _).mono ?_; rintro e _ ⟨rfl, rfl⟩)
      exact bodyPost_ret (results_row_tmp rfl _ _ (w.heap.size + 1) _ _ _ _ rfl (heap_alloc2_new _ _ _) Try.underlying56 rfl (by kernel_rfl)) rfl ⟨rfl, ((Ext.refl _).alloc _).alloc _⟩
  ·
    rw [show l.does 5 a b text = (l, 0) by simp [Ltr.does]]
    rw [if_neg (by simp)]
    change Calls Try.prog 46 #[.agg #[.string l.name, .int .i64 l.state, .int .i64 l.amount, .int .i64 l.due, .string l.policy, .string l.papers], .int .i64 5, .int .i64 a, .int .i64 b, .string text] w _
    go_enter Try.func46, Try.ntmps46
    go_wp2_with (go_at_call 48; refine (ref10_Next _ _ _).mono ?_; rintro e _ ⟨rfl, rfl⟩)
    exact bodyPost_ret (results_row_tmp rfl _ _ (w.heap.size + 1) _ _ _ _ rfl (heap_alloc2_new _ _ _) Try.underlying56 rfl (by kernel_rfl)) rfl ⟨rfl, ((Ext.refl _).alloc _).alloc _⟩
  ·
    rw [show l.does 6 a b text = ({ l with papers := ByteArray.empty }, 0) by simp [Ltr.does]]
    rw [if_neg (by simp)]
    change Calls Try.prog 46 #[.agg #[.string l.name, .int .i64 l.state, .int .i64 l.amount, .int .i64 l.due, .string l.policy, .string l.papers], .int .i64 6, .int .i64 a, .int .i64 b, .string text] w _
    go_enter Try.func46, Try.ntmps46
    go_wp2_with (go_at_call 48; refine (ref10_Next _ _ _).mono ?_; rintro e _ ⟨rfl, rfl⟩)
    exact bodyPost_ret (results_row_tmp rfl _ _ (w.heap.size + 1) _ _ _ _ rfl (heap_alloc2_new _ _ _) Try.underlying56 rfl (by kernel_rfl)) rfl ⟨rfl, ((Ext.refl _).alloc _).alloc _⟩
  ·
    rw [show l.does 7 a b text = (l, 0) by simp [Ltr.does]]
    rw [if_neg (by simp)]
    change Calls Try.prog 46 #[.agg #[.string l.name, .int .i64 l.state, .int .i64 l.amount, .int .i64 l.due, .string l.policy, .string l.papers], .int .i64 7, .int .i64 a, .int .i64 b, .string text] w _
    go_enter Try.func46, Try.ntmps46
    go_wp2_with (go_at_call 48; refine (ref10_Next _ _ _).mono ?_; rintro e _ ⟨rfl, rfl⟩)
    exact bodyPost_ret (results_row_tmp rfl _ _ (w.heap.size + 1) _ _ _ _ rfl (heap_alloc2_new _ _ _) Try.underlying56 rfl (by kernel_rfl)) rfl ⟨rfl, ((Ext.refl _).alloc _).alloc _⟩
  ·
    cases hd : isAmt a
    · rw [show l.does 8 a b text = (l, 5) by simp [Ltr.does, Ltr.expire, hd]]
      rw [if_pos (by simp)]
      have HD := Lib.hid hd; clear hd
      change Calls Try.prog 46 #[.agg #[.string l.name, .int .i64 l.state, .int .i64 l.amount, .int .i64 l.due, .string l.policy, .string l.papers], .int .i64 8, .int .i64 a, .int .i64 b, .string text] w _
      go_enter Try.func46, Try.ntmps46
      go_wp2_with (first
        | (go_at_call 48; refine (ref10_Next _ _ _).mono ?_; rintro e _ ⟨rfl, rfl⟩)
        | (go_at_call 82; with_reducible refine (ref10_Day a _ HD.out _).mono ?_; rintro e _ ⟨rfl, rfl⟩))
      exact bodyPost_ret (results_row_tmp rfl _ _ (w.heap.size + 1) _ _ _ _ rfl (heap_alloc2_new _ _ _) Try.underlying56 rfl (by kernel_rfl)) rfl ⟨rfl, ((Ext.refl _).alloc _).alloc _⟩
    · by_cases hlt : a < l.due
      · rw [show l.does 8 a b text = (l, 8) by simp [Ltr.does, Ltr.expire, hd, hlt]]
        rw [if_pos (by simp)]
        have HD := Lib.hid hd; clear hd
        change Calls Try.prog 46 #[.agg #[.string l.name, .int .i64 l.state, .int .i64 l.amount, .int .i64 l.due, .string l.policy, .string l.papers], .int .i64 8, .int .i64 a, .int .i64 b, .string text] w _
        go_enter Try.func46, Try.ntmps46
        go_wp2_with (first
          | (go_at_call 48; refine (ref10_Next _ _ _).mono ?_; rintro e _ ⟨rfl, rfl⟩)
          | (go_at_call 82; with_reducible refine (ref10_Day a _ HD.out _).mono ?_; rintro e _ ⟨rfl, rfl⟩))
        exact bodyPost_ret (results_row_tmp rfl _ _ (w.heap.size + 1) _ _ _ _ rfl (heap_alloc2_new _ _ _) Try.underlying56 rfl (by kernel_rfl)) rfl ⟨rfl, ((Ext.refl _).alloc _).alloc _⟩
      · rw [show l.does 8 a b text = (l, 0) by simp [Ltr.does, Ltr.expire, hd, hlt]]
        rw [if_neg (by simp)]
        have HD := Lib.hid hd; clear hd
        change Calls Try.prog 46 #[.agg #[.string l.name, .int .i64 l.state, .int .i64 l.amount, .int .i64 l.due, .string l.policy, .string l.papers], .int .i64 8, .int .i64 a, .int .i64 b, .string text] w _
        go_enter Try.func46, Try.ntmps46
        go_wp2_with (first
          | (go_at_call 48; refine (ref10_Next _ _ _).mono ?_; rintro e _ ⟨rfl, rfl⟩)
          | (go_at_call 82; with_reducible refine (ref10_Day a _ HD.out _).mono ?_; rintro e _ ⟨rfl, rfl⟩))
        exact bodyPost_ret (results_row_tmp rfl _ _ (w.heap.size + 1) _ _ _ _ rfl (heap_alloc2_new _ _ _) Try.underlying56 rfl (by kernel_rfl)) rfl ⟨rfl, ((Ext.refl _).alloc _).alloc _⟩
  ·
    rw [show l.does 9 a b text = (l, 0) by simp [Ltr.does]]
    rw [if_neg (by simp)]
    change Calls Try.prog 46 #[.agg #[.string l.name, .int .i64 l.state, .int .i64 l.amount, .int .i64 l.due, .string l.policy, .string l.papers], .int .i64 9, .int .i64 a, .int .i64 b, .string text] w _
    go_enter Try.func46, Try.ntmps46
    go_wp2_with (go_at_call 48; refine (ref10_Next _ _ _).mono ?_; rintro e _ ⟨rfl, rfl⟩)
    exact bodyPost_ret (results_row_tmp rfl _ _ (w.heap.size + 1) _ _ _ _ rfl (heap_alloc2_new _ _ _) Try.underlying56 rfl (by kernel_rfl)) rfl ⟨rfl, ((Ext.refl _).alloc _).alloc _⟩
end Go.Proofs.Ytdbeinbgekdnmaa
