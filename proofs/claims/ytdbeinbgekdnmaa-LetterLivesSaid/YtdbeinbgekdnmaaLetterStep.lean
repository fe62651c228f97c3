/-
  Layer 10: a step of a letter: the program.
-/
import Derived.Test.YtdbeinbgekdnmaaLetterDo
set_option maxRecDepth 100000
namespace Go.Proofs.Ytdbeinbgekdnmaa
open Go.RowKit

theorem letter_Step (w : World) (l : Ltr) (op a b : Int) (text : ByteArray) (hl : l.Wf) (ha : i64ok a) (ht : text.size ≤ 9223372036854775807) :
    Calls Try.prog 45 #[.agg l.cells, .int .i64 op, .int .i64 a, .int .i64 b, .string text] w fun e w' => e = .returned (.tuple #[.agg (l.step op a b text).1.cells, .int .i64 (l.step op a b text).2]) ∧ Ext [] w w' := by
  have hbox : LtrAt ((w.alloc (.cells l.cells 56)).alloc (.cells Ltr.none.cells 56)) w.heap.size l := Blk.alloc (Blk.new _ _ _) _
  have hres : LtrAt ((w.alloc (.cells l.cells 56)).alloc (.cells Ltr.none.cells 56)) (w.heap.size + 1) Ltr.none := by
    have := Blk.new (w.alloc (.cells l.cells 56)) 56 Ltr.none.cells
    rw [World.size_alloc] at this
    exact this
  have hx : Ext [] w ((w.alloc (.cells l.cells 56)).alloc (.cells Ltr.none.cells 56)) := ((Ext.refl _).alloc _).alloc _
  have k1 : l.cells[1]? = some (.int .i64 l.state) := rfl
  have HB := Lib.hid hbox
  have HR := Lib.hid hres
  clear hbox hres
  by_cases h1 : op < 1
  · rw [show l.step op a b text = (Ltr.none, 1) by simp [Ltr.step, h1]]
    go_enter Try.func45, Try.ntmps45
    go_wp2
    exact bodyPost_ret (results_row_tmp rfl _ _ (w.heap.size + 1) _ _ _ _ rfl HR.out Try.underlying56 rfl (by kernel_rfl)) rfl ⟨rfl, hx⟩
  by_cases h2 : 9 < op
  · rw [show l.step op a b text = (Ltr.none, 1) by simp [Ltr.step, h2]]
    go_enter Try.func45, Try.ntmps45
    go_wp2
    exact bodyPost_ret (results_row_tmp rfl _ _ (w.heap.size + 1) _ _ _ _ rfl HR.out Try.underlying56 rfl (by kernel_rfl)) rfl ⟨rfl, hx⟩
  have h3 : ¬ (op < 1 ∨ 9 < op) := by omega
  by_cases hn : ltrNext l.state op = 0
  · rw [show l.step op a b text = (Ltr.none, 8) by simp only [Ltr.step, if_neg h3, if_pos hn]]
    have hnb : (ltrNext l.state op == 0) = true := by simp [hn]
    clear hn h3
    go_enter Try.func45, Try.ntmps45
    go_wp2_with (first
      | (go_at_call 47; refine (letter_Next _ _ _).mono ?_; rintro e w2 ⟨rfl, x2⟩)
      | ((with_reducible refine at_op ⟨none, .store _ (.tmp 10) _, _, _, _, _⟩ ?_); refine wpList_store_ltr (Blk.ext HR.out x2 (by simp)) Ltr.none rfl _ _ rfl rfl rfl ?_; intro w3 hw3 x3))
    exact bodyPost_ret (results_row_tmp rfl _ _ (w.heap.size + 1) _ _ _ _ rfl hw3 Try.underlying56 rfl (by kernel_rfl)) rfl ⟨rfl, hx.trans (x2.app x3) (by simp)⟩
  have hnb : (ltrNext l.state op == 0) = false := by simpa using hn
  have hd := fun w2 (hb : LtrAt w2 w.heap.size l) => letter_does w2 w.heap.size l op a b text hb hl.amount ha (by omega) (by omega) ht
  by_cases he : (l.does op a b text).2 = 0
  · rw [show l.step op a b text = ({ (l.does op a b text).1 with state := ltrNext l.state op }, 0) by simp only [Ltr.step, if_neg h3, if_neg hn, he, ne_eq, not_true_eq_false, if_false]]
    have heb : ((l.does op a b text).2 != 0) = false := by simp [he]
    clear hn h3 he
    generalize l.does op a b text = r at *
    obtain ⟨l2, e2⟩ := r
    dsimp only at *
    have HD := Lib.hid hd
    clear hd
    go_enter Try.func45, Try.ntmps45
    go_wp2_with (first
      | (go_at_call 47; refine (letter_Next _ _ _).mono ?_; rintro e w2 ⟨rfl, x2⟩)
      | (go_at_call 79; refine (HD.out _ (Blk.ext HB.out x2 (by simp))).mono ?_; rintro e w3 ⟨rfl, h3, x3⟩; have g1 := h3.c1; have f1 := h3.frozen 1; have h4 := Lib.hid (h3.setState (ltrNext l.state op)); have h5 := Lib.hid (Blk.far (Blk.ext (Blk.ext HR.out x2 (by simp)) x3 (by simp)) (p := ⟨w.heap.size, 1, none⟩) (by simp) (.int .i64 (ltrNext l.state op))))
      | ((with_reducible refine at_op ⟨some 39, _, _, _, _, _⟩ ?_); refine wpList_load_row rfl _ _ rfl w.heap.size rfl _ _ _ _ h4.out Try.underlying56 rfl (by kernel_rfl) ?_)
      | ((with_reducible refine at_op ⟨none, .store _ (.tmp 10) (.tmp 39), _, _, _, _⟩ ?_); refine wpList_store_ltr (p := w.heap.size + 1) (l := Ltr.none) h5.out { l2 with state := ltrNext l.state op } rfl _ _ rfl rfl rfl ?_; intro w5 hw5 x5))
    exact bodyPost_ret (results_row_tmp rfl _ _ (w.heap.size + 1) _ _ _ _ rfl hw5 Try.underlying56 rfl (by kernel_rfl)) rfl ⟨rfl, hx.trans (((x2.app x3).setCell (by simp) _).app x5) (by simp <;> omega)⟩
  · rw [show l.step op a b text = (Ltr.none, (l.does op a b text).2) by simp only [Ltr.step, if_neg h3, if_neg hn, he, ne_eq, not_false_eq_true, if_true]]
    have heb : ((l.does op a b text).2 != 0) = true := by simpa using he
    clear hn h3 he
    generalize l.does op a b text = r at *
    obtain ⟨l2, e2⟩ := r
    dsimp only at *
    have HD := Lib.hid hd
    clear hd
    go_enter Try.func45, Try.ntmps45
    go_wp2_with (first
      | (go_at_call 47; refine (letter_Next _ _ _).mono ?_; rintro e w2 ⟨rfl, x2⟩)
      | (go_at_call 79; refine (HD.out _ (Blk.ext HB.out x2 (by simp))).mono ?_; rintro e w3 ⟨rfl, h3, x3⟩)
      | ((with_reducible refine at_op ⟨none, .store _ (.tmp 10) _, _, _, _, _⟩ ?_); refine wpList_store_ltr (Blk.ext (Blk.ext HR.out x2 (by simp)) x3 (by simp)) Ltr.none rfl _ _ rfl rfl rfl ?_; intro w4 hw4 x4))
    exact bodyPost_ret (results_row_tmp rfl _ _ (w.heap.size + 1) _ _ _ _ rfl hw4 Try.underlying56 rfl (by kernel_rfl)) rfl ⟨rfl, hx.trans ((x2.app x3).app x4) (by simp <;> omega)⟩
end Go.Proofs.Ytdbeinbgekdnmaa
