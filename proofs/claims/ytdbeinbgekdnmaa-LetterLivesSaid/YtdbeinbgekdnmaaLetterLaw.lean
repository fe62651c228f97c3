/-
  Layer 10: the laws.
-/
import Derived.Test.YtdbeinbgekdnmaaLetterRef
import Derived.Test.YtdbeinbgekdnmaaFlat
set_option maxRecDepth 100000
namespace Go.Proofs.Ytdbeinbgekdnmaa
open Go.RowKit

structure Ltr.Lits (l : Ltr) : Prop extends l.Wf where
  name : l.name.size ≤ maxLen
  policy : l.policy.size ≤ maxLen
  papers : l.papers.size ≤ maxLen
theorem wf_i64 {a : Int} (h : i64ok a) : (Lit.int .i64 a).wf = true := by
  obtain ⟨h0, h1⟩ := h
  simp [Lit.wf, IntKind.min, IntKind.max, IntKind.signed, IntKind.bits]; omega
theorem ltr_lits (l : Ltr) (h : l.Lits) : Try.prog.keyLits 3 56 l.cells.toList = some [.string l.name.data.toList, .int .i64 l.state, .int .i64 l.amount, .int .i64 l.due, .string l.policy.data.toList, .string l.papers.data.toList] := by
  have h1 := wf_i64 h.state
  have h2 := wf_i64 h.amount
  have h3 := wf_i64 h.due
  have h4 := h.name
  have h5 := h.policy
  have h6 := h.papers
  have c1 : Try.prog.cellsOf 56 = 6 := by kernel_rfl
  have c2 : Try.prog.cellsOf 9 = 1 := by kernel_rfl
  have c3 : Try.prog.cellsOf 3 = 1 := by kernel_rfl
  have c4 : Try.prog.cellsOf 2 = 1 := by kernel_rfl
  simp [Program.keyLits, Try.underlying56, Try.underlying9, Try.underlying3, Try.underlying2, c1, c2, c3, c4, Ltr.cells, h1, h2, h3, h4, h5, h6]

theorem ltr_formed (l : Ltr) : (Value.agg l.cells).formed Try.prog 56 = true := by kernel_rfl
theorem eq_of_data {a b : ByteArray} (h : a.data.toList = b.data.toList) : a = b := by
  cases a; cases b; simp at h; simp [h]
theorem run_eql_ltr (l k : Ltr) (hl : l.Lits) (hk : k.Lits) (b : Bool) (hb : b = true ↔ l = k) (w : World) : (binOp .eql 56 (.agg l.cells) (.agg k.cells)).run Try.prog w = .ok (.bool b) w := by
  refine run_eql_lits (m := 10) (by omega) (by kernel_rfl) (ltr_formed l) (ltr_formed k) (ltr_lits l hl) (ltr_lits k hk) b (hb.trans ?_) w
  constructor
  · rintro rfl; rfl
  · intro h
    simp only [List.cons.injEq, Lit.string.injEq, Lit.int.injEq, true_and, and_true] at h
    obtain ⟨h1, h2, h3, h4, h5, h6⟩ := h
    cases l; cases k
    simp only [Ltr.mk.injEq]
    exact ⟨eq_of_data h1, h2, h3, h4, eq_of_data h5, eq_of_data h6⟩

theorem run_neq_none (w : World) : (binOp .neq 56 (.agg Ltr.none.cells) (.agg Ltr.none.cells)).run Try.prog w = .ok (.bool false) w :=
  have hl : Ltr.none.Lits := ⟨⟨⟨by decide, by decide⟩, ⟨by decide, by decide⟩, ⟨by decide, by decide⟩⟩, by decide, by decide, by decide⟩
  run_neq_lits (m := 10) (by omega) (by kernel_rfl) (ltr_formed _) (ltr_formed _) (ltr_lits _ hl) (ltr_lits _ hl) false (by simp) w

theorem amtChange_bd (a b : Int) : 0 ≤ (amtChange a b).1 ∧ (amtChange a b).1 ≤ 1099511627776 := isAmt_true (amtChange_is a b)
theorem Ltr.none_lits : Ltr.none.Lits := ⟨⟨⟨by decide, by decide⟩, ⟨by decide, by decide⟩, ⟨by decide, by decide⟩⟩, by decide, by decide, by decide⟩
theorem empty_le : ByteArray.empty.size ≤ maxLen := by decide
theorem ltrNext_bd (s op : Int) : 0 ≤ ltrNext s op ∧ ltrNext s op ≤ 7 := by
  by_cases h1 : op < 1 ∨ 9 < op ∨ s < 0 ∨ 8 ≤ s
  · rw [ltrNext_none s op h1]; omega
  · have h3 : op = 1 ∨ op = 2 ∨ op = 3 ∨ op = 4 ∨ op = 5 ∨ op = 6 ∨ op = 7 ∨ op = 8 ∨ op = 9 := by omega
    have h2 : s = 0 ∨ s = 1 ∨ s = 2 ∨ s = 3 ∨ s = 4 ∨ s = 5 ∨ s = 6 ∨ s = 7 := by omega
    rcases h3 with rfl | rfl | rfl | rfl | rfl | rfl | rfl | rfl | rfl <;> rcases h2 with rfl | rfl | rfl | rfl | rfl | rfl | rfl | rfl <;> decide
theorem Ltr.does_lits (l : Ltr) (op a b : Int) (text : ByteArray) (hl : l.Lits) (ha : i64ok a) (hb : i64ok b) (ht : text.size ≤ maxLen) : (l.does op a b text).1.Lits := by
  unfold Ltr.does
  split
  · exact hl
  split
  · unfold Ltr.apply
    repeat' split
    all_goals first | exact hl | exact ⟨⟨⟨by dsimp only; decide, by dsimp only; decide⟩, ha, hb⟩, hl.name, ht, empty_le⟩
  split
  · unfold Ltr.amend
    have hc := amtChange_bd l.amount a
    split
    · exact hl
    split
    · exact hl
    · refine ⟨⟨hl.state, ⟨by dsimp only; omega, by dsimp only; omega⟩, ?_⟩, hl.name, hl.policy, hl.papers⟩
      dsimp only
      split
      · exact hb
      · exact hl.due
  split
  · exact ⟨⟨hl.state, hl.amount, hl.due⟩, hl.name, hl.policy, ht⟩
  split
  · exact ⟨⟨hl.state, hl.amount, hl.due⟩, hl.name, hl.policy, empty_le⟩
  split <;> exact hl
theorem Ltr.step_lits (l : Ltr) (op a b : Int) (text : ByteArray) (hl : l.Lits) (ha : i64ok a) (hb : i64ok b) (ht : text.size ≤ maxLen) : (l.step op a b text).1.Lits := by
  have hd := l.does_lits op a b text hl ha hb ht
  have hn := ltrNext_bd l.state op
  unfold Ltr.step
  split
  · exact Ltr.none_lits
  split
  · exact Ltr.none_lits
  split
  · exact Ltr.none_lits
  · exact ⟨⟨⟨by dsimp only; omega, by dsimp only; omega⟩, hd.amount, hd.due⟩, hd.name, hd.policy, hd.papers⟩

theorem letter_Can (s op : Int) (w : World) :
    Calls Try.prog 49 #[.int .i64 s, .int .i64 op] w fun e w' => e = .returned (.bool (ltrNext s op != 0)) ∧ Ext [] w w' := by
  go_enter Try.func49, Try.ntmps49
  go_wp2_with (go_at_call 47; refine (letter_Next _ _ _).mono ?_; rintro e w1 ⟨rfl, x1⟩)
  go_ret
  exact ⟨rfl, x1⟩

theorem letter_Over (s : Int) (b : Bool) (hb : decide (5 ≤ s ∧ s ≤ 7) = b) (w : World) :
    Calls Try.prog 50 #[.int .i64 s] w fun e w' => e = .returned (.bool b) ∧ w = w' := by
  by_cases h1 : 5 ≤ s
  · by_cases h2 : s ≤ 7
    · obtain rfl : true = b := by rw [← hb]; simp; omega
      clear hb
      go_enter Try.func50, Try.ntmps50
      go_wp2
      go_ret
      exact ⟨rfl, rfl⟩
    · obtain rfl : false = b := by rw [← hb]; simp; omega
      clear hb
      go_enter Try.func50, Try.ntmps50
      go_wp2
      go_ret
      exact ⟨rfl, rfl⟩
  · obtain rfl : false = b := by rw [← hb]; simp; omega
    clear hb
    go_enter Try.func50, Try.ntmps50
    go_wp2
    go_ret
    exact ⟨rfl, rfl⟩

def fixL : Ltr := ⟨⟨#[120]⟩, 0, 0, 0, ⟨#[]⟩, ⟨#[]⟩⟩
def fixM : Ltr := ⟨⟨#[120]⟩, 1, 5, 9, ⟨#[48]⟩, ⟨#[]⟩⟩
def fixN : Ltr := ⟨⟨#[120]⟩, 2, 5, 9, ⟨#[48]⟩, ⟨#[]⟩⟩
theorem fixed10 (w : World) : Calls Try.prog 44 #[] w fun e w' => e = .returned (.bool true) ∧ Ext [] w w' := by
  have z0 : i64ok 0 := ⟨by decide, by decide⟩
  have l1 : fixL.Lits := ⟨⟨⟨by decide, by decide⟩, ⟨by decide, by decide⟩, ⟨by decide, by decide⟩⟩, by decide, by decide, by decide⟩
  have l2 : fixM.Lits := ⟨⟨⟨by decide, by decide⟩, ⟨by decide, by decide⟩, ⟨by decide, by decide⟩⟩, by decide, by decide, by decide⟩
  have s1 : fixL.step 1 5 9 ⟨#[48]⟩ = (fixM, 0) := by rfl
  have s2 : fixM.step 7 0 0 ⟨#[]⟩ = (Ltr.none, 8) := by rfl
  have s3 : fixM.step 2 0 0 ⟨#[]⟩ = (fixN, 0) := by rfl
  have c1 := fun w => letter_Step w fixL 1 5 9 ⟨#[48]⟩ l1.toWf ⟨by decide, by decide⟩ (by decide)
  have c2 := fun w => letter_Step w fixM 7 0 0 ⟨#[]⟩ l2.toWf z0 (by decide)
  have c3 := fun w => letter_Step w fixM 2 0 0 ⟨#[]⟩ l2.toWf z0 (by decide)
  rw [s1] at c1
  rw [s2] at c2
  rw [s3] at c3
  have he := run_eql_ltr fixM fixM l2 l2 true (by simp)
  have be : ByteArray.empty = ⟨#[]⟩ := rfl
  simp only [Ltr.cells, fixL, fixM, fixN, Ltr.none, be] at c1 c2 c3 he
  have C1 := Lib.hid c1
  have C2 := Lib.hid c2
  have C3 := Lib.hid c3
  clear c1 c2 c3 s1 s2 s3
  go_enter Try.func44, Try.ntmps44
  go_wp2_with (first
    | (go_at_call 45; (with_reducible refine (C1.out _).mono ?_); rintro e w1 ⟨rfl, x1⟩; have hq1 := Lib.hid (show LtrAt (w1.alloc (.cells fixM.cells 56)) w1.heap.size fixM from Blk.new _ _ _))
    | (go_at_call 45; (with_reducible refine (C2.out _).mono ?_); rintro e w2 ⟨rfl, x2⟩; have hq2 := Lib.hid (Blk.alloc (Blk.ext hq1.out x2 (by simp)) (.cells Ltr.none.cells 56)))
    | ((with_reducible refine at_op ⟨some 18, _, _, _, _, _⟩ ?_); refine wpList_load_row rfl _ _ rfl w1.heap.size rfl _ _ _ _ hq2.out Try.underlying56 rfl (by kernel_rfl) ?_)
    | (go_at_call 45; refine (C3.out _).mono ?_; rintro e w3 ⟨rfl, x3⟩; have hq3 := Lib.hid (show LtrAt _ _ fixM from Blk.alloc (Blk.ext hq2.out x3 (by simp)) (.cells fixN.cells 56)); have b0 := hq3.out.c0; have b1 := hq3.out.c1; have b2 := hq3.out.c2; have b3 := hq3.out.c3; have b4 := hq3.out.c4; have b5 := hq3.out.c5; simp only [fixM, fixN, Ltr.cells] at b0 b1 b2 b3 b4 b5)
    | (go_at_call 50; refine (letter_Over 5 true (by decide) _).mono ?_; rintro e _ ⟨rfl, rfl⟩)
    | (go_at_call 49; refine (letter_Can 5 7 _).mono ?_; rintro e w4 ⟨rfl, x4⟩))
  go_ret
  refine ⟨rfl, ?_⟩
  exact x1.tr ((Ext.new _ _).tr (x2.tr ((Ext.new _ _).tr (x3.tr ((Ext.new _ _).tr x4)))))

theorem steps_walk (w : World) (l : Ltr) (op a b : Int) (text : ByteArray) (hl : l.Lits) (ha : i64ok a) (hb : i64ok b) (ht : text.size ≤ maxLen) :
    Calls Try.prog 8 #[.agg l.cells, .int .i64 op, .int .i64 a, .int .i64 b, .string text] w fun e w' => e = .returned (.bool true) ∧ Ext [] w w' := by
  have hs := l.step_lits op a b text hl ha hb ht
  have ht' : text.size ≤ 9223372036854775807 := by unfold maxLen at ht; omega
  have k1 : l.cells[1]? = some (.int .i64 l.state) := rfl
  have C1 := fun w => letter_Step w l op a b text hl.toWf ha ht'
  have C2 := fun w => ref10_Step w l op a b text hl.toWf ha ht'
  generalize l.step op a b text = r at *
  obtain ⟨s, e⟩ := r
  dsimp only at *
  have he := run_eql_ltr s s hs hs true (by simp)
  have D1 := Lib.hid C1
  have D2 := Lib.hid C2
  clear C1 C2 ht
  have hp0 := Lib.hid (show LtrAt (w.alloc (.cells l.cells 56)) w.heap.size l from Blk.new _ _ _)
  by_cases hbig : 500 < text.size
  · go_enter Try.func8, Try.ntmps8
    go_wp2_with (go_at_call 44; refine (fixed10 _).mono ?_; rintro e w1 ⟨rfl, x1⟩)
    go_ret
    exact ⟨rfl, ((Ext.refl _).alloc _).trans x1 (by simp)⟩
  · go_enter Try.func8, Try.ntmps8
    go_wp2_with (first
      | (go_at_call 44; refine (fixed10 _).mono ?_; rintro e w1 ⟨rfl, x1⟩; have hp1 := Lib.hid (Blk.ext hp0.out x1 (by simp)))
      | ((with_reducible refine at_op ⟨some 21, _, _, _, _, _⟩ ?_); refine wpList_load_row rfl _ _ rfl w.heap.size rfl _ _ _ _ hp1.out Try.underlying56 rfl (by kernel_rfl) ?_)
      | (go_at_call 45; refine (D1.out _).mono ?_; rintro e w2 ⟨rfl, x2⟩; have hp2 := Lib.hid (Blk.alloc (Blk.ext hp1.out x2 (by simp)) (.cells s.cells 56)); have hq2 := Lib.hid (show LtrAt (w2.alloc (.cells s.cells 56)) w2.heap.size s from Blk.new _ _ _))
      | ((with_reducible refine at_op ⟨none, .store _ (.tmp 11) (.tmp 27), _, _, _, _⟩ ?_); refine wpList_store_new rfl _ _ _ rfl w2 56 _ s.cells rfl rfl rfl (by kernel_rfl) rfl (Ltr.one s) ?_)
      | ((with_reducible refine at_op ⟨some 30, _, _, _, _, _⟩ ?_); refine wpList_load_row rfl _ _ rfl w.heap.size rfl _ _ _ _ hp2.out Try.underlying56 rfl (by kernel_rfl) ?_)
      | (go_at_call 46; refine (D2.out _).mono ?_; rintro e w3 ⟨rfl, x3⟩; have hp3 := Lib.hid (Blk.alloc (Blk.ext hp2.out x3 (by simp)) (.cells s.cells 56)); have hq3 := Lib.hid (Blk.alloc (Blk.ext hq2.out x3 (by simp)) (.cells s.cells 56)); have hr3 := Lib.hid (show LtrAt (w3.alloc (.cells s.cells 56)) w3.heap.size s from Blk.new _ _ _))
      | ((with_reducible refine at_op ⟨none, .store _ (.tmp 13) (.tmp 36), _, _, _, _⟩ ?_); refine wpList_store_new rfl _ _ _ rfl w3 56 _ s.cells rfl rfl rfl (by kernel_rfl) rfl (Ltr.one s) ?_))
    have hx : Ext [] w (w3.alloc (.cells s.cells 56)) := ((((Ext.refl _).alloc _).trans x1 (by simp)).trans (((x2.alloc _).trans x3 (by simp)).alloc _) (by simp))
    have a1 := fun x => LtrAt.c1 (Later.blk x hp3.out)
    have b0 := fun x => LtrAt.c0 (Later.blk x hq3.out)
    have b1 := fun x => LtrAt.c1 (Later.blk x hq3.out)
    have b2 := fun x => LtrAt.c2 (Later.blk x hq3.out)
    have b3 := fun x => LtrAt.c3 (Later.blk x hq3.out)
    have b4 := fun x => LtrAt.c4 (Later.blk x hq3.out)
    have b5 := fun x => LtrAt.c5 (Later.blk x hq3.out)
    have c0 := fun x => LtrAt.c0 (Later.blk x hr3.out)
    have c1 := fun x => LtrAt.c1 (Later.blk x hr3.out)
    have c2 := fun x => LtrAt.c2 (Later.blk x hr3.out)
    have c3 := fun x => LtrAt.c3 (Later.blk x hr3.out)
    have c4 := fun x => LtrAt.c4 (Later.blk x hr3.out)
    have c5 := fun x => LtrAt.c5 (Later.blk x hr3.out)
    simp only [Ltr.cells] at he
    clear hp0 hp1 hp2 hq2 hp3 hq3 hr3 D1 D2
    generalize w3.alloc (.cells s.cells 56) = w4 at *
    refine wp_region_later_lit (by kernel_rfl) (by kernel_rfl) ?_
    repeat (go_big_quiet_step ((first
      | (go_at_call 47; exact Later.call (letter_Next _ _ _))
      | (go_at_call 48; exact Later.call_same (ref10_Next _ _ _))
      | (go_at_call 49; exact Later.call (letter_Can _ _ _)))))
    refine wpQuiet_nil ?_
    rintro _ ⟨xq, rfl⟩
    go_wp2
    go_ret
    exact ⟨rfl, hx.trans xq.ext (by simp)⟩
end Go.Proofs.Ytdbeinbgekdnmaa
