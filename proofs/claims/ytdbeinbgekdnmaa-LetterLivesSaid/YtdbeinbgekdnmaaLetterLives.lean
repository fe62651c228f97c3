/-
  Layer 10: whatever steps are tried, a letter's life.
-/
import Derived.Test.YtdbeinbgekdnmaaLetterLaw
import Derived.Test.YtdbeinbgekdnmaaElems
set_option maxRecDepth 100000
namespace Go.Proofs.Ytdbeinbgekdnmaa
open Go.RowKit

/-- A step that is tried. -/
structure StepR where
  op : Int
  a : Int
  b : Int
  text : ByteArray
def StepR.cells (s : StepR) : List Value := [.int .i64 s.op, .int .i64 s.a, .int .i64 s.b, .string s.text]
theorem StepR.cells_len (s : StepR) : s.cells.length = 4 := rfl
structure StepR.Ok (s : StepR) : Prop where
  a : i64ok s.a
  b : i64ok s.b
  text : s.text.size ≤ maxLen

theorem stepr_c0 {w : World} {p : Nat} {s : StepR} (h : Blk w p 64 s.cells.toArray) : w.cell? ⟨p, 0, none⟩ = some (.int .i64 s.op) := Blk.cell h 0
/-- What a letter is in its life. -/
structure Life (x : Ltr) : Prop extends x.Lits where
  nm : x.name = ⟨#[110]⟩
  st : x.state = 0 ∨ (1 ≤ x.state ∧ x.state ≤ 7 ∧ 1 ≤ x.amount ∧ x.amount ≤ 1099511627776 ∧ 0 ≤ x.due)

theorem next_over (s op : Int) (h : 5 ≤ s) : ltrNext s op = 0 := by
  apply ltrNext_other
  unfold ltrFrom
  repeat' split
  all_goals simp
  all_goals omega
theorem next_pos (s op : Int) (h : ltrNext s op ≠ 0) : 1 ≤ ltrNext s op ∧ ltrNext s op ≤ 7 ∧ (s = 0 → op = 1) ∧ (op = 1 → s = 0) := by
  have hb := ltrNext_bd s op
  refine ⟨by omega, by omega, ?_, ?_⟩
  · rintro rfl
    apply Classical.byContradiction
    intro ho
    apply h
    apply ltrNext_other
    unfold ltrFrom
    rw [if_neg ho]
    repeat' split
    all_goals simp
  · rintro rfl
    apply Classical.byContradiction
    intro hs
    apply h
    apply ltrNext_other
    simpa [ltrFrom] using hs

theorem step_err {x : Ltr} {op a b : Int} {text : ByteArray} (h : (x.step op a b text).2 ≠ 0) : (x.step op a b text).1 = Ltr.none := by
  unfold Ltr.step at h ⊢
  split
  · rfl
  · rename_i h1
    rw [if_neg h1] at h
    split
    · rfl
    · rename_i h2
      rw [if_neg h2] at h
      split
      · rfl
      · rename_i h3
        rw [if_neg h3] at h
        simp at h
theorem step_ok {x : Ltr} {op a b : Int} {text : ByteArray} (h : (x.step op a b text).2 = 0) :
    ltrNext x.state op ≠ 0 ∧ (x.does op a b text).2 = 0 ∧ (x.step op a b text).1 = { (x.does op a b text).1 with state := ltrNext x.state op } := by
  unfold Ltr.step at h ⊢
  split at h
  · simp at h
  · rename_i h1
    split at h
    · simp at h
    · rename_i h2
      split at h
      · rename_i h3; exact absurd h h3
      · rename_i h3
        rw [if_neg h1, if_neg h2, if_neg h3]
        exact ⟨h2, by simpa using h3, rfl⟩
theorem step_over {x : Ltr} {op a b : Int} {text : ByteArray} (hs : 5 ≤ x.state) : (x.step op a b text).2 ≠ 0 := fun h => (step_ok h).1 (next_over _ _ hs)
theorem life_step {x : Ltr} {op a b : Int} {text : ByteArray} (hx : Life x) (ha : i64ok a) (hb : i64ok b) (ht : text.size ≤ maxLen) (h : (x.step op a b text).2 = 0) :
    Life (x.step op a b text).1 ∧ 1 ≤ (x.step op a b text).1.state := by
  have hl := x.step_lits op a b text hx.toLits ha hb ht
  obtain ⟨hn, hd, he⟩ := step_ok h
  obtain ⟨n1, n7, n0, n2⟩ := next_pos _ _ hn
  rw [he] at hl ⊢
  refine ⟨⟨hl, ?_, .inr ⟨n1, n7, ?_⟩⟩, n1⟩
  · dsimp only
    rw [← hx.nm]
    unfold Ltr.does Ltr.apply Ltr.amend
    repeat' split
    all_goals rfl
  · dsimp only
    by_cases h1 : op = 1
    · unfold Ltr.does Ltr.apply at hd ⊢
      rw [h1] at hd ⊢
      split at hd
      · simp at hd
      · rename_i g1
        rw [if_neg g1]
        simp only [if_true] at hd ⊢
        split at hd
        · simp at hd
        · rename_i g2
          split at hd
          · simp at hd
          · rename_i g3
            split at hd
            · simp at hd
            · rename_i g4
              rw [if_neg g2, if_neg g3, if_neg g4]
              have k1 := isAmt_true (by simpa using g3)
              have k2 := isAmt_true (by simpa using g4)
              dsimp only
              omega
    · have hst : ¬ x.state = 0 := fun h0 => h1 (n0 h0)
      rcases hx.st with h0 | ⟨s1, s7, m1, m2, m3⟩
      · exact absurd h0 hst
      · unfold Ltr.does at hd ⊢
        split at hd
        · simp at hd
        · rename_i g1
          simp only [if_neg g1, if_neg h1] at hd ⊢
          split at hd
          · rename_i g2
            rw [if_pos g2]
            unfold Ltr.amend at hd ⊢
            have hc := amtChange_bd x.amount a
            split at hd
            · rename_i g3; exact absurd hd g3
            · rename_i g3
              split at hd
              · simp at hd
              · rename_i g4
                rw [if_neg g3, if_neg g4]
                simp only [not_or] at g4
                have k2 := isAmt_true (a := b) (by simpa using g4.2)
                dsimp only
                refine ⟨by have := g4.1; omega, hc.2, ?_⟩
                split <;> omega
          · rename_i g2
            rw [if_neg g2]
            repeat' split
            all_goals exact ⟨m1, m2, m3⟩

set_option maxHeartbeats 2000000 in
theorem lives_walk (A : Option Addr) (n c : Nat) (xs : List StepR) (w : World) (hn : xs.length = n) (hr : Row w A (xs.flatMap StepR.cells)) (hx : ∀ s ∈ xs, s.Ok) :
    Calls Try.prog 9 #[.slice A n c] w fun e w' => e = .returned (.bool true) ∧ Ext [] w w' := by
  have HR := Lib.hid hr; clear hr
  have HN := Lib.hid hn; clear hn
  have HX := Lib.hid hx; clear hx
  by_cases hbig : 200 < n
  · go_enter Try.func9, Try.ntmps9
    go_wp2_with (go_at_call 44; refine (fixed10 _).mono ?_; rintro e w1 ⟨rfl, x1⟩)
    go_ret
    exact ⟨rfl, x1⟩
  · go_enter Try.func9, Try.ntmps9
    go_wp2_with (go_at_call 44; refine (fixed10 _).mono ?_; rintro e w1 ⟨rfl, x1⟩)
    have hp0 : LtrAt (w1.alloc (.cells #[.string ⟨#[110]⟩, .int .i64 0, .int .i64 0, .int .i64 0, .string ⟨#[]⟩, .string ⟨#[]⟩] 56)) w1.heap.size ⟨⟨#[110]⟩, 0, 0, 0, ⟨#[]⟩, ⟨#[]⟩⟩ := Blk.new _ _ _
    have hx0 := x1.al (.cells #[.string ⟨#[110]⟩, .int .i64 0, .int .i64 0, .int .i64 0, .string ⟨#[]⟩, .string ⟨#[]⟩] 56)
    have hps : w.heap.size ≤ w1.heap.size := x1.size
    clear x1
    generalize hp : w1.heap.size = p at *
    generalize w1.alloc (.cells #[.string ⟨#[110]⟩, .int .i64 0, .int .i64 0, .int .i64 0, .string ⟨#[]⟩, .string ⟨#[]⟩] 56) = w2 at *
    clear hp
    go_loopw [16] (fun i wr => ∃ (k : Nat) (x : Ltr), k ≤ n ∧ i = .int .i64 k ∧ Life x ∧ LtrAt wr p x ∧ Ext [] w wr) (fun i _ => n - (intOf i).toNat)
    case atStart => exact ⟨0, _, by omega, rfl, ⟨⟨⟨⟨by decide, by decide⟩, ⟨by decide, by decide⟩, ⟨by decide, by decide⟩⟩, by decide, by decide, by decide⟩, rfl, .inl rfl⟩, hp0, hx0⟩
    case round =>
      obtain ⟨k, x, hk, rfl, hlife, hpx, hext⟩ := hrel
      by_cases hlt : k < n
      · have hkx : k < xs.length := by rw [HN.out]; exact hlt
        have hok := HX.out _ (List.getElem_mem hkx)
        obtain ⟨b, off, rfl, hcell⟩ := Row.elem StepR.cells_len (by decide) (HR.out.ext0 hext) hkx
        have c0 := hcell 0 _ rfl
        have c1 := hcell 1 _ rfl
        have c2 := hcell 2 _ rfl
        have c3 := hcell 3 _ rfl
        clear hcell
        generalize hs : xs[k] = s at *
        clear hs
        simp only [Nat.add_zero] at c0
        by_cases hbig2 : 500 < s.text.size
        · go_wp2
          go_ret
          exact ⟨rfl, hext.al _⟩
        have ht' : s.text.size ≤ 9223372036854775807 := by omega
        have hb0 := Lib.hid (show LtrAt (wr.alloc (.cells s.cells.toArray 64)) p x from Blk.alloc hpx _)
        have hs0 := Lib.hid (show Blk (wr.alloc (.cells s.cells.toArray 64)) wr.heap.size 64 s.cells.toArray from Blk.new _ _ _)
        have SC1 := fun w => letter_Step w x s.op s.a s.b s.text hlife.toWf hok.a ht'
        have hne := run_neq_none
        have be : ByteArray.empty = ⟨#[]⟩ := rfl
        simp only [Ltr.cells, Ltr.none, be] at hne
        by_cases herr : (x.step s.op s.a s.b s.text).2 = 0
        · have hov : decide (5 ≤ x.state ∧ x.state ≤ 7) = false := by
            simp only [decide_eq_false_iff_not, not_and]
            intro h5
            exact absurd herr (step_over h5)
          obtain ⟨hly, hys⟩ := life_step hlife hok.a hok.b hok.text herr
          generalize x.step s.op s.a s.b s.text = r at *
          obtain ⟨y, e⟩ := r
          dsimp only at herr hly hys SC1
          subst herr
          have SC := Lib.hid SC1
          clear SC1 be hne
          have hst := hly.st
          obtain ⟨yn, ys, ya, yd, yp, yq⟩ := y
          have hnm := hly.nm
          dsimp only at hnm hst hys
          subst hnm
          obtain ⟨s1, s7, m1, m2, m3⟩ : 1 ≤ ys ∧ ys ≤ 7 ∧ 1 ≤ ya ∧ ya ≤ 1099511627776 ∧ 0 ≤ yd := by omega
          clear hst hys
          go_wp2_with (first
            | ((with_reducible refine at_op ⟨some 25, _, _, _, _, _⟩ ?_); refine wpList_load_row rfl _ _ rfl p rfl _ _ _ _ hb0.out Try.underlying56 rfl (by kernel_rfl) ?_)
            | (go_at_call 45; refine (SC.out _).mono ?_; rintro e w3 ⟨rfl, x3⟩; have hp3 := Lib.hid (Blk.alloc (Blk.ext hb0.out x3 (by simp)) (.cells (Ltr.cells ⟨⟨#[110]⟩, ys, ya, yd, yp, yq⟩) 56)); have hs3 := Lib.hid (Blk.alloc (Blk.ext hs0.out x3 (by simp)) (.cells (Ltr.cells ⟨⟨#[110]⟩, ys, ya, yd, yp, yq⟩) 56)); have hy3 := Lib.hid (show LtrAt (w3.alloc (.cells (Ltr.cells ⟨⟨#[110]⟩, ys, ya, yd, yp, yq⟩) 56)) w3.heap.size ⟨⟨#[110]⟩, ys, ya, yd, yp, yq⟩ from Blk.new _ _ _); have g1 := LtrAt.c1 hp3.out; have g2 := stepr_c0 hs3.out; have q0 := LtrAt.c0 hy3.out; have q1 := LtrAt.c1 hy3.out; have q2 := LtrAt.c2 hy3.out; have q3 := LtrAt.c3 hy3.out; have q4 := LtrAt.c4 hy3.out; have q5 := LtrAt.c5 hy3.out; dsimp only at q0 q1 q2 q3 q4 q5)
            | ((with_reducible refine at_op ⟨none, .store _ (.tmp 6) (.tmp 35), _, _, _, _⟩ ?_); refine wpList_store_new rfl _ _ _ rfl w3 56 _ (Ltr.cells ⟨⟨#[110]⟩, ys, ya, yd, yp, yq⟩) rfl rfl rfl (by kernel_rfl) rfl (Ltr.one ⟨⟨#[110]⟩, ys, ya, yd, yp, yq⟩) ?_)
            | (go_at_call 50; (with_reducible refine (letter_Over x.state false hov _).mono ?_); rintro e _ ⟨rfl, rfl⟩)
            | ((with_reducible refine at_op ⟨some 84, _, _, _, _, _⟩ ?_); refine wpList_load_row rfl _ _ rfl w3.heap.size rfl _ _ _ _ hy3.out Try.underlying56 rfl (by kernel_rfl) ?_)
            | ((with_reducible refine at_op ⟨none, .store _ (.tmp 3) (.tmp 84), _, _, _, _⟩ ?_); refine wpList_store_ltr (p := p) (l := x) hp3.out ⟨⟨#[110]⟩, ys, ya, yd, yp, yq⟩ rfl _ _ rfl rfl rfl ?_; intro w5 hw5 x5))
          go_roundw
          case rel => exact ⟨k + 1, _, by omega, by go_num, hly, hw5, (hext.tr ((Ext.new _ _).tr (x3.al _))).trans x5 (by simpa using hps)⟩
          case measure => simp [intOf]; omega
        · have heb : ((x.step s.op s.a s.b s.text).2 == 0) = false := by simpa using herr
          have heb2 : ((x.step s.op s.a s.b s.text).2 != 0) = true := by simpa using herr
          have hy := step_err herr
          have hov0 : (5 ≤ x.state → ltrNext x.state s.op = 0) := fun h5 => next_over _ _ h5
          have hst := hlife.st
          generalize x.step s.op s.a s.b s.text = r at *
          obtain ⟨y, e⟩ := r
          dsimp only at hy heb heb2 SC1
          subst hy
          have SC := Lib.hid SC1
          have LF := Lib.hid hlife
          clear SC1 herr
          by_cases h5 : 5 ≤ x.state
          · have hov : decide (5 ≤ x.state ∧ x.state ≤ 7) = true := by simp; omega
            have hcan := hov0 h5
            have hcanb : (ltrNext x.state s.op != 0) = false := by simp [hcan]
            have HOV := Lib.hid hov
            clear hov hov0 hst hcan
            go_wp2_with (first
            | ((with_reducible refine at_op ⟨some 25, _, _, _, _, _⟩ ?_); refine wpList_load_row rfl _ _ rfl p rfl _ _ _ _ hb0.out Try.underlying56 rfl (by kernel_rfl) ?_)
            | (go_at_call 45; refine (SC.out _).mono ?_; rintro e w3 ⟨rfl, x3⟩; have hp3 := Lib.hid (Blk.alloc (Blk.ext hb0.out x3 (by simp)) (.cells Ltr.none.cells 56)); have hs3 := Lib.hid (Blk.alloc (Blk.ext hs0.out x3 (by simp)) (.cells Ltr.none.cells 56)); have hy3 := Lib.hid (show LtrAt (w3.alloc (.cells Ltr.none.cells 56)) w3.heap.size Ltr.none from Blk.new _ _ _); have g1 := LtrAt.c1 hp3.out; have g2 := stepr_c0 hs3.out; have q0 : (w3.alloc (.cells Ltr.none.cells 56)).cell? ⟨w3.heap.size, 0, none⟩ = some (.string ⟨#[]⟩) := LtrAt.c0 hy3.out; have q1 : (w3.alloc (.cells Ltr.none.cells 56)).cell? ⟨w3.heap.size, 1, none⟩ = some (.int .i64 0) := LtrAt.c1 hy3.out; have q2 : (w3.alloc (.cells Ltr.none.cells 56)).cell? ⟨w3.heap.size, 2, none⟩ = some (.int .i64 0) := LtrAt.c2 hy3.out; have q3 : (w3.alloc (.cells Ltr.none.cells 56)).cell? ⟨w3.heap.size, 3, none⟩ = some (.int .i64 0) := LtrAt.c3 hy3.out; have q4 : (w3.alloc (.cells Ltr.none.cells 56)).cell? ⟨w3.heap.size, 4, none⟩ = some (.string ⟨#[]⟩) := LtrAt.c4 hy3.out; have q5 : (w3.alloc (.cells Ltr.none.cells 56)).cell? ⟨w3.heap.size, 5, none⟩ = some (.string ⟨#[]⟩) := LtrAt.c5 hy3.out)
            | ((with_reducible refine at_op ⟨none, .store _ (.tmp 6) (.tmp 35), _, _, _, _⟩ ?_); refine wpList_store_new rfl _ _ _ rfl w3 56 _ Ltr.none.cells rfl rfl rfl (by kernel_rfl) rfl (Ltr.one Ltr.none) ?_)
            | (go_at_call 50; (with_reducible refine (letter_Over x.state true HOV.out _).mono ?_); rintro e _ ⟨rfl, rfl⟩)
            | (go_at_call 49; refine (letter_Can x.state s.op _).mono ?_; rintro e w4 ⟨rfl, x4⟩; have q0' := x4.cell q0 (by simp); have q1' := x4.cell q1 (by simp); have q2' := x4.cell q2 (by simp); have q3' := x4.cell q3 (by simp); have q4' := x4.cell q4 (by simp); have q5' := x4.cell q5 (by simp)))
            go_roundw
            case rel => exact ⟨k + 1, x, by omega, by go_num, LF.out, Blk.ext hp3.out x4 (by simp), hext.tr ((Ext.new _ _).tr ((x3.al _).tr x4))⟩
            case measure => simp [intOf]; omega
          · have hov : decide (5 ≤ x.state ∧ x.state ≤ 7) = false := by simp; omega
            have HOV := Lib.hid hov
            clear hov hov0 hst
            go_wp2_with (first
            | ((with_reducible refine at_op ⟨some 25, _, _, _, _, _⟩ ?_); refine wpList_load_row rfl _ _ rfl p rfl _ _ _ _ hb0.out Try.underlying56 rfl (by kernel_rfl) ?_)
            | (go_at_call 45; refine (SC.out _).mono ?_; rintro e w3 ⟨rfl, x3⟩; have hp3 := Lib.hid (Blk.alloc (Blk.ext hb0.out x3 (by simp)) (.cells Ltr.none.cells 56)); have hs3 := Lib.hid (Blk.alloc (Blk.ext hs0.out x3 (by simp)) (.cells Ltr.none.cells 56)); have hy3 := Lib.hid (show LtrAt (w3.alloc (.cells Ltr.none.cells 56)) w3.heap.size Ltr.none from Blk.new _ _ _); have g1 := LtrAt.c1 hp3.out; have g2 := stepr_c0 hs3.out; have q0 : (w3.alloc (.cells Ltr.none.cells 56)).cell? ⟨w3.heap.size, 0, none⟩ = some (.string ⟨#[]⟩) := LtrAt.c0 hy3.out; have q1 : (w3.alloc (.cells Ltr.none.cells 56)).cell? ⟨w3.heap.size, 1, none⟩ = some (.int .i64 0) := LtrAt.c1 hy3.out; have q2 : (w3.alloc (.cells Ltr.none.cells 56)).cell? ⟨w3.heap.size, 2, none⟩ = some (.int .i64 0) := LtrAt.c2 hy3.out; have q3 : (w3.alloc (.cells Ltr.none.cells 56)).cell? ⟨w3.heap.size, 3, none⟩ = some (.int .i64 0) := LtrAt.c3 hy3.out; have q4 : (w3.alloc (.cells Ltr.none.cells 56)).cell? ⟨w3.heap.size, 4, none⟩ = some (.string ⟨#[]⟩) := LtrAt.c4 hy3.out; have q5 : (w3.alloc (.cells Ltr.none.cells 56)).cell? ⟨w3.heap.size, 5, none⟩ = some (.string ⟨#[]⟩) := LtrAt.c5 hy3.out)
            | ((with_reducible refine at_op ⟨none, .store _ (.tmp 6) (.tmp 35), _, _, _, _⟩ ?_); refine wpList_store_new rfl _ _ _ rfl w3 56 _ Ltr.none.cells rfl rfl rfl (by kernel_rfl) rfl (Ltr.one Ltr.none) ?_)
            | (go_at_call 50; (with_reducible refine (letter_Over x.state false HOV.out _).mono ?_); rintro e _ ⟨rfl, rfl⟩))
            go_roundw
            case rel => exact ⟨k + 1, x, by omega, by go_num, LF.out, hp3.out, hext.tr ((Ext.new _ _).tr (x3.al _))⟩
            case measure => simp [intOf]; omega
      · go_wp2
        go_ret
        exact ⟨rfl, hext⟩
end Go.Proofs.Ytdbeinbgekdnmaa
