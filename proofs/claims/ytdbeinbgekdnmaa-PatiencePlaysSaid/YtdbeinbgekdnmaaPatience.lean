/-
  The timer of layer 28, call by call.
-/
import Derived.Test.YtdbeinbgekdnmaaBase
import Derived.Test.YtdbeinbgekdnmaaProg
namespace Go.Proofs.Ytdbeinbgekdnmaa
open Go.RowKit

def TimerAt (w : World) (p : Nat) (lim left : Int) : Prop := Blk w p 98 #[.int .i64 lim, .int .i64 left]
theorem TimerAt.c0 {w : World} {p : Nat} {lim left : Int} (h : TimerAt w p lim left) : w.cell? ⟨p, 0, none⟩ = some (.int .i64 lim) := by
  have := Blk.cell h 0; simpa using this
theorem TimerAt.c1 {w : World} {p : Nat} {lim left : Int} (h : TimerAt w p lim left) : w.cell? ⟨p, 1, none⟩ = some (.int .i64 left) := by
  have := Blk.cell h 1; simpa using this

theorem patience_New (w : World) : Calls Try.prog 16 #[] w fun e w' => ∃ p, e = .returned (.pointer (some ⟨p, 0, none⟩)) ∧ TimerAt w' p 32 0 ∧ p = w.heap.size ∧ Ext [] w w' := by
  go_enter Try.func16, Try.ntmps16
  go_wp2
  go_ret
  exact ⟨_, rfl, Blk.new _ _ _, rfl, (Ext.refl _).alloc _⟩

theorem patience_Double (w : World) (p : Nat) (lim left : Int) (h : TimerAt w p lim left) (h0 : 0 ≤ lim) (h1 : lim ≤ 4096) :
    Calls Try.prog 17 #[.pointer (some ⟨p, 0, none⟩)] w fun e w' => e = .returned (.tuple #[]) ∧ TimerAt w' p (min (2 * lim) 4096) left ∧ Ext [p] w w' := by
  have c0 := h.c0
  have f0 := h.frozen 0
  have H := Lib.hid h; clear h
  go_enter Try.func17, Try.ntmps17
  go_wp2
  all_goals
    go_end0
    refine ⟨rfl, ?_, (Ext.refl _).setCell (by simp) _⟩
    have := Blk.set_ H.out 0 (.int .i64 (min (2 * lim) 4096))
  · have e : min (2 * lim) 4096 = 4096 := by omega
    rw [e] at this ⊢; exact this
  · have e : min (2 * lim) 4096 = lim * 2 := by omega
    rw [e] at this ⊢; exact this

theorem patience_Start (w : World) (p : Nat) (lim left : Int) (h : TimerAt w p lim left) :
    Calls Try.prog 18 #[.pointer (some ⟨p, 0, none⟩)] w fun e w' => e = .returned (.tuple #[]) ∧ TimerAt w' p lim (if left = 0 then lim else left) ∧ Ext [p] w w' := by
  have c0 := h.c0
  have c1 := h.c1
  have f0 := h.frozen 1
  have H := Lib.hid h; clear h
  by_cases hl : left = 0
  · subst hl
    go_enter Try.func18, Try.ntmps18
    go_wp2
    go_end0
    refine ⟨rfl, ?_, (Ext.refl _).setCell (by simp) _⟩
    exact Blk.set_ H.out 1 (.int .i64 lim)
  · have hb : (left == 0) = false := by simpa using hl
    go_enter Try.func18, Try.ntmps18
    go_wp2
    go_end0
    refine ⟨rfl, ?_, Ext.refl _⟩
    exact H.out

theorem patience_Tick (w : World) (p : Nat) (lim left : Int) (h : TimerAt w p lim left) (h0 : 0 ≤ left) (h1 : left ≤ 4096) :
    Calls Try.prog 19 #[.pointer (some ⟨p, 0, none⟩)] w fun e w' => e = .returned (.bool (left == 1)) ∧ TimerAt w' p lim (if left = 0 then 0 else left - 1) ∧ Ext [p] w w' := by
  have c0 := h.c0
  have c1 := h.c1
  have f0 := h.frozen 1
  have H := Lib.hid h; clear h
  by_cases hl : left = 0
  · subst hl
    go_enter Try.func19, Try.ntmps19
    go_wp2
    go_ret
    exact ⟨rfl, H.out, Ext.refl _⟩
  · have hb : (left == 0) = false := by simpa using hl
    go_enter Try.func19, Try.ntmps19
    go_wp2
    go_ret
    refine ⟨?_, ?_, (Ext.refl _).setCell (by simp) _⟩
    · refine ret_bool ?_
      rw [Bool.eq_iff_iff]; simp; omega
    · exact Blk.set_ H.out 1 (.int .i64 (left - 1))

theorem patience_Limit (w : World) (p : Nat) (lim left : Int) (h : TimerAt w p lim left) :
    Calls Try.prog 36 #[.pointer (some ⟨p, 0, none⟩)] w fun e w' => e = .returned (.int .i64 lim) ∧ w = w' := by
  have c0 := h.c0
  have H := Lib.hid h; clear h
  go_enter Try.func36, Try.ntmps36
  go_wp2
  go_ret
  exact ⟨rfl, rfl⟩

theorem patience_Restart (w : World) (p : Nat) (lim left : Int) (h : TimerAt w p lim left) :
    Calls Try.prog 31 #[.pointer (some ⟨p, 0, none⟩)] w fun e w' => e = .returned (.tuple #[]) ∧ TimerAt w' p lim lim ∧ Ext [p] w w' := by
  have c0 := h.c0
  have f0 := h.frozen 1
  have c1 := h.c1
  have H := Lib.hid h; clear h
  go_enter Try.func31, Try.ntmps31
  go_wp2
  go_end0
  exact ⟨rfl, Blk.set_ H.out 1 (.int .i64 lim), (Ext.refl _).setCell (by simp) _⟩

theorem patience_Stop (w : World) (p : Nat) (lim left : Int) (h : TimerAt w p lim left) :
    Calls Try.prog 32 #[.pointer (some ⟨p, 0, none⟩)] w fun e w' => e = .returned (.tuple #[]) ∧ TimerAt w' p lim 0 ∧ Ext [p] w w' := by
  have c1 := h.c1
  have f0 := h.frozen 1
  have H := Lib.hid h; clear h
  go_enter Try.func32, Try.ntmps32
  go_wp2
  go_end0
  exact ⟨rfl, Blk.set_ H.out 1 (.int .i64 0), (Ext.refl _).setCell (by simp) _⟩

theorem patience_Ease (w : World) (p : Nat) (lim left : Int) (h : TimerAt w p lim left) :
    Calls Try.prog 33 #[.pointer (some ⟨p, 0, none⟩)] w fun e w' => e = .returned (.tuple #[]) ∧ TimerAt w' p 32 (if 0 < left then 32 else left) ∧ Ext [p] w w' := by
  have c0 := h.c0
  have c1 := h.c1
  have f0 := h.frozen 0
  have f1 := h.frozen 1
  have H := Lib.hid h; clear h
  by_cases hl : 0 < left
  all_goals
    go_enter Try.func33, Try.ntmps33
    go_wp2
    go_end0
  · exact ⟨rfl, Blk.set_ (Blk.set_ H.out 0 (.int .i64 32)) 1 (.int .i64 32), ((Ext.refl _).setCell (by simp) _).setCell (by simp) _⟩
  · exact ⟨rfl, Blk.set_ H.out 0 (.int .i64 32), (Ext.refl _).setCell (by simp) _⟩

theorem patience_Left (w : World) (p : Nat) (lim left : Int) (h : TimerAt w p lim left) :
    Calls Try.prog 35 #[.pointer (some ⟨p, 0, none⟩)] w fun e w' => e = .returned (.tuple #[.int .i64 left, .bool (decide (0 < left))]) ∧ Still w w' := by
  have c1 := h.c1
  have H := Lib.hid h; clear h
  go_enter Try.func35, Try.ntmps35
  go_wp2
  go_quiet (fail)
  go_wp2
  go_ret2
  exact ⟨rfl, Still.drewN _ _⟩

theorem patience_Start_nil (w : World) : Calls Try.prog 18 #[.pointer none] w fun e w' => e = .returned (.tuple #[]) ∧ w = w' := by
  go_enter Try.func18, Try.ntmps18
  go_wp2
  go_end0
  exact ⟨rfl, rfl⟩

theorem patience_Restart_nil (w : World) : Calls Try.prog 31 #[.pointer none] w fun e w' => e = .returned (.tuple #[]) ∧ w = w' := by
  go_enter Try.func31, Try.ntmps31
  go_wp2
  go_end0
  exact ⟨rfl, rfl⟩

theorem patience_Stop_nil (w : World) : Calls Try.prog 32 #[.pointer none] w fun e w' => e = .returned (.tuple #[]) ∧ w = w' := by
  go_enter Try.func32, Try.ntmps32
  go_wp2
  go_end0
  exact ⟨rfl, rfl⟩

theorem patience_Ease_nil (w : World) : Calls Try.prog 33 #[.pointer none] w fun e w' => e = .returned (.tuple #[]) ∧ w = w' := by
  go_enter Try.func33, Try.ntmps33
  go_wp2
  (try simp only [Exit.inBlock, Exit.then]); refine bodyPost_ret (results_none rfl _ _ _) rfl ?_
  exact ⟨rfl, rfl⟩

theorem patience_Double_nil (w : World) : Calls Try.prog 17 #[.pointer none] w fun e w' => e = .returned (.tuple #[]) ∧ w = w' := by
  go_enter Try.func17, Try.ntmps17
  go_wp2
  go_end0
  exact ⟨rfl, rfl⟩

theorem patience_Tick_nil (w : World) : Calls Try.prog 19 #[.pointer none] w fun e w' => e = .returned (.bool false) ∧ w = w' := by
  go_enter Try.func19, Try.ntmps19
  go_wp2
  go_ret
  exact ⟨rfl, rfl⟩

theorem patience_Limit_nil (w : World) : Calls Try.prog 36 #[.pointer none] w fun e w' => e = .returned (.int .i64 0) ∧ w = w' := by
  go_enter Try.func36, Try.ntmps36
  go_wp2
  go_ret
  exact ⟨rfl, rfl⟩

theorem patience_Left_nil (w : World) : Calls Try.prog 35 #[.pointer none] w fun e w' => e = .returned (.tuple #[.int .i64 0, .bool false]) ∧ w = w' := by
  go_enter Try.func35, Try.ntmps35
  go_wp2
  go_ret2
  exact ⟨rfl, rfl⟩

/-- The document's timer: limit, runs, left. -/
def RefTimerAt (w : World) (p : Nat) (lim left : Int) : Prop := Blk w p 37 #[.int .i64 lim, .bool (decide (0 < left)), .int .i64 left]
/-- What an act (0 to 4; above: a tick) makes of limit and left, and what it answers. -/
def actOf (k lim left : Int) : Int × Int × Bool :=
  if k = 0 then (lim, if left = 0 then lim else left, false)
  else if k = 1 then (lim, lim, false)
  else if k = 2 then (lim, 0, false)
  else if k = 3 then (32, if 0 < left then 32 else left, false)
  else if k = 4 then (min (2 * lim) 4096, left, false)
  else (lim, if left = 0 then 0 else left - 1, left == 1)

set_option maxRecDepth 100000 in
theorem ref28_Do (w : World) (p : Nat) (k lim left : Int) (h : RefTimerAt w p lim left) (hk : 0 ≤ k) (_hk2 : k ≤ 255) (h0 : 1 ≤ lim) (h1 : lim ≤ 4096) (h2 : 0 ≤ left) (h3 : left ≤ 4096) :
    Calls Try.prog 34 #[.pointer (some ⟨p, 0, none⟩), .int .u8 k] w fun e w' =>
      e = .returned (.bool (actOf k lim left).2.2) ∧ RefTimerAt w' p (actOf k lim left).1 (actOf k lim left).2.1 ∧ Ext [p] w w' := by
  have c0 : w.cell? ⟨p, 0, none⟩ = some (.int .i64 lim) := by have := Blk.cell h 0; simpa using this
  have c1 : w.cell? ⟨p, 1, none⟩ = some (.bool (decide (0 < left))) := by have := Blk.cell h 1; simpa using this
  have c2 : w.cell? ⟨p, 2, none⟩ = some (.int .i64 left) := by have := Blk.cell h 2; simpa using this
  have f0 := h.frozen 0
  have f1 := h.frozen 1
  have f2 := h.frozen 2
  have H := Lib.hid h; clear h
  have fin : ∀ (l1 x : Int) (b g : Bool), actOf k lim left = (l1, x, g) → b = decide (0 < x) → ∀ w', Blk w' p 37 #[.int .i64 l1, .bool b, .int .i64 x] → Ext [p] w w' →
      (Ending.returned (.bool g) = .returned (.bool (actOf k lim left).2.2) ∧ RefTimerAt w' p (actOf k lim left).1 (actOf k lim left).2.1 ∧ Ext [p] w w') := by
    intro l1 x b g hact hb w' hblk hx
    rw [hact]; subst hb; exact ⟨rfl, hblk, hx⟩
  have F := Lib.hid fin; clear fin
  have B := H.out
  unfold RefTimerAt at B
  have HB := Lib.hid B; clear B H
  by_cases k0 : k = 0
  · subst k0
    by_cases hl : left = 0
    · subst hl
      go_enter Try.func34, Try.ntmps34
      go_wp2
      go_ret
      exact F.out lim lim true false (by simp [actOf]) (by simp; omega) _ (Blk.set_ (Blk.set_ HB.out 1 _) 2 _) (((Ext.refl _).setCell (by simp) _).setCell (by simp) _)
    · have hb : decide (0 < left) = true := by simp; omega
      rw [hb] at c1
      go_enter Try.func34, Try.ntmps34
      go_wp2
      go_ret
      exact F.out lim left _ false (by simp [actOf, hl]) rfl _ HB.out (Ext.refl _)
  by_cases k1 : k = 1
  · subst k1
    go_enter Try.func34, Try.ntmps34
    go_wp2
    go_ret
    exact F.out lim lim true false (by simp [actOf]) (by simp; omega) _ (Blk.set_ (Blk.set_ HB.out 1 _) 2 _) (((Ext.refl _).setCell (by simp) _).setCell (by simp) _)
  by_cases k2 : k = 2
  · subst k2
    go_enter Try.func34, Try.ntmps34
    go_wp2
    go_ret
    exact F.out lim 0 false false (by simp [actOf]) rfl _ (Blk.set_ (Blk.set_ HB.out 1 _) 2 _) (((Ext.refl _).setCell (by simp) _).setCell (by simp) _)
  have b0 : (k == 0) = false := by simpa using k0
  have b1 : (k == 1) = false := by simpa using k1
  have b2 : (k == 2) = false := by simpa using k2
  by_cases k3 : k = 3
  · subst k3
    by_cases hl : 0 < left
    · have hb : decide (0 < left) = true := by simpa using hl
      rw [hb] at c1
      go_enter Try.func34, Try.ntmps34
      go_wp2
      go_ret
      exact F.out 32 32 _ false (by simp [actOf, hl]) (by rw [hb]; rfl) _ (Blk.set_ (Blk.set_ HB.out 0 _) 2 _) (((Ext.refl _).setCell (by simp) _).setCell (by simp) _)
    · have hb : decide (0 < left) = false := by simpa using hl
      rw [hb] at c1
      go_enter Try.func34, Try.ntmps34
      go_wp2
      go_ret
      exact F.out 32 left _ false (by simp [actOf]; omega) rfl _ (Blk.set_ HB.out 0 _) ((Ext.refl _).setCell (by simp) _)
  have b3 : (k == 3) = false := by simpa using k3
  by_cases k4 : k = 4
  · subst k4
    by_cases hm : 4096 < 2 * lim
    all_goals
      go_enter Try.func34, Try.ntmps34
      go_wp2
      go_ret
    · exact F.out 4096 left _ false (by simp [actOf]; omega) rfl _ (Blk.set_ HB.out 0 _) ((Ext.refl _).setCell (by simp) _)
    · exact F.out (2 * lim) left _ false (by simp [actOf]; omega) rfl _ (Blk.set_ HB.out 0 _) ((Ext.refl _).setCell (by simp) _)
  have b4 : (k == 4) = false := by simpa using k4
  by_cases l0 : left = 0
  · subst l0
    go_enter Try.func34, Try.ntmps34
    go_wp2
    go_ret
    exact F.out lim 0 _ false (by simp [actOf, k0, k1, k2, k3, k4]) rfl _ HB.out (Ext.refl _)
  have hb : decide (0 < left) = true := by simp; omega
  rw [hb] at c1
  by_cases l1 : left = 1
  · subst l1
    go_enter Try.func34, Try.ntmps34
    go_wp2
    go_ret
    exact F.out lim 0 false true (by simp [actOf, k0, k1, k2, k3, k4]) rfl _ (Blk.set_ (Blk.set_ HB.out 1 _) 2 _) (((Ext.refl _).setCell (by simp) _).setCell (by simp) _)
  · have hl1 : (left == 1) = false := by simpa using l1
    go_enter Try.func34, Try.ntmps34
    go_wp2
    go_ret
    exact F.out lim (left - 1) (decide (0 < left)) false (by simp [actOf, k0, k1, k2, k3, k4, l0, l1]) (by simp; omega) _ (Blk.set_ HB.out 2 _) ((Ext.refl _).setCell (by simp) _)

section
variable {w : World} {p : Nat} {k lim left L X : Int} {G : Bool}
theorem act_Start (h : TimerAt w p lim left) (hk : k = 0) (ha : actOf k lim left = (L, X, G)) :
    Calls Try.prog 18 #[.pointer (some ⟨p, 0, none⟩)] w fun e w' => e = .returned (.tuple #[]) ∧ TimerAt w' p L X ∧ Ext [p] w w' :=
  (patience_Start w p lim left h).mono fun _ _ ⟨a, b, c⟩ => ⟨a, by simp [actOf, hk] at ha; rw [← ha.1, ← ha.2.1]; exact b, c⟩
theorem act_Restart (h : TimerAt w p lim left) (hk : k = 1) (ha : actOf k lim left = (L, X, G)) :
    Calls Try.prog 31 #[.pointer (some ⟨p, 0, none⟩)] w fun e w' => e = .returned (.tuple #[]) ∧ TimerAt w' p L X ∧ Ext [p] w w' :=
  (patience_Restart w p lim left h).mono fun _ _ ⟨a, b, c⟩ => ⟨a, by simp [actOf, hk] at ha; rw [← ha.1, ← ha.2.1]; exact b, c⟩
theorem act_Stop (h : TimerAt w p lim left) (hk : k = 2) (ha : actOf k lim left = (L, X, G)) :
    Calls Try.prog 32 #[.pointer (some ⟨p, 0, none⟩)] w fun e w' => e = .returned (.tuple #[]) ∧ TimerAt w' p L X ∧ Ext [p] w w' :=
  (patience_Stop w p lim left h).mono fun _ _ ⟨a, b, c⟩ => ⟨a, by simp [actOf, hk] at ha; rw [← ha.1, ← ha.2.1]; exact b, c⟩
theorem act_Ease (h : TimerAt w p lim left) (hk : k = 3) (ha : actOf k lim left = (L, X, G)) :
    Calls Try.prog 33 #[.pointer (some ⟨p, 0, none⟩)] w fun e w' => e = .returned (.tuple #[]) ∧ TimerAt w' p L X ∧ Ext [p] w w' :=
  (patience_Ease w p lim left h).mono fun _ _ ⟨a, b, c⟩ => ⟨a, by simp [actOf, hk] at ha; rw [← ha.1, ← ha.2.1]; exact b, c⟩
theorem act_Double (h : TimerAt w p lim left) (h0 : 0 ≤ lim) (h1 : lim ≤ 4096) (hk : k = 4) (ha : actOf k lim left = (L, X, G)) :
    Calls Try.prog 17 #[.pointer (some ⟨p, 0, none⟩)] w fun e w' => e = .returned (.tuple #[]) ∧ TimerAt w' p L X ∧ Ext [p] w w' :=
  (patience_Double w p lim left h h0 h1).mono fun _ _ ⟨a, b, c⟩ => ⟨a, by simp [actOf, hk] at ha; rw [← ha.1, ← ha.2.1]; exact b, c⟩
theorem act_Tick (h : TimerAt w p lim left) (h0 : 0 ≤ left) (h1 : left ≤ 4096) (h2 : 4 < k) (ha : actOf k lim left = (L, X, G)) :
    Calls Try.prog 19 #[.pointer (some ⟨p, 0, none⟩)] w fun e w' => e = .returned (.bool G) ∧ TimerAt w' p L X ∧ Ext [p] w w' := by
  simp only [actOf, if_neg (show ¬ k = 0 by omega), if_neg (show ¬ k = 1 by omega), if_neg (show ¬ k = 2 by omega), if_neg (show ¬ k = 3 by omega), if_neg (show ¬ k = 4 by omega), Prod.mk.injEq] at ha
  obtain ⟨rfl, rfl, rfl⟩ := ha
  exact patience_Tick w p _ left h h0 h1
theorem act_Do (h : RefTimerAt w p lim left) (hk : 0 ≤ k) (hk2 : k ≤ 255) (h0 : 1 ≤ lim) (h1 : lim ≤ 4096) (h2 : 0 ≤ left) (h3 : left ≤ 4096) (ha : actOf k lim left = (L, X, G)) :
    Calls Try.prog 34 #[.pointer (some ⟨p, 0, none⟩), .int .u8 k] w fun e w' => e = .returned (.bool G) ∧ RefTimerAt w' p L X ∧ Ext [p] w w' :=
  (ref28_Do w p k lim left h hk hk2 h0 h1 h2 h3).mono fun _ _ ⟨a, b, c⟩ => by rw [ha] at a b; exact ⟨a, b, c⟩
theorem act_false (h2 : k ≤ 4) (hk : 0 ≤ k) (ha : actOf k lim left = (L, X, G)) : G = false := by
  have : k = 0 ∨ k = 1 ∨ k = 2 ∨ k = 3 ∨ k = 4 := by omega
  rcases this with rfl | rfl | rfl | rfl | rfl <;> simp [actOf] at ha <;> exact ha.2.2
end
end Go.Proofs.Ytdbeinbgekdnmaa
