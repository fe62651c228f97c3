/-
  The statements of layer 28 over the timer's calls.
-/
import Derived.Test.YtdbeinbgekdnmaaPatience
import Derived.Test.YtdbeinbgekdnmaaLaw
namespace Go.Proofs.Ytdbeinbgekdnmaa
open Go.RowKit Go.ChangeShapes Go.WideShapes Go.ChangeAt

theorem fixed28 (w : World) : Calls Try.prog 15 #[] w fun e w' => e = .returned (.bool true) ∧ Ext [] w w' := by
  go_enter Try.func15, Try.ntmps15
  go_wp2_with (first
    | (go_at_call 16; refine (patience_New _).mono ?_; rintro e w1 ⟨p, rfl, h1, hp, e1⟩; have HP := Lib.hid hp; clear hp)
    | (go_at_call 18; refine (patience_Start _ _ _ _ h1).mono ?_; rintro e w2 ⟨rfl, h2, e2⟩; clear h1))
  have h2' : TimerAt w2 p 32 32 := h2
  clear h2
  go_loopw [2, 6] (fun early i wr => ∃ k : Nat, k ≤ 31 ∧ early = .bool false ∧ i = .int .i64 k ∧ TimerAt wr p 32 (32 - k) ∧ Ext [p] w2 wr) (fun _ i _ => 31 - (intOf i).toNat)
  case atStart => exact ⟨0, by omega, rfl, rfl, h2', Ext.refl _⟩
  case round =>
    obtain ⟨k, hk, rfl, rfl, ht, hx⟩ := hrel
    by_cases hlt : k < 31
    · have hb : ((32 : Int) - (k : Int) == 1) = false := by simp; omega
      go_wp2_with (go_at_call 19; refine (patience_Tick _ _ _ _ ht (by omega) (by omega)).mono ?_; rintro e w3 ⟨rfl, h3, e3⟩; clear ht)
      go_roundw
      case rel =>
        refine ⟨k + 1, by omega, rfl, by go_num, ?_, hx.trans e3 (by simp)⟩
        rw [if_neg (by omega)] at h3
        have : (32 : Int) - ((k + 1 : Nat) : Int) = 32 - k - 1 := by omega
        rw [this]; exact h3
      case measure => simp [intOf]; omega
    · obtain rfl : k = 31 := by omega
      go_wp2_with (first
        | (go_at_call 17; refine (patience_Double _ _ _ _ ht (by omega) (by omega)).mono ?_; rintro e w3 ⟨rfl, h3, e3⟩; clear ht)
        | (go_at_call 19; refine (patience_Tick _ _ _ _ h3 (by omega) (by omega)).mono ?_; rintro e w4 ⟨rfl, h4, e4⟩; clear h3; replace h4 : TimerAt w4 p 64 0 := h4)
        | (go_at_call 19; refine (patience_Tick _ _ _ _ h4 (by omega) (by omega)).mono ?_; rintro e w5 ⟨rfl, h5, e5⟩; clear h4; replace h5 : TimerAt w5 p 64 0 := h5)
        | (go_at_call 36; refine (patience_Limit _ _ _ _ h5).mono ?_; rintro e w6 ⟨rfl, rfl⟩))
      go_ret
      refine ⟨rfl, ?_⟩
      have hp := HP.out
      exact e1.trans ((((e2.trans hx (by simp)).trans e3 (by simp)).trans e4 (by simp)).trans e5 (by simp)) (by simp [hp])

/-- The limit behind k doublings. -/
def dbl : Nat → Int
  | 0 => 32
  | k + 1 => min (2 * dbl k) 4096
theorem dbl_bd (k : Nat) : 32 ≤ dbl k ∧ dbl k ≤ 4096 := by
  induction k with
  | zero => decide
  | succ k ih => simp only [dbl]; omega

set_option maxHeartbeats 1000000 in
set_option maxRecDepth 100000 in
theorem waits_walk (d : Int) (h0 : 0 ≤ d) (h255 : d ≤ 255) (w : World) :
    Calls Try.prog 3 #[.int .u8 d] w fun e w' => e = .returned (.bool true) ∧ Ext [] w w' := by
  have hm : d % 12 < 12 := by omega
  have hm0 : 0 ≤ d % 12 := by omega
  go_enter Try.func3, Try.ntmps3
  go_wp2_with (first
    | (go_at_call 15; refine (fixed28 _).mono ?_; rintro e w1 ⟨rfl, e1⟩)
    | (go_at_call 16; refine (patience_New _).mono ?_; rintro e w2 ⟨p, rfl, h1, hp, e2⟩; have HP := Lib.hid hp; clear hp))
  generalize hdm : d % 12 = m at *
  clear hdm
  go_loopw [4, 11] (fun want i wr => ∃ k : Nat, (k : Int) ≤ m ∧ want = .int .i64 (dbl k) ∧ i = .int .u8 k ∧ TimerAt wr p (dbl k) 0 ∧ Ext [p] w2 wr) (fun _ i _ => (m - intOf i).toNat)
  case atStart => exact ⟨0, by omega, rfl, rfl, h1, Ext.refl _⟩
  case round =>
    obtain ⟨k, hk, rfl, rfl, ht, hx⟩ := hrel
    have hb := dbl_bd k
    have hb0 : 0 ≤ dbl k := by omega
    have hb1 : dbl k ≤ 4096 := by omega
    by_cases hlt : (k : Int) < m
    · go_wp2_with (go_at_call 17; refine (patience_Double _ _ _ _ ht hb0 hb1).mono ?_; rintro e w3 ⟨rfl, h3, e3⟩; clear ht)
      all_goals
        go_roundw
        case rel =>
          exact ⟨k + 1, by omega, by simp only [dbl]; go_num, by go_num, h3, hx.trans e3 (by simp)⟩
        case measure => simp [intOf]; omega
    · go_wp2_with (go_at_call 18; refine (patience_Start _ _ _ _ ht).mono ?_; rintro e w3 ⟨rfl, h3, e3⟩; clear ht)
      replace h3 : TimerAt w3 p (dbl k) (dbl k) := h3
      generalize dbl k = L at *
      go_loopw [5] (fun n wr' => ∃ j : Nat, (j : Int) < L ∧ n = .int .i64 (j + 1 : Nat) ∧ TimerAt wr' p L (L - j) ∧ Ext [p] w2 wr') (fun n _ => (L - intOf n).toNat)
      case atStart => exact ⟨0, by omega, rfl, by simpa using h3, hx.trans e3 (by simp)⟩
      case round =>
        obtain ⟨j, hj, rfl, ht, hx⟩ := hrel
        by_cases hlast : (j : Int) + 1 = L
        · have hl1 : (L - (j : Int) == 1) = true := by simp; omega
          have hne : (((j + 1 : Nat) : Int) == L) = true := by simp; omega
          have hne' : ((j : Int) + 1 == L) = true := by simp; omega
          have HL := Lib.hid hlast; clear hlast
          go_wp2_with (go_at_call 19; refine (patience_Tick _ _ _ _ ht (by omega) (by omega)).mono ?_; rintro e w4 ⟨rfl, h4, e4⟩; clear ht)
          go_ret
          refine ⟨rfl, ?_⟩
          have hp := HP.out
          exact (e1.trans e2 (by simp)).trans (hx.trans e4 (by simp)) (by have := e1.size; simp; omega)
        · have hl1 : (L - (j : Int) == 1) = false := by simp; omega
          go_wp2_with (go_at_call 19; refine (patience_Tick _ _ _ _ ht (by omega) (by omega)).mono ?_; rintro e w4 ⟨rfl, h4, e4⟩; clear ht)
          go_roundw
          case rel =>
            refine ⟨j + 1, by omega, by go_num, ?_, hx.trans e4 (by simp)⟩
            rw [if_neg (by omega)] at h4
            have : L - ((j + 1 : Nat) : Int) = L - j - 1 := by omega
            rw [this]; exact h4
          case measure => simp [intOf]; omega

/-- Limit and left stay within bounds. -/
theorem actOf_bd (k lim left : Int) (h : 32 ≤ lim ∧ lim ≤ 4096 ∧ 0 ≤ left ∧ left ≤ 4096) :
    32 ≤ (actOf k lim left).1 ∧ (actOf k lim left).1 ≤ 4096 ∧ 0 ≤ (actOf k lim left).2.1 ∧ (actOf k lim left).2.1 ≤ 4096 := by
  unfold actOf
  repeat' split
  all_goals simp only
  all_goals omega

set_option maxRecDepth 100000 in
set_option maxHeartbeats 1000000 in
theorem plays_walk (A : Option Addr) (n c : Nat) (ks : List Int) (w : World) (hn : ks.length = n) (_hc : n ≤ c) (_hcap : c ≤ maxLen) (hr : Row w A (ks.map (Value.int .u8))) (hk : ∀ k ∈ ks, 0 ≤ k ∧ k ≤ 255) :
    Calls Try.prog 6 #[.slice A n c] w fun e w' => e = .returned (.bool true) ∧ Ext [] w w' := by
  by_cases hbig : 500 < n
  · have HR := Lib.hid hr; clear hr
    go_enter Try.func6, Try.ntmps6
    go_wp2_with (go_at_call 15; refine (fixed28 _).mono ?_; rintro e w1 ⟨rfl, e1⟩)
    go_ret
    exact ⟨rfl, e1⟩
  · have HR := Lib.hid hr; clear hr
    have HN := Lib.hid hn; clear hn
    have HK := Lib.hid hk; clear hk
    go_enter Try.func6, Try.ntmps6
    go_wp2_with (first
      | (go_at_call 15; refine (fixed28 _).mono ?_; rintro e w1 ⟨rfl, e1⟩)
      | (go_at_call 16; refine (patience_New _).mono ?_; rintro e w2 ⟨p, rfl, h1, hp, e2⟩; have HP := Lib.hid hp; clear hp))
    have h1' : TimerAt (w2.alloc (.cells #[.int .i64 32, .bool false, .int .i64 0] 37)) p 32 0 := h1.alloc _
    have h2' : RefTimerAt (w2.alloc (.cells #[.int .i64 32, .bool false, .int .i64 0] 37)) w2.heap.size 32 0 := Blk.new _ _ _
    have hpq : p < w2.heap.size := h1.lt
    have e3 : Ext [] w (w2.alloc (.cells #[.int .i64 32, .bool false, .int .i64 0] 37)) := (e1.trans e2 (by simp)).alloc _
    have hps : w.heap.size ≤ p := by have := HP.out; have := e1.size; omega
    clear h1 e1 e2 HP
    generalize hq : w2.heap.size = q at *
    generalize w2.alloc (.cells #[.int .i64 32, .bool false, .int .i64 0] 37) = w3 at *
    clear hq
    go_loopw [24] (fun i wr => ∃ (k : Nat) (lim left : Int), k ≤ n ∧ i = .int .i64 k ∧ (32 ≤ lim ∧ lim ≤ 4096 ∧ 0 ≤ left ∧ left ≤ 4096) ∧ TimerAt wr p lim left ∧ RefTimerAt wr q lim left ∧ Ext [] w wr) (fun i _ => n - (intOf i).toNat)
    case atStart => exact ⟨0, 32, 0, by omega, rfl, by omega, h1', h2', e3⟩
    case round =>
      obtain ⟨k, lim, left, hkn, rfl, hbd, ht, hr, hx⟩ := hrel
      have hn := HN.out
      by_cases hlt : k < n
      · obtain ⟨b, off, rfl, hcell⟩ := (HR.out.ext0 hx).at_ (k := k) (by simp; omega)
        have hK := HK.out (ks[k]'(by omega)) (List.getElem_mem _)
        simp only [List.getElem_map] at hcell
        obtain ⟨K, hKe⟩ : ∃ K, K = ks[k]'(by omega) := ⟨_, rfl⟩
        rw [← hKe] at hcell hK
        clear hKe hn
        obtain ⟨⟨L, X, G⟩, hact⟩ : ∃ r, r = actOf K lim left := ⟨_, rfl⟩
        have hbd' := actOf_bd K lim left hbd
        rw [← hact] at hbd'
        simp only at hbd'
        obtain ⟨b1, b2, b3, b4⟩ := hbd
        obtain ⟨b5, b6, b7, b8⟩ := hbd'
        have hact := Lib.hid hact.symm
        have hk : K = 0 ∨ K = 1 ∨ K = 2 ∨ K = 3 ∨ K = 4 ∨ 4 < K := by omega
        rcases hk with rfl | rfl | rfl | rfl | rfl | hK5
        ·
          have hG := act_false (by omega) (by omega) hact.out
          subst hG
          go_wp2_with (first
            | (go_at_call 18; refine (act_Start ht rfl hact.out).mono ?_; rintro e w4 ⟨rfl, ht2, x4⟩)
            | (go_at_call 34; refine (act_Do (Blk.ext hr x4 (by simp; omega)) (by omega) (by omega) (by omega) (by omega) (by omega) (by omega) hact.out).mono ?_; rintro e w5 ⟨rfl, hr2, x5⟩)
            | (go_at_call 35; refine (patience_Left _ _ _ _ (Blk.ext ht2 x5 (by simp; omega))).mono ?_; rintro e w6 ⟨rfl, x6⟩))
          have ht3 : TimerAt w6 p L X := Blk.still (Blk.ext ht2 x5 (by simp; omega)) x6
          have hr3 : RefTimerAt w6 q L X := Blk.still hr2 x6
          have q0 : w6.cell? ⟨q, 0, none⟩ = some (.int .i64 L) := by have := Blk.cell hr3 0; simpa using this
          have q1 : w6.cell? ⟨q, 1, none⟩ = some (.bool (decide (0 < X))) := by have := Blk.cell hr3 1; simpa using this
          have q2 : w6.cell? ⟨q, 2, none⟩ = some (.int .i64 X) := by have := Blk.cell hr3 2; simpa using this
          go_quiet ((go_at_call 36; exact Calls.quiet_of_same ((patience_Limit _ _ _ _ (Blk.drewN ht3 _)).mono (fun _ _ h => ⟨h.1, h.2.symm⟩))))
          go_wp2
          go_roundw
          case rel => exact ⟨k + 1, L, X, by omega, by go_num, ⟨b5, b6, b7, b8⟩, Blk.drewN ht3 _, Blk.drewN hr3 _, (((hx.trans x4 (by simp; omega)).trans x5 (by simp; omega)).trans x6.ext (G := []) (by simp)).drewN _⟩
          case measure => simp [intOf]; omega
        ·
          have hG := act_false (by omega) (by omega) hact.out
          subst hG
          go_wp2_with (first
            | (go_at_call 31; refine (act_Restart ht rfl hact.out).mono ?_; rintro e w4 ⟨rfl, ht2, x4⟩)
            | (go_at_call 34; refine (act_Do (Blk.ext hr x4 (by simp; omega)) (by omega) (by omega) (by omega) (by omega) (by omega) (by omega) hact.out).mono ?_; rintro e w5 ⟨rfl, hr2, x5⟩)
            | (go_at_call 35; refine (patience_Left _ _ _ _ (Blk.ext ht2 x5 (by simp; omega))).mono ?_; rintro e w6 ⟨rfl, x6⟩))
          have ht3 : TimerAt w6 p L X := Blk.still (Blk.ext ht2 x5 (by simp; omega)) x6
          have hr3 : RefTimerAt w6 q L X := Blk.still hr2 x6
          have q0 : w6.cell? ⟨q, 0, none⟩ = some (.int .i64 L) := by have := Blk.cell hr3 0; simpa using this
          have q1 : w6.cell? ⟨q, 1, none⟩ = some (.bool (decide (0 < X))) := by have := Blk.cell hr3 1; simpa using this
          have q2 : w6.cell? ⟨q, 2, none⟩ = some (.int .i64 X) := by have := Blk.cell hr3 2; simpa using this
          go_quiet ((go_at_call 36; exact Calls.quiet_of_same ((patience_Limit _ _ _ _ (Blk.drewN ht3 _)).mono (fun _ _ h => ⟨h.1, h.2.symm⟩))))
          go_wp2
          go_roundw
          case rel => exact ⟨k + 1, L, X, by omega, by go_num, ⟨b5, b6, b7, b8⟩, Blk.drewN ht3 _, Blk.drewN hr3 _, (((hx.trans x4 (by simp; omega)).trans x5 (by simp; omega)).trans x6.ext (G := []) (by simp)).drewN _⟩
          case measure => simp [intOf]; omega
        ·
          have hG := act_false (by omega) (by omega) hact.out
          subst hG
          go_wp2_with (first
            | (go_at_call 32; refine (act_Stop ht rfl hact.out).mono ?_; rintro e w4 ⟨rfl, ht2, x4⟩)
            | (go_at_call 34; refine (act_Do (Blk.ext hr x4 (by simp; omega)) (by omega) (by omega) (by omega) (by omega) (by omega) (by omega) hact.out).mono ?_; rintro e w5 ⟨rfl, hr2, x5⟩)
            | (go_at_call 35; refine (patience_Left _ _ _ _ (Blk.ext ht2 x5 (by simp; omega))).mono ?_; rintro e w6 ⟨rfl, x6⟩))
          have ht3 : TimerAt w6 p L X := Blk.still (Blk.ext ht2 x5 (by simp; omega)) x6
          have hr3 : RefTimerAt w6 q L X := Blk.still hr2 x6
          have q0 : w6.cell? ⟨q, 0, none⟩ = some (.int .i64 L) := by have := Blk.cell hr3 0; simpa using this
          have q1 : w6.cell? ⟨q, 1, none⟩ = some (.bool (decide (0 < X))) := by have := Blk.cell hr3 1; simpa using this
          have q2 : w6.cell? ⟨q, 2, none⟩ = some (.int .i64 X) := by have := Blk.cell hr3 2; simpa using this
          go_quiet ((go_at_call 36; exact Calls.quiet_of_same ((patience_Limit _ _ _ _ (Blk.drewN ht3 _)).mono (fun _ _ h => ⟨h.1, h.2.symm⟩))))
          go_wp2
          go_roundw
          case rel => exact ⟨k + 1, L, X, by omega, by go_num, ⟨b5, b6, b7, b8⟩, Blk.drewN ht3 _, Blk.drewN hr3 _, (((hx.trans x4 (by simp; omega)).trans x5 (by simp; omega)).trans x6.ext (G := []) (by simp)).drewN _⟩
          case measure => simp [intOf]; omega
        ·
          have hG := act_false (by omega) (by omega) hact.out
          subst hG
          go_wp2_with (first
            | (go_at_call 33; refine (act_Ease ht rfl hact.out).mono ?_; rintro e w4 ⟨rfl, ht2, x4⟩)
            | (go_at_call 34; refine (act_Do (Blk.ext hr x4 (by simp; omega)) (by omega) (by omega) (by omega) (by omega) (by omega) (by omega) hact.out).mono ?_; rintro e w5 ⟨rfl, hr2, x5⟩)
            | (go_at_call 35; refine (patience_Left _ _ _ _ (Blk.ext ht2 x5 (by simp; omega))).mono ?_; rintro e w6 ⟨rfl, x6⟩))
          have ht3 : TimerAt w6 p L X := Blk.still (Blk.ext ht2 x5 (by simp; omega)) x6
          have hr3 : RefTimerAt w6 q L X := Blk.still hr2 x6
          have q0 : w6.cell? ⟨q, 0, none⟩ = some (.int .i64 L) := by have := Blk.cell hr3 0; simpa using this
          have q1 : w6.cell? ⟨q, 1, none⟩ = some (.bool (decide (0 < X))) := by have := Blk.cell hr3 1; simpa using this
          have q2 : w6.cell? ⟨q, 2, none⟩ = some (.int .i64 X) := by have := Blk.cell hr3 2; simpa using this
          go_quiet ((go_at_call 36; exact Calls.quiet_of_same ((patience_Limit _ _ _ _ (Blk.drewN ht3 _)).mono (fun _ _ h => ⟨h.1, h.2.symm⟩))))
          go_wp2
          go_roundw
          case rel => exact ⟨k + 1, L, X, by omega, by go_num, ⟨b5, b6, b7, b8⟩, Blk.drewN ht3 _, Blk.drewN hr3 _, (((hx.trans x4 (by simp; omega)).trans x5 (by simp; omega)).trans x6.ext (G := []) (by simp)).drewN _⟩
          case measure => simp [intOf]; omega
        ·
          have hG := act_false (by omega) (by omega) hact.out
          subst hG
          go_wp2_with (first
            | (go_at_call 17; refine (act_Double ht (by omega) (by omega) rfl hact.out).mono ?_; rintro e w4 ⟨rfl, ht2, x4⟩)
            | (go_at_call 34; refine (act_Do (Blk.ext hr x4 (by simp; omega)) (by omega) (by omega) (by omega) (by omega) (by omega) (by omega) hact.out).mono ?_; rintro e w5 ⟨rfl, hr2, x5⟩)
            | (go_at_call 35; refine (patience_Left _ _ _ _ (Blk.ext ht2 x5 (by simp; omega))).mono ?_; rintro e w6 ⟨rfl, x6⟩))
          have ht3 : TimerAt w6 p L X := Blk.still (Blk.ext ht2 x5 (by simp; omega)) x6
          have hr3 : RefTimerAt w6 q L X := Blk.still hr2 x6
          have q0 : w6.cell? ⟨q, 0, none⟩ = some (.int .i64 L) := by have := Blk.cell hr3 0; simpa using this
          have q1 : w6.cell? ⟨q, 1, none⟩ = some (.bool (decide (0 < X))) := by have := Blk.cell hr3 1; simpa using this
          have q2 : w6.cell? ⟨q, 2, none⟩ = some (.int .i64 X) := by have := Blk.cell hr3 2; simpa using this
          go_quiet ((go_at_call 36; exact Calls.quiet_of_same ((patience_Limit _ _ _ _ (Blk.drewN ht3 _)).mono (fun _ _ h => ⟨h.1, h.2.symm⟩))))
          go_wp2
          go_roundw
          case rel => exact ⟨k + 1, L, X, by omega, by go_num, ⟨b5, b6, b7, b8⟩, Blk.drewN ht3 _, Blk.drewN hr3 _, (((hx.trans x4 (by simp; omega)).trans x5 (by simp; omega)).trans x6.ext (G := []) (by simp)).drewN _⟩
          case measure => simp [intOf]; omega
        ·
          have k0 : (K == 0) = false := by simp; omega
          have k1 : (K == 1) = false := by simp; omega
          have k2 : (K == 2) = false := by simp; omega
          have k3 : (K == 3) = false := by simp; omega
          have k4 : (K == 4) = false := by simp; omega
          go_wp2_with (first
            | (go_at_call 19; refine (act_Tick ht (by omega) (by omega) hK5 hact.out).mono ?_; rintro e w4 ⟨rfl, ht2, x4⟩)
            | (go_at_call 34; refine (act_Do (Blk.ext hr x4 (by simp; omega)) (by omega) (by omega) (by omega) (by omega) (by omega) (by omega) hact.out).mono ?_; rintro e w5 ⟨rfl, hr2, x5⟩)
            | (go_at_call 35; refine (patience_Left _ _ _ _ (Blk.ext ht2 x5 (by simp; omega))).mono ?_; rintro e w6 ⟨rfl, x6⟩))
          have ht3 : TimerAt w6 p L X := Blk.still (Blk.ext ht2 x5 (by simp; omega)) x6
          have hr3 : RefTimerAt w6 q L X := Blk.still hr2 x6
          have q0 : w6.cell? ⟨q, 0, none⟩ = some (.int .i64 L) := by have := Blk.cell hr3 0; simpa using this
          have q1 : w6.cell? ⟨q, 1, none⟩ = some (.bool (decide (0 < X))) := by have := Blk.cell hr3 1; simpa using this
          have q2 : w6.cell? ⟨q, 2, none⟩ = some (.int .i64 X) := by have := Blk.cell hr3 2; simpa using this
          go_quiet ((go_at_call 36; exact Calls.quiet_of_same ((patience_Limit _ _ _ _ (Blk.drewN ht3 _)).mono (fun _ _ h => ⟨h.1, h.2.symm⟩))))
          go_wp2
          go_roundw
          case rel => exact ⟨k + 1, L, X, by omega, by go_num, ⟨b5, b6, b7, b8⟩, Blk.drewN ht3 _, Blk.drewN hr3 _, (((hx.trans x4 (by simp; omega)).trans x5 (by simp; omega)).trans x6.ext (G := []) (by simp)).drewN _⟩
          case measure => simp [intOf]; omega
      · go_wp2_with (first
          | (go_at_call 18; refine (patience_Start_nil _).mono ?_; rintro e _ ⟨rfl, rfl⟩)
          | (go_at_call 31; refine (patience_Restart_nil _).mono ?_; rintro e _ ⟨rfl, rfl⟩)
          | (go_at_call 32; refine (patience_Stop_nil _).mono ?_; rintro e _ ⟨rfl, rfl⟩)
          | (go_at_call 33; refine (patience_Ease_nil _).mono ?_; rintro e _ ⟨rfl, rfl⟩)
          | (go_at_call 17; refine (patience_Double_nil _).mono ?_; rintro e _ ⟨rfl, rfl⟩)
          | (go_at_call 19; refine (patience_Tick_nil _).mono ?_; rintro e _ ⟨rfl, rfl⟩)
          | (go_at_call 36; refine (patience_Limit_nil _).mono ?_; rintro e _ ⟨rfl, rfl⟩)
          | (go_at_call 35; refine (patience_Left_nil _).mono ?_; rintro e _ ⟨rfl, rfl⟩))
        go_ret
        exact ⟨rfl, hx⟩
end Go.Proofs.Ytdbeinbgekdnmaa
