/-
  Money: what the program's amounts and the document's come to.
-/
import Derived.Test.YtdbeinbgekdnmaaBase
import Derived.Test.YtdbeinbgekdnmaaProg
namespace Go.Proofs.Ytdbeinbgekdnmaa
open Go.RowKit

/-- Is a number an amount? -/
def isAmt (a : Int) : Bool := decide (0 ≤ a ∧ a ≤ 1099511627776)
theorem isAmt_true {a : Int} (h : isAmt a = true) : 0 ≤ a ∧ a ≤ 1099511627776 := by simpa [isAmt] using h
theorem isAmt_mk {a : Int} (h0 : 0 ≤ a) (h1 : a ≤ 1099511627776) : isAmt a = true := by simp [isAmt]; omega
theorem isAmt_false {a : Int} (h : isAmt a = false) : a < 0 ∨ 1099511627776 < a := by simp [isAmt] at h; omega
/-- A sum, or a difference: the number and the error. -/
def amtAdd (a b : Int) : Int × Int := if !isAmt a || !isAmt b then (0, 5) else if isAmt (a + b) then (a + b, 0) else (0, 6)
def amtSub (a b : Int) : Int × Int := if !isAmt a || !isAmt b then (0, 5) else if isAmt (a - b) then (a - b, 0) else (0, 6)
def amtChange (a b : Int) : Int × Int := if b < 0 ∧ -1099511627776 ≤ b then amtSub a (-b) else amtAdd a b
def amtSum : List Int → Int → Int × Int
  | [], s => (s, 0)
  | a :: l, s => if (amtAdd s a).2 = 0 then amtSum l (amtAdd s a).1 else (0, (amtAdd s a).2)


theorem u64_neg {a : Int} (h0 : -9223372036854775808 ≤ a) (h1 : a < 0) : IntKind.u64.wrap a = a + 18446744073709551616 := by
  simp [IntKind.wrap, IntKind.signed, IntKind.bits]; omega

theorem money_Is (a : Int) (b : Bool) (hb : isAmt a = b) (w : World) (h0 : -9223372036854775808 ≤ a) (h1 : a ≤ 9223372036854775807) :
    Calls Try.prog 27 #[.int .i64 a] w fun e w' => e = .returned (.bool b) ∧ w = w' := by
  by_cases h : 0 ≤ a
  · go_enter Try.func27, Try.ntmps27
    go_wp2
    go_ret
    refine ⟨ret_bool ?_, rfl⟩
    rw [← hb, isAmt]; simp [h]
  · go_enter Try.func27, Try.ntmps27
    go_wp2
    go_ret
    refine ⟨ret_bool ?_, rfl⟩
    rw [← hb, isAmt, u64_neg h0 (by omega), decide_eq_decide]; omega

theorem ref07_Is (a : Int) (b : Bool) (hb : isAmt a = b) (w : World) :
    Calls Try.prog 28 #[.int .i64 a] w fun e w' => e = .returned (.bool b) ∧ w = w' := by
  by_cases h : 0 ≤ a
  · by_cases h2 : a ≤ 1099511627776
    · obtain rfl : true = b := by rw [← hb, isAmt_mk h h2]
      go_enter Try.func28, Try.ntmps28
      go_wp2
      go_ret
      exact ⟨rfl, rfl⟩
    · obtain rfl : false = b := by rw [← hb]; simp [isAmt]; omega
      go_enter Try.func28, Try.ntmps28
      go_wp2
      go_ret
      exact ⟨rfl, rfl⟩
  · obtain rfl : false = b := by rw [← hb]; simp [isAmt]; omega
    go_enter Try.func28, Try.ntmps28
    go_wp2
    go_ret
    exact ⟨rfl, rfl⟩

theorem money_kept (a : Int) (w : World) (h0 : -9223372036854775808 ≤ a) (h1 : a ≤ 9223372036854775807) :
    Calls Try.prog 75 #[.int .i64 a] w fun e w' => e = .returned (.tuple #[.int .i64 (if isAmt a then a else 0), .int .i64 (if isAmt a then 0 else 6)]) ∧ w = w' := by
  cases h : isAmt a
  all_goals
    have H := Lib.hid h; clear h
    go_enter Try.func75, Try.ntmps75
    go_wp2_with (go_at_call 27; refine (money_Is _ _ H.out _ h0 h1).mono ?_; rintro e _ ⟨rfl, rfl⟩)
    go_ret2
    exact ⟨rfl, rfl⟩

theorem money_Add (a b : Int) (w : World) (a0 : -9223372036854775808 ≤ a) (a1 : a ≤ 9223372036854775807) (b0 : -9223372036854775808 ≤ b) (b1 : b ≤ 9223372036854775807) :
    Calls Try.prog 21 #[.int .i64 a, .int .i64 b] w fun e w' => e = .returned (.tuple #[.int .i64 (amtAdd a b).1, .int .i64 (amtAdd a b).2]) ∧ w = w' := by
  cases ha : isAmt a
  · have fin : amtAdd a b = (0, 5) := by simp [amtAdd, ha]
    rw [fin]
    have HA := Lib.hid ha; clear ha fin
    go_enter Try.func21, Try.ntmps21
    go_wp2_with (go_at_call 27; refine (money_Is _ _ HA.out _ a0 a1).mono ?_; rintro e _ ⟨rfl, rfl⟩)
    go_ret2
    exact ⟨rfl, rfl⟩
  · cases hb : isAmt b
    · have fin : amtAdd a b = (0, 5) := by simp [amtAdd, ha, hb]
      rw [fin]
      have HA := Lib.hid ha; clear ha fin
      have HB := Lib.hid hb; clear hb
      go_enter Try.func21, Try.ntmps21
      go_wp2_with (first
        | (go_at_call 27; with_reducible refine (money_Is a _ HA.out _ a0 a1).mono ?_; rintro e _ ⟨rfl, rfl⟩)
        | (go_at_call 27; with_reducible refine (money_Is b _ HB.out _ b0 b1).mono ?_; rintro e _ ⟨rfl, rfl⟩))
      go_ret2
      exact ⟨rfl, rfl⟩
    · have xa := isAmt_true ha
      have xb := isAmt_true hb
      obtain ⟨xa0, xa1⟩ := xa
      obtain ⟨xb0, xb1⟩ := xb
      have fin : amtAdd a b = (if isAmt (a + b) then a + b else 0, if isAmt (a + b) then 0 else 6) := by
        cases hc : isAmt (a + b) <;> simp [amtAdd, ha, hb, hc]
      rw [fin]
      have HA := Lib.hid ha; clear ha fin
      have HB := Lib.hid hb; clear hb
      have KK := money_kept (a + b) w (by omega) (by omega)
      have HK := Lib.hid KK; clear KK
      go_enter Try.func21, Try.ntmps21
      go_wp2_with (first
        | (go_at_call 27; with_reducible refine (money_Is a _ HA.out _ a0 a1).mono ?_; rintro e _ ⟨rfl, rfl⟩)
        | (go_at_call 27; with_reducible refine (money_Is b _ HB.out _ b0 b1).mono ?_; rintro e _ ⟨rfl, rfl⟩)
        | (go_at_call 75; refine HK.out.mono ?_; rintro e _ ⟨rfl, rfl⟩))
      all_goals
        go_ret2
        exact ⟨rfl, rfl⟩

theorem money_Sub (a b : Int) (w : World) (a0 : -9223372036854775808 ≤ a) (a1 : a ≤ 9223372036854775807) (b0 : -9223372036854775808 ≤ b) (b1 : b ≤ 9223372036854775807) :
    Calls Try.prog 23 #[.int .i64 a, .int .i64 b] w fun e w' => e = .returned (.tuple #[.int .i64 (amtSub a b).1, .int .i64 (amtSub a b).2]) ∧ w = w' := by
  cases ha : isAmt a
  · have fin : amtSub a b = (0, 5) := by simp [amtSub, ha]
    rw [fin]
    have HA := Lib.hid ha; clear ha fin
    go_enter Try.func23, Try.ntmps23
    go_wp2_with (go_at_call 27; refine (money_Is _ _ HA.out _ a0 a1).mono ?_; rintro e _ ⟨rfl, rfl⟩)
    go_ret2
    exact ⟨rfl, rfl⟩
  · cases hb : isAmt b
    · have fin : amtSub a b = (0, 5) := by simp [amtSub, ha, hb]
      rw [fin]
      have HA := Lib.hid ha; clear ha fin
      have HB := Lib.hid hb; clear hb
      go_enter Try.func23, Try.ntmps23
      go_wp2_with (first
        | (go_at_call 27; with_reducible refine (money_Is a _ HA.out _ a0 a1).mono ?_; rintro e _ ⟨rfl, rfl⟩)
        | (go_at_call 27; with_reducible refine (money_Is b _ HB.out _ b0 b1).mono ?_; rintro e _ ⟨rfl, rfl⟩))
      go_ret2
      exact ⟨rfl, rfl⟩
    · have xa := isAmt_true ha
      have xb := isAmt_true hb
      obtain ⟨xa0, xa1⟩ := xa
      obtain ⟨xb0, xb1⟩ := xb
      have fin : amtSub a b = (if isAmt (a - b) then a - b else 0, if isAmt (a - b) then 0 else 6) := by
        cases hc : isAmt (a - b) <;> simp [amtSub, ha, hb, hc]
      rw [fin]
      have HA := Lib.hid ha; clear ha fin
      have HB := Lib.hid hb; clear hb
      have KK := money_kept (a - b) w (by omega) (by omega)
      have HK := Lib.hid KK; clear KK
      go_enter Try.func23, Try.ntmps23
      go_wp2_with (first
        | (go_at_call 27; with_reducible refine (money_Is a _ HA.out _ a0 a1).mono ?_; rintro e _ ⟨rfl, rfl⟩)
        | (go_at_call 27; with_reducible refine (money_Is b _ HB.out _ b0 b1).mono ?_; rintro e _ ⟨rfl, rfl⟩)
        | (go_at_call 75; refine HK.out.mono ?_; rintro e _ ⟨rfl, rfl⟩))
      all_goals
        go_ret2
        exact ⟨rfl, rfl⟩

theorem money_Change (a b : Int) (w : World) (a0 : -9223372036854775808 ≤ a) (a1 : a ≤ 9223372036854775807) (b0 : -9223372036854775808 ≤ b) (b1 : b ≤ 9223372036854775807) :
    Calls Try.prog 25 #[.int .i64 a, .int .i64 b] w fun e w' => e = .returned (.tuple #[.int .i64 (amtChange a b).1, .int .i64 (amtChange a b).2]) ∧ w = w' := by
  by_cases h0 : b < 0
  · by_cases h1 : -1099511627776 ≤ b
    · have fin : amtChange a b = amtSub a (-b) := by simp [amtChange, h0, h1]
      rw [fin]; clear fin
      go_enter Try.func25, Try.ntmps25
      go_wp2_with (go_at_call 23; refine (money_Sub _ _ _ (by omega) (by omega) (by omega) (by omega)).mono ?_; rintro e _ ⟨rfl, rfl⟩)
      go_ret2
      exact ⟨rfl, rfl⟩
    · have fin : amtChange a b = amtAdd a b := by simp [amtChange, h1]
      rw [fin]; clear fin
      go_enter Try.func25, Try.ntmps25
      go_wp2_with (go_at_call 21; refine (money_Add _ _ _ a0 a1 b0 b1).mono ?_; rintro e _ ⟨rfl, rfl⟩)
      go_ret2
      exact ⟨rfl, rfl⟩
  · have fin : amtChange a b = amtAdd a b := by simp [amtChange, h0]
    rw [fin]; clear fin
    go_enter Try.func25, Try.ntmps25
    go_wp2_with (go_at_call 21; refine (money_Add _ _ _ a0 a1 b0 b1).mono ?_; rintro e _ ⟨rfl, rfl⟩)
    go_ret2
    exact ⟨rfl, rfl⟩

/-- The document's change of an amount. -/
def refChange (a b : Int) : Int × Int := if !isAmt a || decide (b < -1099511627776) || decide (1099511627776 < b) then (0, 5) else if isAmt (a + b) then (a + b, 0) else (0, 6)
theorem refChange_add (a b : Int) (h : isAmt b = true) : refChange a b = amtAdd a b := by
  have hb := isAmt_true h
  have h1 : decide (b < -1099511627776) = false := by simp; omega
  have h2 : decide (1099511627776 < b) = false := by simp; omega
  simp [refChange, amtAdd, h, h1, h2]
theorem refChange_sub (a b : Int) (h : isAmt b = true) : refChange a (0 - b) = amtSub a b := by
  have hb := isAmt_true h
  have h1 : decide (0 - b < -1099511627776) = false := by simp; omega
  have h2 : decide (1099511627776 < 0 - b) = false := by simp; omega
  have h3 : a + (0 - b) = a - b := by omega
  simp only [refChange, amtSub, h, h1, h2, h3, Bool.or_false, Bool.not_true]
theorem refChange_change (a b : Int) : amtChange a b = refChange a b := by
  unfold amtChange
  by_cases h0 : b < 0
  · by_cases h1 : -1099511627776 ≤ b
    · rw [if_pos ⟨h0, h1⟩, ← refChange_sub a (-b) (isAmt_mk (by omega) (by omega))]
      congr 1; omega
    · rw [if_neg (by omega)]
      have h2 : isAmt b = false := by simp [isAmt]; omega
      have h3 : decide (b < -1099511627776) = true := by simp; omega
      simp [amtAdd, refChange, h2, h3]
  · rw [if_neg (by omega)]
    by_cases h1 : b ≤ 1099511627776
    · exact (refChange_add a b (isAmt_mk (by omega) h1)).symm
    · have h2 : isAmt b = false := by simp [isAmt]; omega
      have h3 : decide (1099511627776 < b) = true := by simp; omega
      simp [amtAdd, refChange, h2, h3]

theorem ref07_Change (a b : Int) (w : World) (a0 : -9223372036854775808 ≤ a) (a1 : a ≤ 9223372036854775807) (b0 : -9223372036854775808 ≤ b) (b1 : b ≤ 9223372036854775807) :
    Calls Try.prog 26 #[.int .i64 a, .int .i64 b] w fun e w' => e = .returned (.tuple #[.int .i64 (refChange a b).1, .int .i64 (refChange a b).2]) ∧ w = w' := by
  cases ha : isAmt a
  · have fin : refChange a b = (0, 5) := by simp [refChange, ha]
    rw [fin]
    have HA := Lib.hid ha; clear ha fin
    go_enter Try.func26, Try.ntmps26
    go_wp2_with (go_at_call 28; with_reducible refine (ref07_Is a _ HA.out _).mono ?_; rintro e _ ⟨rfl, rfl⟩)
    go_ret2
    exact ⟨rfl, rfl⟩
  · have xa := isAmt_true ha
    obtain ⟨xa0, xa1⟩ := xa
    have HA := Lib.hid ha
    by_cases h1 : b < -1099511627776
    · have fin : refChange a b = (0, 5) := by simp [refChange, h1]
      rw [fin]
      clear ha fin
      go_enter Try.func26, Try.ntmps26
      go_wp2_with (go_at_call 28; with_reducible refine (ref07_Is a _ HA.out _).mono ?_; rintro e _ ⟨rfl, rfl⟩)
      go_ret2
      exact ⟨rfl, rfl⟩
    · by_cases h2 : 1099511627776 < b
      · have fin : refChange a b = (0, 5) := by simp [refChange, h2]
        rw [fin]
        clear ha fin
        go_enter Try.func26, Try.ntmps26
        go_wp2_with (go_at_call 28; with_reducible refine (ref07_Is a _ HA.out _).mono ?_; rintro e _ ⟨rfl, rfl⟩)
        go_ret2
        exact ⟨rfl, rfl⟩
      · cases hc : isAmt (a + b)
        · have fin : refChange a b = (0, 6) := by simp [refChange, ha, h1, h2, hc]
          rw [fin]
          have HC := Lib.hid hc
          clear ha fin hc
          go_enter Try.func26, Try.ntmps26
          go_wp2_with (first
            | (go_at_call 28; with_reducible refine (ref07_Is a _ HA.out _).mono ?_; rintro e _ ⟨rfl, rfl⟩)
            | (go_at_call 28; with_reducible refine (ref07_Is (a + b) _ HC.out _).mono ?_; rintro e _ ⟨rfl, rfl⟩))
          go_ret2
          exact ⟨rfl, rfl⟩
        · have fin : refChange a b = (a + b, 0) := by simp [refChange, ha, h1, h2, hc]
          rw [fin]
          have HC := Lib.hid hc
          clear ha fin hc
          go_enter Try.func26, Try.ntmps26
          go_wp2_with (first
            | (go_at_call 28; with_reducible refine (ref07_Is a _ HA.out _).mono ?_; rintro e _ ⟨rfl, rfl⟩)
            | (go_at_call 28; with_reducible refine (ref07_Is (a + b) _ HC.out _).mono ?_; rintro e _ ⟨rfl, rfl⟩))
          go_ret2
          exact ⟨rfl, rfl⟩

theorem ref07_Add (a b : Int) (w : World) (a0 : -9223372036854775808 ≤ a) (a1 : a ≤ 9223372036854775807) (b0 : -9223372036854775808 ≤ b) (b1 : b ≤ 9223372036854775807) :
    Calls Try.prog 22 #[.int .i64 a, .int .i64 b] w fun e w' => e = .returned (.tuple #[.int .i64 (amtAdd a b).1, .int .i64 (amtAdd a b).2]) ∧ w = w' := by
  cases hb : isAmt b
  · have fin : amtAdd a b = (0, 5) := by simp [amtAdd, hb]
    rw [fin]
    have HB := Lib.hid hb; clear hb fin
    go_enter Try.func22, Try.ntmps22
    go_wp2_with (go_at_call 28; with_reducible refine (ref07_Is b _ HB.out _).mono ?_; rintro e _ ⟨rfl, rfl⟩)
    go_ret2
    exact ⟨rfl, rfl⟩
  · have xb := isAmt_true hb
    obtain ⟨xb0, xb1⟩ := xb
    have HC := ref07_Change a b w a0 a1 (by omega) (by omega)
    rw [refChange_add a b hb] at HC
    have HB := Lib.hid hb; clear hb
    have HD := Lib.hid HC; clear HC
    go_enter Try.func22, Try.ntmps22
    go_wp2_with (first
      | (go_at_call 28; with_reducible refine (ref07_Is b _ HB.out _).mono ?_; rintro e _ ⟨rfl, rfl⟩)
      | (go_at_call 26; refine HD.out.mono ?_; rintro e _ ⟨rfl, rfl⟩))
    go_ret2
    exact ⟨rfl, rfl⟩

theorem ref07_Sub (a b : Int) (w : World) (a0 : -9223372036854775808 ≤ a) (a1 : a ≤ 9223372036854775807) (b0 : -9223372036854775808 ≤ b) (b1 : b ≤ 9223372036854775807) :
    Calls Try.prog 24 #[.int .i64 a, .int .i64 b] w fun e w' => e = .returned (.tuple #[.int .i64 (amtSub a b).1, .int .i64 (amtSub a b).2]) ∧ w = w' := by
  cases hb : isAmt b
  · have fin : amtSub a b = (0, 5) := by simp [amtSub, hb]
    rw [fin]
    have HB := Lib.hid hb; clear hb fin
    go_enter Try.func24, Try.ntmps24
    go_wp2_with (go_at_call 28; with_reducible refine (ref07_Is b _ HB.out _).mono ?_; rintro e _ ⟨rfl, rfl⟩)
    go_ret2
    exact ⟨rfl, rfl⟩
  · have xb := isAmt_true hb
    obtain ⟨xb0, xb1⟩ := xb
    have HC := ref07_Change a (0 - b) w a0 a1 (by omega) (by omega)
    rw [refChange_sub a b hb] at HC
    have HB := Lib.hid hb; clear hb
    have HD := Lib.hid HC; clear HC
    go_enter Try.func24, Try.ntmps24
    go_wp2_with (first
      | (go_at_call 28; with_reducible refine (ref07_Is b _ HB.out _).mono ?_; rintro e _ ⟨rfl, rfl⟩)
      | (go_at_call 26; rw [show -b = 0 - b from by omega]; refine HD.out.mono ?_; rintro e _ ⟨rfl, rfl⟩))
    go_ret2
    exact ⟨rfl, rfl⟩

theorem amtAdd_is (a b : Int) : isAmt (amtAdd a b).1 = true := by
  unfold amtAdd; split
  · exact isAmt_mk (by decide) (by decide)
  · split
    · assumption
    · exact isAmt_mk (by decide) (by decide)
theorem amtSub_is (a b : Int) : isAmt (amtSub a b).1 = true := by
  unfold amtSub; split
  · exact isAmt_mk (by decide) (by decide)
  · split
    · assumption
    · exact isAmt_mk (by decide) (by decide)
theorem amtChange_is (a b : Int) : isAmt (amtChange a b).1 = true := by
  unfold amtChange; split
  · exact amtSub_is _ _
  · exact amtAdd_is _ _
theorem amtAdd_bd (a b : Int) : 0 ≤ (amtAdd a b).1 ∧ (amtAdd a b).1 ≤ 1099511627776 := isAmt_true (amtAdd_is a b)
theorem ref07_Change' (a b : Int) (w : World) (a0 : -9223372036854775808 ≤ a) (a1 : a ≤ 9223372036854775807) (b0 : -9223372036854775808 ≤ b) (b1 : b ≤ 9223372036854775807) :
    Calls Try.prog 26 #[.int .i64 a, .int .i64 b] w fun e w' => e = .returned (.tuple #[.int .i64 (amtChange a b).1, .int .i64 (amtChange a b).2]) ∧ w = w' := by
  rw [refChange_change]; exact ref07_Change a b w a0 a1 b0 b1

/-- The sum from the k-th number on does not hang on where one stands. -/
theorem amtSum_step (xs : List Int) (k : Nat) (hk : k < xs.length) (s : Int) (h : (amtAdd s xs[k]).2 = 0) : amtSum (xs.drop k) s = amtSum (xs.drop (k + 1)) (amtAdd s xs[k]).1 := by
  rw [List.drop_eq_getElem_cons hk, amtSum, if_pos h]
theorem amtSum_over (xs : List Int) (k : Nat) (hk : k < xs.length) (s : Int) (h : ¬ (amtAdd s xs[k]).2 = 0) : amtSum (xs.drop k) s = (0, (amtAdd s xs[k]).2) := by
  rw [List.drop_eq_getElem_cons hk, amtSum, if_neg h]
theorem amtSum_end (xs : List Int) (k : Nat) (hk : ¬ k < xs.length) (s : Int) : amtSum (xs.drop k) s = (s, 0) := by
  rw [List.drop_eq_nil_of_le (by omega), amtSum]

set_option maxRecDepth 100000 in
theorem money_Sum (A : Option Addr) (n c : Nat) (xs : List Int) (w : World) (hn : xs.length = n) (hmax : n ≤ 9223372036854775807) (hr : Row w A (xs.map (Value.int .i64))) (hx : ∀ x ∈ xs, -9223372036854775808 ≤ x ∧ x ≤ 9223372036854775807) :
    Calls Try.prog 29 #[.slice A n c] w fun e w' => e = .returned (.tuple #[.int .i64 (amtSum xs 0).1, .int .i64 (amtSum xs 0).2]) ∧ w = w' := by
  have HR := Lib.hid hr; clear hr
  have HN := Lib.hid hn; clear hn
  have HX := Lib.hid hx; clear hx
  go_enter Try.func29, Try.ntmps29
  go_wp2
  go_loop [2, 3, 8] (fun sm er i => ∃ (k : Nat) (s : Int), k ≤ n ∧ sm = .int .i64 s ∧ er = .int .i64 0 ∧ i = .int .i64 k ∧ amtSum (xs.drop k) s = amtSum xs 0 ∧ (0 ≤ s ∧ s ≤ 1099511627776)) (fun _ _ i => n - (intOf i).toNat)
  case atStart => exact ⟨0, 0, by omega, rfl, rfl, rfl, rfl, by omega, by omega⟩
  case round =>
    obtain ⟨k, s, hkn, rfl, rfl, rfl, hsum, hs⟩ := hrel
    have hn := HN.out
    obtain ⟨hs0, hs1⟩ := hs
    by_cases hlt : k < n
    · obtain ⟨b, off, rfl, hcell⟩ := HR.out.at_ (k := k) (by simp; omega)
      have hX := HX.out (xs[k]'(by omega)) (List.getElem_mem _)
      obtain ⟨x0, x1⟩ := hX
      simp only [List.getElem_map] at hcell
      obtain ⟨K, hKe⟩ : ∃ K, K = xs[k]'(by omega) := ⟨_, rfl⟩
      rw [← hKe] at hcell x0 x1
      have hbd := amtAdd_bd s K
      obtain ⟨d0, d1⟩ := hbd
      have hstep := amtSum_step xs k (by omega) s
      have hover := amtSum_over xs k (by omega) s
      rw [← hKe] at hstep hover
      have HS := Lib.hid hstep
      have HO := Lib.hid hover
      have HH := Lib.hid hsum
      clear hKe hstep hover hn hsum
      by_cases hz : (amtAdd s K).2 = 0
      · have hzb : ((amtAdd s K).2 != 0) = false := by simp [hz]
        have HZ := Lib.hid hz; clear hz
        go_wp2_with (go_at_call 21; refine (money_Add _ _ _ (by omega) (by omega) x0 x1).mono ?_; rintro e _ ⟨rfl, rfl⟩)
        go_round
        case rel => exact ⟨k + 1, _, by omega, rfl, by rw [HZ.out], by go_num, by rw [← HH.out, HS.out HZ.out], d0, d1⟩
        case measure => simp [intOf]; omega
      · have hzb : ((amtAdd s K).2 != 0) = true := by simpa using hz
        have HZ := Lib.hid hz; clear hz
        go_wp2_with (go_at_call 21; refine (money_Add _ _ _ (by omega) (by omega) x0 x1).mono ?_; rintro e _ ⟨rfl, rfl⟩)
        go_ret2
        refine ⟨?_, rfl⟩
        rw [← HH.out, HO.out HZ.out]; rfl
    · have hend := amtSum_end xs k (by omega) s
      have HE := Lib.hid hend
      have HH := Lib.hid hsum
      clear hend hsum hn
      go_wp2
      go_ret2
      refine ⟨?_, rfl⟩
      rw [← HH.out, HE.out]; rfl

set_option maxRecDepth 100000 in
theorem ref07_Sum (A : Option Addr) (n c : Nat) (xs : List Int) (w : World) (hn : xs.length = n) (hmax : n ≤ 9223372036854775807) (hr : Row w A (xs.map (Value.int .i64))) (hx : ∀ x ∈ xs, -9223372036854775808 ≤ x ∧ x ≤ 9223372036854775807) :
    Calls Try.prog 30 #[.slice A n c] w fun e w' => e = .returned (.tuple #[.int .i64 (amtSum xs 0).1, .int .i64 (amtSum xs 0).2]) ∧ w = w' := by
  have HR := Lib.hid hr; clear hr
  have HN := Lib.hid hn; clear hn
  have HX := Lib.hid hx; clear hx
  go_enter Try.func30, Try.ntmps30
  go_wp2
  go_loop [4, 11] (fun sm i => ∃ (k : Nat) (s : Int), k ≤ n ∧ sm = .int .i64 s ∧ i = .int .i64 k ∧ amtSum (xs.drop k) s = amtSum xs 0 ∧ (0 ≤ s ∧ s ≤ 1099511627776)) (fun _ i => n - (intOf i).toNat)
  case atStart => exact ⟨0, 0, by omega, rfl, rfl, rfl, by omega, by omega⟩
  case round =>
    obtain ⟨k, s, hkn, rfl, rfl, hsum, hs⟩ := hrel
    have hn := HN.out
    obtain ⟨hs0, hs1⟩ := hs
    by_cases hlt : k < n
    · obtain ⟨b, off, rfl, hcell⟩ := HR.out.at_ (k := k) (by simp; omega)
      have hX := HX.out (xs[k]'(by omega)) (List.getElem_mem _)
      obtain ⟨x0, x1⟩ := hX
      simp only [List.getElem_map] at hcell
      obtain ⟨K, hKe⟩ : ∃ K, K = xs[k]'(by omega) := ⟨_, rfl⟩
      rw [← hKe] at hcell x0 x1
      have hbd := amtAdd_bd s K
      obtain ⟨d0, d1⟩ := hbd
      have hstep := amtSum_step xs k (by omega) s
      have hover := amtSum_over xs k (by omega) s
      rw [← hKe] at hstep hover
      have HS := Lib.hid hstep
      have HO := Lib.hid hover
      have HH := Lib.hid hsum
      clear hKe hstep hover hn hsum
      by_cases hz : (amtAdd s K).2 = 0
      · have hzb : ((amtAdd s K).2 != 0) = false := by simp [hz]
        have HZ := Lib.hid hz; clear hz
        go_wp2_with (go_at_call 22; refine (ref07_Add _ _ _ (by omega) (by omega) x0 x1).mono ?_; rintro e _ ⟨rfl, rfl⟩)
        go_round
        case rel => exact ⟨k + 1, _, by omega, rfl, by go_num, by rw [← HH.out, HS.out HZ.out], d0, d1⟩
        case measure => simp [intOf]; omega
      · have hzb : ((amtAdd s K).2 != 0) = true := by simpa using hz
        have HZ := Lib.hid hz; clear hz
        go_wp2_with (go_at_call 22; refine (ref07_Add _ _ _ (by omega) (by omega) x0 x1).mono ?_; rintro e _ ⟨rfl, rfl⟩)
        go_ret2
        refine ⟨?_, rfl⟩
        rw [← HH.out, HO.out HZ.out]; rfl
    · have hend := amtSum_end xs k (by omega) s
      have HE := Lib.hid hend
      have HH := Lib.hid hsum
      clear hend hsum hn
      go_wp2
      go_ret2
      refine ⟨?_, rfl⟩
      rw [← HH.out, HE.out]; rfl

theorem fixed07 (w : World) : Calls Try.prog 20 #[] w fun e w' => e = .returned (.bool true) ∧ w = w' := by
  go_enter Try.func20, Try.ntmps20
  go_wp2_with (first
    | (go_at_call 21; refine (money_Add 2 3 _ (by decide) (by decide) (by decide) (by decide)).mono ?_; rintro e _ ⟨rfl, rfl⟩; rw [show amtAdd 2 3 = (5, 0) from by decide])
    | (go_at_call 23; refine (money_Sub 2 3 _ (by decide) (by decide) (by decide) (by decide)).mono ?_; rintro e _ ⟨rfl, rfl⟩; rw [show amtSub 2 3 = (0, 6) from by decide])
    | (go_at_call 27; with_reducible refine (money_Is 0 true (by decide) _ (by decide) (by decide)).mono ?_; rintro e _ ⟨rfl, rfl⟩)
    | (go_at_call 27; with_reducible refine (money_Is (-1) false (by decide) _ (by decide) (by decide)).mono ?_; rintro e _ ⟨rfl, rfl⟩))
  go_ret
  exact ⟨rfl, rfl⟩

set_option maxRecDepth 100000 in
theorem tells_walk (a b : Int) (w : World) (a0 : -9223372036854775808 ≤ a) (a1 : a ≤ 9223372036854775807) (b0 : -9223372036854775808 ≤ b) (b1 : b ≤ 9223372036854775807) :
    Calls Try.prog 4 #[.int .i64 a, .int .i64 b] w fun e w' => e = .returned (.bool true) ∧ w = w' := by
  have i1 := Lib.hid (amtAdd_is a b)
  have i2 := Lib.hid (amtSub_is a b)
  have i3 := Lib.hid (amtChange_is a b)
  go_enter Try.func4, Try.ntmps4
  go_wp2_with (first
    | (go_at_call 20; refine (fixed07 _).mono ?_; rintro e _ ⟨rfl, rfl⟩)
    | (go_at_call 21; refine (money_Add _ _ _ a0 a1 b0 b1).mono ?_; rintro e _ ⟨rfl, rfl⟩)
    | (go_at_call 23; refine (money_Sub _ _ _ a0 a1 b0 b1).mono ?_; rintro e _ ⟨rfl, rfl⟩)
    | (go_at_call 25; refine (money_Change _ _ _ a0 a1 b0 b1).mono ?_; rintro e _ ⟨rfl, rfl⟩)
    | (go_at_call 22; refine (ref07_Add _ _ _ a0 a1 b0 b1).mono ?_; rintro e _ ⟨rfl, rfl⟩)
    | (go_at_call 24; refine (ref07_Sub _ _ _ a0 a1 b0 b1).mono ?_; rintro e _ ⟨rfl, rfl⟩)
    | (go_at_call 26; refine (ref07_Change' _ _ _ a0 a1 b0 b1).mono ?_; rintro e _ ⟨rfl, rfl⟩)
    | (go_at_call 27; with_reducible refine (money_Is a _ rfl _ a0 a1).mono ?_; rintro e _ ⟨rfl, rfl⟩)
    | (go_at_call 28; with_reducible refine (ref07_Is a _ rfl _).mono ?_; rintro e _ ⟨rfl, rfl⟩)
    | (go_at_call 28; with_reducible refine (ref07_Is _ _ i1.out _).mono ?_; rintro e _ ⟨rfl, rfl⟩)
    | (go_at_call 28; with_reducible refine (ref07_Is _ _ i2.out _).mono ?_; rintro e _ ⟨rfl, rfl⟩)
    | (go_at_call 28; with_reducible refine (ref07_Is _ _ i3.out _).mono ?_; rintro e _ ⟨rfl, rfl⟩))
  go_ret
  exact ⟨rfl, rfl⟩

set_option maxRecDepth 100000 in
theorem sums_walk (A : Option Addr) (n c : Nat) (xs : List Int) (w : World) (hn : xs.length = n) (hmax : n ≤ 9223372036854775807) (hr : Row w A (xs.map (Value.int .i64))) (hx : ∀ x ∈ xs, -9223372036854775808 ≤ x ∧ x ≤ 9223372036854775807) :
    Calls Try.prog 5 #[.slice A n c] w fun e w' => e = .returned (.bool true) ∧ w = w' := by
  have HR := Lib.hid hr; clear hr
  have HN := Lib.hid hn; clear hn
  have HX := Lib.hid hx; clear hx
  by_cases hbig : 300 < n
  all_goals
    go_enter Try.func5, Try.ntmps5
    go_wp2_with (first
      | (go_at_call 20; refine (fixed07 _).mono ?_; rintro e _ ⟨rfl, rfl⟩)
      | (go_at_call 29; refine (money_Sum A n c xs _ HN.out hmax HR.out HX.out).mono ?_; rintro e _ ⟨rfl, rfl⟩)
      | (go_at_call 30; refine (ref07_Sum A n c xs _ HN.out hmax HR.out HX.out).mono ?_; rintro e _ ⟨rfl, rfl⟩))
    go_ret
    exact ⟨rfl, rfl⟩
end Go.Proofs.Ytdbeinbgekdnmaa
