/-
  Packed out of the texts: Names, Cores, ACor, EntD, Led, LetterRef, LedW, Rds.
-/
import Derived.Test.YtickdhjljpnlpaaGreatDoorR06
import Derived.Sort.Walk0
set_option maxRecDepth 100000
set_option linter.unusedSimpArgs false
set_option linter.unusedVariables false
namespace Go.Proofs.YtickdhjljpnlpaaGreatDoor
open Go.RowKit
def nameC (c : Nat) : Bool := (decide (97 ≤ c) && decide (c ≤ 122)) || (decide (48 ≤ c) && decide (c ≤ 57)) || decide (c = 45)
def nameB (s : ByteArray) : Bool := s.data.toList.all (fun c => nameC c.toNat) && decide (1 ≤ s.size) && decide (s.size ≤ 16)
section
variable {S : List (World × List Nat)} {σ τ : Blks} {ρ : List Dt} {w : World}
theorem hg_ {s : ByteArray} {k : Nat} (h : k < s.size) (hb : nameC (s[k]'h).toNat = false) : s.data.toList.all (fun c => nameC c.toNat) = false := by
  rw [List.all_eq_false]
  refine ⟨s[k]'h, ?_, by rw [hb]; decide⟩
  have : s[k]'h = s.data.toList[k]'(by simpa using h) := rfl
  rw [this]
  exact List.getElem_mem _
theorem hY_ {s : ByteArray} (hp : ∀ j (hj : j < s.size), nameC (s[j]'hj).toNat = true) : s.data.toList.all (fun c => nameC c.toNat) = true := by
  rw [List.all_eq_true]
  intro c hc
  obtain ⟨j, hj, rfl⟩ := List.getElem_of_mem hc
  exact hp j (by simpa using hj)
theorem odd_c {r : Nat} (hw : Mem S σ ρ w) : Calls Tryz.prog 97 #[.int .i32 r] w fun e w' => e = .returned (.bool (!nameC r)) ∧ Mem S σ ρ w' := by
  refine ah_ [.int .i32 r] Tryz.func97 rfl Tryz.ntmps97 rfl (Mem S σ ρ) hw ?_
  refine d_ (a_ ?_)
  refine b_ (j_ rfl) rfl rfl ?_
  refine g_ (c_ ?_)
  refine d_ (a_ ?_)
  refine b_ (k_ rfl) rfl rfl ?_
  refine b_ (aI_ rfl rfl) rfl rfl ?_
  refine b_ (k_ rfl) rfl rfl ?_
  refine z_ (t := 5) rfl ?_ ?_
  · intro hc5
    iterate 2 refine af_ rfl rfl ?_
    refine b_ (O_ rfl rfl) rfl rfl ?_
    iterate 2 refine b_ (k_ rfl) rfl rfl ?_
    refine b_ (aI_ rfl rfl) rfl rfl ?_
    refine b_ (k_ rfl) rfl rfl ?_
    refine z_ (t := 12) rfl ?_ ?_
    · intro hc12
      iterate 2 refine af_ rfl rfl ?_
      refine b_ (O_ rfl rfl) rfl rfl ?_
      refine b_ (O_ rfl rfl) rfl rfl ?_
      iterate 2 refine b_ (k_ rfl) rfl rfl ?_
      refine b_ (aQ_ rfl rfl) rfl rfl ?_
      refine b_ (O_ rfl rfl) rfl rfl ?_
      refine b_ (j_ rfl) rfl rfl ?_
      refine g_ (c_ ?_)
      refine m_ ?_
      refine P_ rfl rfl ?_
      intro w' hw'
      refine ⟨?_, hw'⟩
      congr 2
      rw [Bool.eq_iff_iff]
      simp [nameC]
      omega
    intro hc12
    refine b_ (k_ rfl) rfl rfl ?_
    refine b_ (ay_ rfl rfl) rfl rfl ?_
    refine b_ (S_ rfl rfl) rfl rfl ?_
    refine b_ (O_ rfl rfl) rfl rfl ?_
    refine b_ (k_ rfl) rfl rfl ?_
    refine z_ (t := 17) rfl ?_ ?_
    · intro hc17
      refine b_ (k_ rfl) rfl rfl ?_
      refine b_ (aQ_ rfl rfl) rfl rfl ?_
      refine b_ (O_ rfl rfl) rfl rfl ?_
      refine b_ (j_ rfl) rfl rfl ?_
      refine g_ (c_ ?_)
      refine m_ ?_
      refine P_ rfl rfl ?_
      intro w' hw'
      refine ⟨?_, hw'⟩
      congr 2
      rw [Bool.eq_iff_iff]
      simp [nameC]
      omega
    intro hc17
    iterate 2 refine af_ rfl rfl ?_
    refine b_ (S_ rfl rfl) rfl rfl ?_
    refine b_ (j_ rfl) rfl rfl ?_
    refine g_ (c_ ?_)
    refine m_ ?_
    refine P_ rfl rfl ?_
    intro w' hw'
    refine ⟨?_, hw'⟩
    congr 2
    rw [Bool.eq_iff_iff]
    simp [nameC]
    omega
  intro hc5
  refine b_ (k_ rfl) rfl rfl ?_
  refine b_ (ay_ rfl rfl) rfl rfl ?_
  refine b_ (S_ rfl rfl) rfl rfl ?_
  refine b_ (k_ rfl) rfl rfl ?_
  refine z_ (t := 9) rfl ?_ ?_
  rotate_left
  · intro hc9
    iterate 6 refine af_ rfl rfl ?_
    refine b_ (S_ rfl rfl) rfl rfl ?_
    refine b_ (k_ rfl) rfl rfl ?_
    iterate 2 refine af_ rfl rfl ?_
    refine b_ (S_ rfl rfl) rfl rfl ?_
    refine b_ (j_ rfl) rfl rfl ?_
    refine g_ (c_ ?_)
    refine m_ ?_
    refine P_ rfl rfl ?_
    intro w' hw'
    refine ⟨?_, hw'⟩
    congr 2
    rw [Bool.eq_iff_iff]
    simp [nameC]
    omega
  intro hc9
  refine b_ (k_ rfl) rfl rfl ?_
  refine b_ (aI_ rfl rfl) rfl rfl ?_
  refine b_ (k_ rfl) rfl rfl ?_
  refine z_ (t := 12) rfl ?_ ?_
  · intro hc12
    iterate 2 refine af_ rfl rfl ?_
    refine b_ (O_ rfl rfl) rfl rfl ?_
    refine b_ (O_ rfl rfl) rfl rfl ?_
    iterate 2 refine b_ (k_ rfl) rfl rfl ?_
    refine b_ (aQ_ rfl rfl) rfl rfl ?_
    refine b_ (O_ rfl rfl) rfl rfl ?_
    refine b_ (j_ rfl) rfl rfl ?_
    refine g_ (c_ ?_)
    refine m_ ?_
    refine P_ rfl rfl ?_
    intro w' hw'
    refine ⟨?_, hw'⟩
    congr 2
    rw [Bool.eq_iff_iff]
    simp [nameC]
    omega
  intro hc12
  refine b_ (k_ rfl) rfl rfl ?_
  refine b_ (ay_ rfl rfl) rfl rfl ?_
  refine b_ (S_ rfl rfl) rfl rfl ?_
  refine b_ (O_ rfl rfl) rfl rfl ?_
  refine b_ (k_ rfl) rfl rfl ?_
  refine z_ (t := 17) rfl ?_ ?_
  · intro hc17
    refine b_ (k_ rfl) rfl rfl ?_
    refine b_ (aQ_ rfl rfl) rfl rfl ?_
    refine b_ (O_ rfl rfl) rfl rfl ?_
    refine b_ (j_ rfl) rfl rfl ?_
    refine g_ (c_ ?_)
    refine m_ ?_
    refine P_ rfl rfl ?_
    intro w' hw'
    refine ⟨?_, hw'⟩
    congr 2
    rw [Bool.eq_iff_iff]
    simp [nameC]
    omega
  intro hc17
  iterate 2 refine af_ rfl rfl ?_
  refine b_ (S_ rfl rfl) rfl rfl ?_
  refine b_ (j_ rfl) rfl rfl ?_
  refine g_ (c_ ?_)
  refine m_ ?_
  refine P_ rfl rfl ?_
  intro w' hw'
  refine ⟨?_, hw'⟩
  congr 2
  rw [Bool.eq_iff_iff]
  simp [nameC]
  omega
set_option maxHeartbeats 400000 in
theorem jt_ {s : ByteArray} (hw : Mem S σ ρ w) (_hs : s.size ≤ 16) : Calls Tryz.prog 132 #[.string s, .func (.func 97) #[] #[], .bool true] w fun e w' => ∃ r : Int, e = .returned (.int .i64 r) ∧ (0 ≤ r ↔ s.data.toList.all (fun c => nameC c.toNat) = false) ∧ Mem S σ ρ w' := by
  refine ah_ [.string s, .func (.func 97) #[] #[], .bool true] Tryz.func132 rfl Tryz.ntmps132 rfl (Mem S σ ρ) hw ?_
  refine d_ (a_ ?_)
  refine b_ (j_ rfl) rfl rfl ?_
  refine g_ (c_ ?_)
  refine d_ ?_
  refine d_ (a_ ?_)
  refine b_ (k_ rfl) rfl rfl ?_
  refine a0_ (h9_ rfl Tryz.underlying9) rfl rfl ?_
  rintro _ _ ⟨b10, rfl, rfl⟩
  refine g_ (c_ ?_)
  refine y_ ?_
  refine ae_ (ι := Nat) (fun k => [(1, .func (.func 97) #[] #[]), (2, .bool true), (10, .pointer (some ⟨b10, 0, none⟩))]) (fun k w' => (k ≤ s.size ∧ ∀ j (hj : j < s.size), j < k → nameC (s[j]'hj).toNat = true) ∧ Mem S (.blk b10 (.stringIter s k) :: σ) ρ w') (fun k => s.size - k) 0 (by exact ⟨rfl, rfl, rfl, trivial⟩) (fun w' hw' => ⟨⟨Nat.zero_le _, fun j hj h => by omega⟩, hw'⟩) ?_
  intro k
  refine bO_ ?_
  rintro ⟨hk, hp⟩
  by_cases hlt : k < s.size
  · have hd := eW_ s k hlt
    have hc := (s[k]'hlt).toNat_lt
    skip
    refine d_ (a_ ?_)
    refine a0_ (jJ_ rfl .here hlt) rfl rfl ?_
    rintro _ _ ⟨rfl, rfl⟩
    refine b_ (az_ rfl rfl) rfl rfl ?_
    refine g_ (c_ ?_)
    refine d_ ?_
    refine M_ rfl ?_
    refine p_ ?_
    refine c_ ?_
    refine y_ ?_
    refine d_ (a_ ?_)
    refine b_ (az_ rfl rfl) rfl rfl ?_
    refine b_ (az_ rfl rfl) rfl rfl ?_
    iterate 2 refine b_ (j_ rfl) rfl rfl ?_
    refine g_ (c_ ?_)
    refine d_ (a_ ?_)
    iterate 2 refine b_ (k_ rfl) rfl rfl ?_
    refine bF_ rfl (by kernel_rfl) rfl rfl rfl ?_
    intro w hw
    refine (odd_c hw).mono ?_
    rintro _ _ ⟨rfl, hm⟩
    refine ⟨_, _, rfl, hm, ?_⟩
    clear hm hw w
    refine b_ (k_ rfl) rfl rfl ?_
    refine b_ (ld_ rfl rfl (by kernel_rfl)) rfl rfl ?_
    refine g_ (c_ ?_)
    refine X_ rfl ?_ ?_
    rotate_left
    · intro hodd
      refine p_ ?_
      refine u_ ?_
      simp only [beq_true, Bool.not_eq_false'] at hodd
      have h128 : (s[k]'hlt).toNat < 128 := by
        rcases Nat.lt_or_ge (s[k]'hlt).toNat 128 with h | h
        · exact h
        · have h2 := hd (by omega)
          simp only [nameC, Bool.or_eq_true, Bool.and_eq_true, decide_eq_true_eq] at hodd
          omega
      have e1 := decode_ascii s k hlt h128
      exact G_ (k + 1) (by omega) (by exact ⟨rfl, rfl, rfl, trivial⟩) (fun w' hw' => ⟨⟨hlt, fun j hj h => by
        rcases Nat.lt_or_ge j k with h2 | h2
        · exact hp j hj h2
        · obtain rfl : j = k := by omega
          rw [e1] at hodd; exact hodd⟩, by rw [e1] at hw'; exact hw'⟩)
    intro hodd
    refine d_ (a_ ?_)
    refine b_ (k_ rfl) rfl rfl ?_
    refine b_ (j_ rfl) rfl rfl ?_
    refine g_ (c_ ?_)
    refine m_ ?_
    refine E_ ?_
    refine h_ (by intro h; cases h) ?_
    refine E_ ?_
    refine h_ (by intro h; cases h) ?_
    refine P_ rfl rfl ?_
    intro w' hw'
    refine ⟨_, rfl, ?_, hw'.sub (fun _ h => h) (List.sublist_cons_self _ _)⟩
    rw [hg_ hlt (by
  simp only [beq_true, Bool.not_eq_true'] at hodd
  rcases Nat.lt_or_ge (s[k]'hlt).toNat 128 with h | h
  · rw [decode_ascii s k hlt h] at hodd; exact hodd
  · simp only [nameC, Bool.or_eq_false_iff, Bool.and_eq_false_iff, decide_eq_false_iff_not]; omega)]
    simp
  · skip
    refine d_ (a_ ?_)
    refine b_ (h1_ rfl List.mem_cons_self hlt) rfl rfl ?_
    refine b_ (az_ rfl rfl) rfl rfl ?_
    refine g_ (c_ ?_)
    refine d_ ?_
    refine ad_ rfl ?_
    refine W_ ?_
    refine h_ (by intro h; cases h) ?_
    refine h_ (by intro h; cases h) ?_
    refine V_ ?_
    refine c_ ?_
    refine d_ (a_ ?_)
    refine b_ (j_ rfl) rfl rfl ?_
    refine g_ (c_ ?_)
    refine m_ ?_
    refine P_ rfl rfl ?_
    intro w' hw'
    refine ⟨_, rfl, ?_, hw'.sub (fun _ h => h) (List.sublist_cons_self _ _)⟩
    rw [hY_ fun j hj => hp j hj (by omega)]
    simp
theorem index_c {s : ByteArray} (hw : Mem S σ ρ w) (hs : s.size ≤ 16) : Calls Tryz.prog 115 #[.string s, .func (.func 97) #[] #[]] w fun e w' => ∃ r : Int, e = .returned (.int .i64 r) ∧ (0 ≤ r ↔ s.data.toList.all (fun c => nameC c.toNat) = false) ∧ Mem S σ ρ w' := by
  refine ah_ [.string s, .func (.func 97) #[] #[]] Tryz.func115 rfl Tryz.ntmps115 rfl (Mem S σ ρ) hw ?_
  refine d_ (a_ ?_)
  refine b_ (j_ rfl) rfl rfl ?_
  refine g_ (c_ ?_)
  refine d_ (a_ ?_)
  iterate 2 refine b_ (k_ rfl) rfl rfl ?_
  refine s_ (by kernel_rfl) rfl rfl rfl ?_
  intro w hw
  refine (jt_ hw hs).mono ?_; rintro _ _ ⟨r, rfl, hr, hm⟩; refine ⟨_, _, rfl, hm, ?_⟩; clear hm hw w
  refine b_ (j_ rfl) rfl rfl ?_
  refine g_ (c_ ?_)
  refine m_ ?_
  refine P_ rfl rfl ?_
  intro w' hw'
  exact ⟨_, rfl, hr, hw'⟩
theorem jz_ {s : ByteArray} (hw : Mem S σ ρ w) (hs : s.size ≤ 16) : Calls Tryz.prog 98 #[.string s, .func (.func 97) #[] #[]] w fun e w' => e = .returned (.bool (!s.data.toList.all (fun c => nameC c.toNat))) ∧ Mem S σ ρ w' := by
  refine ah_ [.string s, .func (.func 97) #[] #[]] Tryz.func98 rfl Tryz.ntmps98 rfl (Mem S σ ρ) hw ?_
  refine d_ (a_ ?_)
  refine b_ (j_ rfl) rfl rfl ?_
  refine g_ (c_ ?_)
  refine d_ (a_ ?_)
  iterate 2 refine b_ (k_ rfl) rfl rfl ?_
  refine s_ (by kernel_rfl) rfl rfl rfl ?_
  intro w hw
  refine (index_c hw hs).mono ?_; rintro _ _ ⟨r, rfl, hr, hm⟩; refine ⟨_, _, rfl, hm, ?_⟩; clear hm hw w
  refine b_ (bK_ rfl rfl) rfl rfl ?_
  refine b_ (j_ rfl) rfl rfl ?_
  refine g_ (c_ ?_)
  refine m_ ?_
  refine P_ rfl rfl ?_
  intro w' hw'
  refine ⟨?_, hw'⟩
  congr 2
  rw [Bool.eq_iff_iff, decide_eq_true_eq, hr]
  simp
theorem iE_ {s : ByteArray} (hw : Mem S σ ρ w) : Calls Tryz.prog 67 #[.string s] w fun e w' => e = .returned (.bool (nameB s)) ∧ Mem S σ ρ w' := by
  have h0 : (s = ⟨#[]⟩) ↔ s.size = 0 := by
    constructor
    · rintro rfl; rfl
    · intro h
      obtain ⟨a⟩ := s
      congr 1
      exact Array.eq_empty_of_size_eq_zero h
  refine ah_ [.string s] Tryz.func67 rfl Tryz.ntmps67 rfl (Mem S σ ρ) hw ?_
  refine d_ (a_ ?_)
  refine b_ (j_ rfl) rfl rfl ?_
  refine g_ (c_ ?_)
  refine d_ (a_ ?_)
  refine b_ (j_ rfl) rfl rfl ?_
  refine g_ (c_ ?_)
  refine d_ (a_ ?_)
  refine b_ (k_ rfl) rfl rfl ?_
  refine b_ (dO_ rfl rfl) rfl rfl ?_
  refine b_ (k_ rfl) rfl rfl ?_
  refine z_ (t := 6) rfl ?_ ?_
  rotate_left
  · intro hc6
    iterate 3 refine af_ rfl rfl ?_
    refine b_ (S_ rfl rfl) rfl rfl ?_
    refine b_ (k_ rfl) rfl rfl ?_
    iterate 4 refine af_ rfl rfl ?_
    refine b_ (S_ rfl rfl) rfl rfl ?_
    refine b_ (j_ rfl) rfl rfl ?_
    refine g_ (c_ ?_)
    refine m_ ?_
    refine P_ rfl rfl ?_
    intro w' hw'
    refine ⟨?_, hw'⟩
    congr 2
    unfold nameB
    rw [Ne, h0] at hc6
    rw [Bool.eq_iff_iff]
    (simp; omega)
  intro hc6
  refine b_ (k_ rfl) rfl rfl ?_
  refine b_ (ao_ rfl Tryz.underlying9) rfl rfl ?_
  refine b_ (de_ rfl rfl) rfl rfl ?_
  refine b_ (O_ rfl rfl) rfl rfl ?_
  refine b_ (k_ rfl) rfl rfl ?_
  refine z_ (t := 11) rfl ?_ ?_
  rotate_left
  · intro hc11
    iterate 4 refine af_ rfl rfl ?_
    refine b_ (S_ rfl rfl) rfl rfl ?_
    refine b_ (j_ rfl) rfl rfl ?_
    refine g_ (c_ ?_)
    refine m_ ?_
    refine P_ rfl rfl ?_
    intro w' hw'
    refine ⟨?_, hw'⟩
    congr 2
    unfold nameB
    rw [Ne, h0] at hc6
    rw [Bool.eq_iff_iff]
    (simp; omega)
  intro hc11
  iterate 2 refine b_ (k_ rfl) rfl rfl ?_
  refine s_ (by kernel_rfl) rfl rfl rfl ?_
  intro w hw
  refine (jz_ hw (by omega)).mono ?_; rintro _ _ ⟨rfl, hm⟩; refine ⟨_, _, rfl, hm, ?_⟩; clear hm hw w
  refine b_ (aj_ rfl) rfl rfl ?_
  refine b_ (O_ rfl rfl) rfl rfl ?_
  refine b_ (j_ rfl) rfl rfl ?_
  refine g_ (c_ ?_)
  refine m_ ?_
  refine P_ rfl rfl ?_
  intro w' hw'
  refine ⟨?_, hw'⟩
  congr 2
  unfold nameB
  rw [Ne, h0] at hc6
  rw [Bool.eq_iff_iff]
  first
    | (simp; omega)
    | (have h1 : 1 ≤ s.size := by omega
       have h2 : s.size ≤ 16 := by omega
       simp [h1, h2])
set_option maxHeartbeats 400000 in
theorem gx_ {s : ByteArray} (hw : Mem S σ ρ w) (hs : s.size ≤ 9223372036854775807) : Calls Tryz.prog 55 #[.string s] w fun e w' => e = .returned (.bool (nameB s)) ∧ Mem S σ ρ w' := by
  refine ah_ [.string s] Tryz.func55 rfl Tryz.ntmps55 rfl (Mem S σ ρ) hw ?_
  refine d_ (a_ ?_)
  refine b_ (j_ rfl) rfl rfl ?_
  refine g_ (c_ ?_)
  refine d_ ?_
  refine d_ (a_ ?_)
  refine b_ (j_ rfl) rfl rfl ?_
  refine g_ (c_ ?_)
  refine y_ ?_
  refine ae_ (ι := Nat) (fun k => [(0, .string s), (3, .int .i64 (k : Nat))]) (fun k w' => (k ≤ s.size ∧ ∀ j (hj : j < s.size), j < k → nameC (s[j]'hj).toNat = true) ∧ Mem S σ ρ w') (fun k => s.size - k) 0 (by exact ⟨rfl, rfl, trivial⟩) (fun w' hw' => ⟨⟨Nat.zero_le _, fun j hj h => by omega⟩, hw'⟩) ?_
  intro k
  refine bO_ ?_
  rintro ⟨hk, hp⟩
  refine d_ ?_
  refine d_ (a_ ?_)
  iterate 2 refine b_ (k_ rfl) rfl rfl ?_
  refine b_ (ao_ rfl Tryz.underlying9) rfl rfl ?_
  refine b_ (aI_ rfl rfl) rfl rfl ?_
  refine g_ (c_ ?_)
  refine o_ rfl ?_ ?_
  rotate_left
  · intro hc7
    refine W_ ?_
    refine h_ (by intro h; cases h) ?_
    refine h_ (by intro h; cases h) ?_
    refine V_ ?_
    refine c_ ?_
    refine d_ (a_ ?_)
    refine b_ (k_ rfl) rfl rfl ?_
    refine b_ (ao_ rfl Tryz.underlying9) rfl rfl ?_
    refine b_ (bK_ rfl rfl) rfl rfl ?_
    refine b_ (k_ rfl) rfl rfl ?_
    refine z_ (t := 42) rfl ?_ ?_
    · intro hc42
      refine b_ (k_ rfl) rfl rfl ?_
      refine b_ (ao_ rfl Tryz.underlying9) rfl rfl ?_
      refine b_ (de_ rfl rfl) rfl rfl ?_
      refine b_ (O_ rfl rfl) rfl rfl ?_
      refine b_ (j_ rfl) rfl rfl ?_
      refine g_ (c_ ?_)
      refine m_ ?_
      refine P_ rfl rfl ?_
      intro w' hw'
      refine ⟨?_, hw'⟩
      congr 2
      unfold nameB
      (rw [hY_ fun j hj => hp j hj (by omega)]; rw [Bool.eq_iff_iff]; simp; omega)
    intro hc42
    iterate 3 refine af_ rfl rfl ?_
    refine b_ (S_ rfl rfl) rfl rfl ?_
    refine b_ (j_ rfl) rfl rfl ?_
    refine g_ (c_ ?_)
    refine m_ ?_
    refine P_ rfl rfl ?_
    intro w' hw'
    refine ⟨?_, hw'⟩
    congr 2
    unfold nameB
    (rw [hY_ fun j hj => hp j hj (by omega)]; rw [Bool.eq_iff_iff]; simp; omega)
  intro hc7
  have hlt : k < s.size := by omega
  refine p_ ?_
  refine c_ ?_
  refine d_ ?_
  refine y_ ?_
  refine d_ (a_ ?_)
  iterate 2 refine b_ (k_ rfl) rfl rfl ?_
  refine b_ (ar_ (q := k) rfl rfl rfl hlt Tryz.underlying9) rfl rfl ?_
  refine b_ (bK_ rfl rfl) rfl rfl ?_
  refine b_ (k_ rfl) rfl rfl ?_
  refine z_ (t := 14) rfl ?_ ?_
  rotate_left
  · intro hc14
    iterate 4 refine af_ rfl rfl ?_
    refine b_ (S_ rfl rfl) rfl rfl ?_
    iterate 3 refine b_ (k_ rfl) rfl rfl ?_
    refine b_ (ar_ (q := k) rfl rfl rfl hlt Tryz.underlying9) rfl rfl ?_
    refine b_ (bK_ rfl rfl) rfl rfl ?_
    refine b_ (k_ rfl) rfl rfl ?_
    refine z_ (t := 25) rfl ?_ ?_
    rotate_left
    · intro hc25
      iterate 4 refine af_ rfl rfl ?_
      refine b_ (S_ rfl rfl) rfl rfl ?_
      refine b_ (S_ rfl rfl) rfl rfl ?_
      iterate 3 refine b_ (k_ rfl) rfl rfl ?_
      refine b_ (ar_ (q := k) rfl rfl rfl hlt Tryz.underlying9) rfl rfl ?_
      refine b_ (al_ rfl rfl) rfl rfl ?_
      refine b_ (S_ rfl rfl) rfl rfl ?_
      refine b_ (aH_ rfl) rfl rfl ?_
      refine g_ (c_ ?_)
      refine o_ rfl ?_ ?_
      rotate_left
      · intro hc38
        refine p_ ?_
        refine u_ ?_
        refine c_ ?_
        refine a_ ?_
        refine b_ (k_ rfl) rfl rfl ?_
        refine b_ (C_ rfl rfl (by simp only [InR, lo, hi]; omega)) rfl rfl ?_
        refine b_ (j_ rfl) rfl rfl ?_
        refine g_ ?_
        have hgood : nameC (s[k]'hlt).toNat = true := by
          simp [nameC]
          omega
        exact G_ (k + 1) (by omega) (by exact ⟨rfl, rfl, trivial⟩) (fun w' hw' => ⟨⟨hlt, fun j hj h => by
          rcases Nat.lt_or_ge j k with h2 | h2
          · exact hp j hj h2
          · obtain rfl : j = k := by omega
            exact hgood⟩, hw'⟩)
      intro hc38
      refine d_ (a_ ?_)
      refine b_ (j_ rfl) rfl rfl ?_
      refine g_ (c_ ?_)
      refine m_ ?_
      refine E_ ?_
      refine h_ (by intro h; cases h) ?_
      refine h_ (by intro h; cases h) ?_
      refine E_ ?_
      refine h_ (by intro h; cases h) ?_
      refine P_ rfl rfl ?_
      intro w' hw'
      refine ⟨?_, hw'⟩
      congr 2
      unfold nameB
      (rw [hg_ hlt (by simp [nameC]; omega)]; rfl)
    intro hc25
    iterate 2 refine b_ (k_ rfl) rfl rfl ?_
    refine b_ (ar_ (q := k) rfl rfl rfl hlt Tryz.underlying9) rfl rfl ?_
    refine b_ (de_ rfl rfl) rfl rfl ?_
    refine b_ (O_ rfl rfl) rfl rfl ?_
    refine b_ (S_ rfl rfl) rfl rfl ?_
    refine b_ (k_ rfl) rfl rfl ?_
    refine z_ (t := 32) rfl ?_ ?_
    · intro hc32
      iterate 4 refine af_ rfl rfl ?_
      refine b_ (O_ rfl rfl) rfl rfl ?_
      refine b_ (bn_ rfl) rfl rfl ?_
      refine g_ (c_ ?_)
      refine ad_ rfl ?_
      refine p_ ?_
      refine u_ ?_
      refine c_ ?_
      refine a_ ?_
      refine b_ (k_ rfl) rfl rfl ?_
      refine b_ (C_ rfl rfl (by simp only [InR, lo, hi]; omega)) rfl rfl ?_
      refine b_ (j_ rfl) rfl rfl ?_
      refine g_ ?_
      have hgood : nameC (s[k]'hlt).toNat = true := by
        simp [nameC]
        omega
      exact G_ (k + 1) (by omega) (by exact ⟨rfl, rfl, trivial⟩) (fun w' hw' => ⟨⟨hlt, fun j hj h => by
        rcases Nat.lt_or_ge j k with h2 | h2
        · exact hp j hj h2
        · obtain rfl : j = k := by omega
          exact hgood⟩, hw'⟩)
    intro hc32
    iterate 2 refine b_ (k_ rfl) rfl rfl ?_
    refine b_ (ar_ (q := k) rfl rfl rfl hlt Tryz.underlying9) rfl rfl ?_
    refine b_ (al_ rfl rfl) rfl rfl ?_
    refine b_ (S_ rfl rfl) rfl rfl ?_
    refine b_ (aH_ rfl) rfl rfl ?_
    refine g_ (c_ ?_)
    refine o_ rfl ?_ ?_
    rotate_left
    · intro hc38
      refine p_ ?_
      refine u_ ?_
      refine c_ ?_
      refine a_ ?_
      refine b_ (k_ rfl) rfl rfl ?_
      refine b_ (C_ rfl rfl (by simp only [InR, lo, hi]; omega)) rfl rfl ?_
      refine b_ (j_ rfl) rfl rfl ?_
      refine g_ ?_
      have hgood : nameC (s[k]'hlt).toNat = true := by
        simp [nameC]
        omega
      exact G_ (k + 1) (by omega) (by exact ⟨rfl, rfl, trivial⟩) (fun w' hw' => ⟨⟨hlt, fun j hj h => by
        rcases Nat.lt_or_ge j k with h2 | h2
        · exact hp j hj h2
        · obtain rfl : j = k := by omega
          exact hgood⟩, hw'⟩)
    intro hc38
    refine d_ (a_ ?_)
    refine b_ (j_ rfl) rfl rfl ?_
    refine g_ (c_ ?_)
    refine m_ ?_
    refine E_ ?_
    refine h_ (by intro h; cases h) ?_
    refine h_ (by intro h; cases h) ?_
    refine E_ ?_
    refine h_ (by intro h; cases h) ?_
    refine P_ rfl rfl ?_
    intro w' hw'
    refine ⟨?_, hw'⟩
    congr 2
    unfold nameB
    (rw [hg_ hlt (by simp [nameC]; omega)]; rfl)
  intro hc14
  iterate 2 refine b_ (k_ rfl) rfl rfl ?_
  refine b_ (ar_ (q := k) rfl rfl rfl hlt Tryz.underlying9) rfl rfl ?_
  refine b_ (de_ rfl rfl) rfl rfl ?_
  refine b_ (O_ rfl rfl) rfl rfl ?_
  refine b_ (k_ rfl) rfl rfl ?_
  refine z_ (t := 20) rfl ?_ ?_
  · intro hc20
    iterate 10 refine af_ rfl rfl ?_
    refine b_ (O_ rfl rfl) rfl rfl ?_
    refine b_ (k_ rfl) rfl rfl ?_
    iterate 4 refine af_ rfl rfl ?_
    refine b_ (O_ rfl rfl) rfl rfl ?_
    refine b_ (bn_ rfl) rfl rfl ?_
    refine g_ (c_ ?_)
    refine ad_ rfl ?_
    refine p_ ?_
    refine u_ ?_
    refine c_ ?_
    refine a_ ?_
    refine b_ (k_ rfl) rfl rfl ?_
    refine b_ (C_ rfl rfl (by simp only [InR, lo, hi]; omega)) rfl rfl ?_
    refine b_ (j_ rfl) rfl rfl ?_
    refine g_ ?_
    have hgood : nameC (s[k]'hlt).toNat = true := by
      simp [nameC]
      omega
    exact G_ (k + 1) (by omega) (by exact ⟨rfl, rfl, trivial⟩) (fun w' hw' => ⟨⟨hlt, fun j hj h => by
      rcases Nat.lt_or_ge j k with h2 | h2
      · exact hp j hj h2
      · obtain rfl : j = k := by omega
        exact hgood⟩, hw'⟩)
  intro hc20
  iterate 2 refine b_ (k_ rfl) rfl rfl ?_
  refine b_ (ar_ (q := k) rfl rfl rfl hlt Tryz.underlying9) rfl rfl ?_
  refine b_ (bK_ rfl rfl) rfl rfl ?_
  refine b_ (k_ rfl) rfl rfl ?_
  refine z_ (t := 25) rfl ?_ ?_
  rotate_left
  · intro hc25
    iterate 4 refine af_ rfl rfl ?_
    refine b_ (S_ rfl rfl) rfl rfl ?_
    refine b_ (S_ rfl rfl) rfl rfl ?_
    iterate 3 refine b_ (k_ rfl) rfl rfl ?_
    refine b_ (ar_ (q := k) rfl rfl rfl hlt Tryz.underlying9) rfl rfl ?_
    refine b_ (al_ rfl rfl) rfl rfl ?_
    refine b_ (S_ rfl rfl) rfl rfl ?_
    refine b_ (aH_ rfl) rfl rfl ?_
    refine g_ (c_ ?_)
    refine o_ rfl ?_ ?_
    rotate_left
    · intro hc38
      refine p_ ?_
      refine u_ ?_
      refine c_ ?_
      refine a_ ?_
      refine b_ (k_ rfl) rfl rfl ?_
      refine b_ (C_ rfl rfl (by simp only [InR, lo, hi]; omega)) rfl rfl ?_
      refine b_ (j_ rfl) rfl rfl ?_
      refine g_ ?_
      have hgood : nameC (s[k]'hlt).toNat = true := by
        simp [nameC]
        omega
      exact G_ (k + 1) (by omega) (by exact ⟨rfl, rfl, trivial⟩) (fun w' hw' => ⟨⟨hlt, fun j hj h => by
        rcases Nat.lt_or_ge j k with h2 | h2
        · exact hp j hj h2
        · obtain rfl : j = k := by omega
          exact hgood⟩, hw'⟩)
    intro hc38
    refine d_ (a_ ?_)
    refine b_ (j_ rfl) rfl rfl ?_
    refine g_ (c_ ?_)
    refine m_ ?_
    refine E_ ?_
    refine h_ (by intro h; cases h) ?_
    refine h_ (by intro h; cases h) ?_
    refine E_ ?_
    refine h_ (by intro h; cases h) ?_
    refine P_ rfl rfl ?_
    intro w' hw'
    refine ⟨?_, hw'⟩
    congr 2
    unfold nameB
    (rw [hg_ hlt (by simp [nameC]; omega)]; rfl)
  intro hc25
  iterate 2 refine b_ (k_ rfl) rfl rfl ?_
  refine b_ (ar_ (q := k) rfl rfl rfl hlt Tryz.underlying9) rfl rfl ?_
  refine b_ (de_ rfl rfl) rfl rfl ?_
  refine b_ (O_ rfl rfl) rfl rfl ?_
  refine b_ (S_ rfl rfl) rfl rfl ?_
  refine b_ (k_ rfl) rfl rfl ?_
  refine z_ (t := 32) rfl ?_ ?_
  · intro hc32
    iterate 4 refine af_ rfl rfl ?_
    refine b_ (O_ rfl rfl) rfl rfl ?_
    refine b_ (bn_ rfl) rfl rfl ?_
    refine g_ (c_ ?_)
    refine ad_ rfl ?_
    refine p_ ?_
    refine u_ ?_
    refine c_ ?_
    refine a_ ?_
    refine b_ (k_ rfl) rfl rfl ?_
    refine b_ (C_ rfl rfl (by simp only [InR, lo, hi]; omega)) rfl rfl ?_
    refine b_ (j_ rfl) rfl rfl ?_
    refine g_ ?_
    have hgood : nameC (s[k]'hlt).toNat = true := by
      simp [nameC]
      omega
    exact G_ (k + 1) (by omega) (by exact ⟨rfl, rfl, trivial⟩) (fun w' hw' => ⟨⟨hlt, fun j hj h => by
      rcases Nat.lt_or_ge j k with h2 | h2
      · exact hp j hj h2
      · obtain rfl : j = k := by omega
        exact hgood⟩, hw'⟩)
  intro hc32
  iterate 2 refine b_ (k_ rfl) rfl rfl ?_
  refine b_ (ar_ (q := k) rfl rfl rfl hlt Tryz.underlying9) rfl rfl ?_
  refine b_ (al_ rfl rfl) rfl rfl ?_
  refine b_ (S_ rfl rfl) rfl rfl ?_
  refine b_ (aH_ rfl) rfl rfl ?_
  refine g_ (c_ ?_)
  refine o_ rfl ?_ ?_
  rotate_left
  · intro hc38
    refine p_ ?_
    refine u_ ?_
    refine c_ ?_
    refine a_ ?_
    refine b_ (k_ rfl) rfl rfl ?_
    refine b_ (C_ rfl rfl (by simp only [InR, lo, hi]; omega)) rfl rfl ?_
    refine b_ (j_ rfl) rfl rfl ?_
    refine g_ ?_
    have hgood : nameC (s[k]'hlt).toNat = true := by
      simp [nameC]
      omega
    exact G_ (k + 1) (by omega) (by exact ⟨rfl, rfl, trivial⟩) (fun w' hw' => ⟨⟨hlt, fun j hj h => by
      rcases Nat.lt_or_ge j k with h2 | h2
      · exact hp j hj h2
      · obtain rfl : j = k := by omega
        exact hgood⟩, hw'⟩)
  intro hc38
  refine d_ (a_ ?_)
  refine b_ (j_ rfl) rfl rfl ?_
  refine g_ (c_ ?_)
  refine m_ ?_
  refine E_ ?_
  refine h_ (by intro h; cases h) ?_
  refine h_ (by intro h; cases h) ?_
  refine E_ ?_
  refine h_ (by intro h; cases h) ?_
  refine P_ rfl rfl ?_
  intro w' hw'
  refine ⟨?_, hw'⟩
  congr 2
  unfold nameB
  (rw [hg_ hlt (by simp [nameC]; omega)]; rfl)
end
structure Core where
  client : Int
  stamp : Int
  op : Int
  letter : ByteArray
  a : Int
  b : Int
  text : ByteArray
def Core.cells (c : Core) : List Value := [.int .i64 c.client, .int .i64 c.stamp, .int .i64 c.op, .string c.letter, .int .i64 c.a, .int .i64 c.b, .string c.text]
def Core.check (c : Core) (n : Int) : Int :=
  if n < 1 ∨ 7 < n then 1 else if c.client < n ∨ n + 4 ≤ c.client then 17 else if c.stamp < 1 ∨ 1099511627776 < c.stamp ∨ c.op < 1 ∨ 9 < c.op then 5 else if nameB c.letter = false then 7 else if 200 < c.text.size then 3 else 0
def rowB (m : List UInt8) : List UInt8 := beBytes m.length 4 ++ m
def Core.bytes (c : Core) : List UInt8 :=
  beBytes (u64 c.client) 1 ++ beBytes (u64 c.stamp) 8 ++ beBytes (u64 c.op) 1 ++ rowB c.letter.data.toList ++ beBytes (u64 c.a) 8 ++ beBytes (u64 c.b) 8 ++ rowB c.text.data.toList
theorem u64_lt (x : Int) : u64 x < 18446744073709551616 := by unfold u64; omega
section
variable {S : List (World × List Nat)} {σ τ : Blks} {ρ : List Dt} {w : World} {P : Program} {n : Nat} {l : Slots} {D : World → Prop} {x y : Operand} {d : Option Nat} {ty t : TypeId} {pos : String} {aft : Array Edge} {g : Option (Nat × Bool)} {v : Value}
set_option maxHeartbeats 400000 in
theorem k2_ {c : Core} {n : Int} (hw : Mem S σ ρ w) : Calls Tryz.prog 44 #[.agg c.cells.toArray, .int .i64 n] w fun e w' => e = .returned (.int .i64 (c.check n)) ∧ Mem S σ ρ w' := by
  refine ah_ [.agg c.cells.toArray, .int .i64 n] Tryz.func44 rfl Tryz.ntmps44 rfl (Mem S σ ρ) hw ?_
  refine d_ (a_ ?_)
  refine a0_ (R_ rfl) rfl rfl ?_
  rintro _ _ ⟨b2, rfl, rfl⟩
  refine b_ (j_ rfl) rfl rfl ?_
  refine g_ (c_ ?_)
  refine d_ ?_
  refine y_ ?_
  refine d_ (a_ ?_)
  refine b_ (k_ rfl) rfl rfl ?_
  refine b_ (aI_ rfl rfl) rfl rfl ?_
  refine b_ (k_ rfl) rfl rfl ?_
  refine z_ (t := 8) rfl ?_ ?_
  · intro hc8
    iterate 2 refine af_ rfl rfl ?_
    refine b_ (O_ rfl rfl) rfl rfl ?_
    refine b_ (j_ rfl) rfl rfl ?_
    refine g_ (c_ ?_)
    refine M_ rfl ?_
    refine d_ (a_ ?_)
    refine b_ (j_ rfl) rfl rfl ?_
    refine g_ (c_ ?_)
    refine m_ ?_
    refine E_ ?_
    refine h_ (by intro h; cases h) ?_
    refine P_ rfl rfl ?_
    intro w' hw'
    refine ⟨?_, hw'.sub (fun _ h => h) (List.sublist_cons_self _ _)⟩
    congr 2
    unfold Core.check
    repeat' split
    all_goals first | rfl | omega | simp_all
  intro hc8
  refine b_ (k_ rfl) rfl rfl ?_
  refine b_ (ay_ rfl rfl) rfl rfl ?_
  refine b_ (S_ rfl rfl) rfl rfl ?_
  refine b_ (j_ rfl) rfl rfl ?_
  refine g_ (c_ ?_)
  refine o_ rfl ?_ ?_
  · intro hc5
    refine d_ (a_ ?_)
    refine b_ (j_ rfl) rfl rfl ?_
    refine g_ (c_ ?_)
    refine m_ ?_
    refine E_ ?_
    refine h_ (by intro h; cases h) ?_
    refine P_ rfl rfl ?_
    intro w' hw'
    refine ⟨?_, hw'.sub (fun _ h => h) (List.sublist_cons_self _ _)⟩
    congr 2
    unfold Core.check
    repeat' split
    all_goals first | rfl | omega | simp_all
  intro hc5
  refine d_ (a_ ?_)
  refine b_ (v_ tabOk rfl rfl rfl rfl rfl) rfl rfl ?_
  refine b_ (i_ tabOk rfl rfl (by repeat (first | assumption | exact List.mem_cons_self | exact hmem _ | apply List.mem_cons_of_mem)) (by rfl)) rfl rfl ?_
  refine b_ (k_ rfl) rfl rfl ?_
  refine b_ (aI_ rfl rfl) rfl rfl ?_
  refine b_ (k_ rfl) rfl rfl ?_
  refine z_ (t := 17) rfl ?_ ?_
  · intro hc17
    iterate 5 refine af_ rfl rfl ?_
    refine b_ (O_ rfl rfl) rfl rfl ?_
    refine b_ (j_ rfl) rfl rfl ?_
    refine g_ (c_ ?_)
    refine M_ rfl ?_
    refine d_ (a_ ?_)
    refine b_ (j_ rfl) rfl rfl ?_
    refine g_ (c_ ?_)
    refine m_ ?_
    refine E_ ?_
    refine h_ (by intro h; cases h) ?_
    refine P_ rfl rfl ?_
    intro w' hw'
    refine ⟨?_, hw'.sub (fun _ h => h) (List.sublist_cons_self _ _)⟩
    congr 2
    unfold Core.check
    repeat' split
    all_goals first | rfl | omega | simp_all
  intro hc17
  refine b_ (v_ tabOk rfl rfl rfl rfl rfl) rfl rfl ?_
  refine b_ (i_ tabOk rfl rfl (by repeat (first | assumption | exact List.mem_cons_self | exact hmem _ | apply List.mem_cons_of_mem)) (by rfl)) rfl rfl ?_
  refine b_ (k_ rfl) rfl rfl ?_
  refine b_ (C_ rfl rfl (by simp only [InR, lo, hi]; omega)) rfl rfl ?_
  refine b_ (bK_ rfl rfl) rfl rfl ?_
  refine b_ (S_ rfl rfl) rfl rfl ?_
  refine b_ (j_ rfl) rfl rfl ?_
  refine g_ (c_ ?_)
  refine o_ rfl ?_ ?_
  · intro hc12
    refine d_ (a_ ?_)
    refine b_ (j_ rfl) rfl rfl ?_
    refine g_ (c_ ?_)
    refine m_ ?_
    refine E_ ?_
    refine h_ (by intro h; cases h) ?_
    refine P_ rfl rfl ?_
    intro w' hw'
    refine ⟨?_, hw'.sub (fun _ h => h) (List.sublist_cons_self _ _)⟩
    congr 2
    unfold Core.check
    repeat' split
    all_goals first | rfl | omega | simp_all
  intro hc12
  refine d_ (a_ ?_)
  refine b_ (v_ tabOk rfl rfl rfl rfl rfl) rfl rfl ?_
  refine b_ (i_ tabOk rfl rfl (by repeat (first | assumption | exact List.mem_cons_self | exact hmem _ | apply List.mem_cons_of_mem)) (by rfl)) rfl rfl ?_
  refine b_ (aI_ rfl rfl) rfl rfl ?_
  refine b_ (k_ rfl) rfl rfl ?_
  refine z_ (t := 28) rfl ?_ ?_
  · intro hc28
    iterate 3 refine af_ rfl rfl ?_
    refine b_ (O_ rfl rfl) rfl rfl ?_
    refine b_ (k_ rfl) rfl rfl ?_
    iterate 3 refine af_ rfl rfl ?_
    refine b_ (O_ rfl rfl) rfl rfl ?_
    refine b_ (k_ rfl) rfl rfl ?_
    iterate 3 refine af_ rfl rfl ?_
    refine b_ (O_ rfl rfl) rfl rfl ?_
    refine b_ (j_ rfl) rfl rfl ?_
    refine g_ (c_ ?_)
    refine M_ rfl ?_
    refine d_ (a_ ?_)
    refine b_ (j_ rfl) rfl rfl ?_
    refine g_ (c_ ?_)
    refine m_ ?_
    refine E_ ?_
    refine h_ (by intro h; cases h) ?_
    refine P_ rfl rfl ?_
    intro w' hw'
    refine ⟨?_, hw'.sub (fun _ h => h) (List.sublist_cons_self _ _)⟩
    congr 2
    unfold Core.check
    repeat' split
    all_goals first | rfl | omega | simp_all
  intro hc28
  refine b_ (v_ tabOk rfl rfl rfl rfl rfl) rfl rfl ?_
  refine b_ (i_ tabOk rfl rfl (by repeat (first | assumption | exact List.mem_cons_self | exact hmem _ | apply List.mem_cons_of_mem)) (by rfl)) rfl rfl ?_
  refine b_ (ay_ rfl rfl) rfl rfl ?_
  refine b_ (S_ rfl rfl) rfl rfl ?_
  refine b_ (k_ rfl) rfl rfl ?_
  refine z_ (t := 33) rfl ?_ ?_
  · intro hc33
    iterate 3 refine af_ rfl rfl ?_
    refine b_ (O_ rfl rfl) rfl rfl ?_
    refine b_ (k_ rfl) rfl rfl ?_
    iterate 3 refine af_ rfl rfl ?_
    refine b_ (O_ rfl rfl) rfl rfl ?_
    refine b_ (j_ rfl) rfl rfl ?_
    refine g_ (c_ ?_)
    refine M_ rfl ?_
    refine d_ (a_ ?_)
    refine b_ (j_ rfl) rfl rfl ?_
    refine g_ (c_ ?_)
    refine m_ ?_
    refine E_ ?_
    refine h_ (by intro h; cases h) ?_
    refine P_ rfl rfl ?_
    intro w' hw'
    refine ⟨?_, hw'.sub (fun _ h => h) (List.sublist_cons_self _ _)⟩
    congr 2
    unfold Core.check
    repeat' split
    all_goals first | rfl | omega | simp_all
  intro hc33
  refine b_ (v_ tabOk rfl rfl rfl rfl rfl) rfl rfl ?_
  refine b_ (i_ tabOk rfl rfl (by repeat (first | assumption | exact List.mem_cons_self | exact hmem _ | apply List.mem_cons_of_mem)) (by rfl)) rfl rfl ?_
  refine b_ (aI_ rfl rfl) rfl rfl ?_
  refine b_ (S_ rfl rfl) rfl rfl ?_
  refine b_ (k_ rfl) rfl rfl ?_
  refine z_ (t := 38) rfl ?_ ?_
  · intro hc38
    iterate 3 refine af_ rfl rfl ?_
    refine b_ (O_ rfl rfl) rfl rfl ?_
    refine b_ (j_ rfl) rfl rfl ?_
    refine g_ (c_ ?_)
    refine M_ rfl ?_
    refine d_ (a_ ?_)
    refine b_ (j_ rfl) rfl rfl ?_
    refine g_ (c_ ?_)
    refine m_ ?_
    refine E_ ?_
    refine h_ (by intro h; cases h) ?_
    refine P_ rfl rfl ?_
    intro w' hw'
    refine ⟨?_, hw'.sub (fun _ h => h) (List.sublist_cons_self _ _)⟩
    congr 2
    unfold Core.check
    repeat' split
    all_goals first | rfl | omega | simp_all
  intro hc38
  refine b_ (v_ tabOk rfl rfl rfl rfl rfl) rfl rfl ?_
  refine b_ (i_ tabOk rfl rfl (by repeat (first | assumption | exact List.mem_cons_self | exact hmem _ | apply List.mem_cons_of_mem)) (by rfl)) rfl rfl ?_
  refine b_ (ay_ rfl rfl) rfl rfl ?_
  refine b_ (S_ rfl rfl) rfl rfl ?_
  refine b_ (j_ rfl) rfl rfl ?_
  refine g_ (c_ ?_)
  refine o_ rfl ?_ ?_
  · intro hc24
    refine d_ (a_ ?_)
    refine b_ (j_ rfl) rfl rfl ?_
    refine g_ (c_ ?_)
    refine m_ ?_
    refine E_ ?_
    refine h_ (by intro h; cases h) ?_
    refine P_ rfl rfl ?_
    intro w' hw'
    refine ⟨?_, hw'.sub (fun _ h => h) (List.sublist_cons_self _ _)⟩
    congr 2
    unfold Core.check
    repeat' split
    all_goals first | rfl | omega | simp_all
  intro hc24
  refine d_ (a_ ?_)
  refine b_ (v_ tabOk rfl rfl rfl rfl rfl) rfl rfl ?_
  refine b_ (i_ tabOk rfl rfl (by repeat (first | assumption | exact List.mem_cons_self | exact hmem _ | apply List.mem_cons_of_mem)) (by rfl)) rfl rfl ?_
  refine s_ (by kernel_rfl) rfl rfl rfl ?_
  intro w hw
  refine (iE_ hw).mono ?_; rintro _ _ ⟨rfl, hm⟩; refine ⟨_, _, rfl, hm, ?_⟩; clear hm hw w
  refine b_ (aj_ rfl) rfl rfl ?_
  refine b_ (j_ rfl) rfl rfl ?_
  refine g_ (c_ ?_)
  refine X_ rfl ?_ ?_
  · intro hc43
    refine d_ (a_ ?_)
    refine b_ (j_ rfl) rfl rfl ?_
    refine g_ (c_ ?_)
    refine m_ ?_
    refine E_ ?_
    refine h_ (by intro h; cases h) ?_
    refine P_ rfl rfl ?_
    intro w' hw'
    refine ⟨?_, hw'.sub (fun _ h => h) (List.sublist_cons_self _ _)⟩
    congr 2
    unfold Core.check
    repeat' split
    all_goals first | rfl | omega | simp_all
  intro hc43
  refine d_ (a_ ?_)
  refine b_ (v_ tabOk rfl rfl rfl rfl rfl) rfl rfl ?_
  refine b_ (i_ tabOk rfl rfl (by repeat (first | assumption | exact List.mem_cons_self | exact hmem _ | apply List.mem_cons_of_mem)) (by rfl)) rfl rfl ?_
  refine b_ (ao_ rfl Tryz.underlying9) rfl rfl ?_
  refine b_ (ay_ rfl rfl) rfl rfl ?_
  refine b_ (j_ rfl) rfl rfl ?_
  refine g_ (c_ ?_)
  refine o_ rfl ?_ ?_
  · intro hc48
    refine d_ (a_ ?_)
    refine b_ (j_ rfl) rfl rfl ?_
    refine g_ (c_ ?_)
    refine m_ ?_
    refine E_ ?_
    refine h_ (by intro h; cases h) ?_
    refine P_ rfl rfl ?_
    intro w' hw'
    refine ⟨?_, hw'.sub (fun _ h => h) (List.sublist_cons_self _ _)⟩
    congr 2
    unfold Core.check
    repeat' split
    all_goals first | rfl | omega | simp_all
  intro hc48
  refine p_ ?_
  refine u_ ?_
  refine c_ ?_
  refine d_ (a_ ?_)
  refine b_ (j_ rfl) rfl rfl ?_
  refine g_ (c_ ?_)
  refine m_ ?_
  refine P_ rfl rfl ?_
  intro w' hw'
  refine ⟨?_, hw'.sub (fun _ h => h) (List.sublist_cons_self _ _)⟩
  congr 2
  unfold Core.check
  repeat' split
  all_goals first | rfl | omega | simp_all
set_option maxHeartbeats 400000 in
theorem io_ {c : Core} {n : Int} (hw : Mem S σ ρ w) (hs : c.letter.size ≤ lots) : Calls Tryz.prog 58 #[.agg c.cells.toArray, .int .i64 n] w fun e w' => e = .returned (.int .i64 (c.check n)) ∧ Mem S σ ρ w' := by
  refine ah_ [.agg c.cells.toArray, .int .i64 n] Tryz.func58 rfl Tryz.ntmps58 rfl (Mem S σ ρ) hw ?_
  refine d_ (a_ ?_)
  refine a0_ (R_ rfl) rfl rfl ?_
  rintro _ _ ⟨b2, rfl, rfl⟩
  refine b_ (j_ rfl) rfl rfl ?_
  refine g_ (c_ ?_)
  refine d_ ?_
  refine y_ ?_
  refine d_ (a_ ?_)
  refine b_ (k_ rfl) rfl rfl ?_
  refine b_ (aI_ rfl rfl) rfl rfl ?_
  refine b_ (k_ rfl) rfl rfl ?_
  refine z_ (t := 8) rfl ?_ ?_
  · intro hc8
    iterate 2 refine af_ rfl rfl ?_
    refine b_ (O_ rfl rfl) rfl rfl ?_
    refine b_ (j_ rfl) rfl rfl ?_
    refine g_ (c_ ?_)
    refine M_ rfl ?_
    refine d_ (a_ ?_)
    refine b_ (j_ rfl) rfl rfl ?_
    refine g_ (c_ ?_)
    refine m_ ?_
    refine E_ ?_
    refine h_ (by intro h; cases h) ?_
    refine P_ rfl rfl ?_
    intro w' hw'
    refine ⟨?_, hw'.sub (fun _ h => h) (List.sublist_cons_self _ _)⟩
    congr 2
    unfold Core.check
    repeat' split
    all_goals first | rfl | omega | simp_all
  intro hc8
  refine b_ (k_ rfl) rfl rfl ?_
  refine b_ (ay_ rfl rfl) rfl rfl ?_
  refine b_ (S_ rfl rfl) rfl rfl ?_
  refine b_ (j_ rfl) rfl rfl ?_
  refine g_ (c_ ?_)
  refine o_ rfl ?_ ?_
  · intro hc5
    refine d_ (a_ ?_)
    refine b_ (j_ rfl) rfl rfl ?_
    refine g_ (c_ ?_)
    refine m_ ?_
    refine E_ ?_
    refine h_ (by intro h; cases h) ?_
    refine P_ rfl rfl ?_
    intro w' hw'
    refine ⟨?_, hw'.sub (fun _ h => h) (List.sublist_cons_self _ _)⟩
    congr 2
    unfold Core.check
    repeat' split
    all_goals first | rfl | omega | simp_all
  intro hc5
  refine d_ (a_ ?_)
  refine b_ (v_ tabOk rfl rfl rfl rfl rfl) rfl rfl ?_
  refine b_ (i_ tabOk rfl rfl (by repeat (first | assumption | exact List.mem_cons_self | exact hmem _ | apply List.mem_cons_of_mem)) (by rfl)) rfl rfl ?_
  refine b_ (k_ rfl) rfl rfl ?_
  refine b_ (aI_ rfl rfl) rfl rfl ?_
  refine b_ (k_ rfl) rfl rfl ?_
  refine z_ (t := 17) rfl ?_ ?_
  · intro hc17
    iterate 5 refine af_ rfl rfl ?_
    refine b_ (O_ rfl rfl) rfl rfl ?_
    refine b_ (j_ rfl) rfl rfl ?_
    refine g_ (c_ ?_)
    refine M_ rfl ?_
    refine d_ (a_ ?_)
    refine b_ (j_ rfl) rfl rfl ?_
    refine g_ (c_ ?_)
    refine m_ ?_
    refine E_ ?_
    refine h_ (by intro h; cases h) ?_
    refine P_ rfl rfl ?_
    intro w' hw'
    refine ⟨?_, hw'.sub (fun _ h => h) (List.sublist_cons_self _ _)⟩
    congr 2
    unfold Core.check
    repeat' split
    all_goals first | rfl | omega | simp_all
  intro hc17
  refine b_ (v_ tabOk rfl rfl rfl rfl rfl) rfl rfl ?_
  refine b_ (i_ tabOk rfl rfl (by repeat (first | assumption | exact List.mem_cons_self | exact hmem _ | apply List.mem_cons_of_mem)) (by rfl)) rfl rfl ?_
  refine b_ (k_ rfl) rfl rfl ?_
  refine b_ (C_ rfl rfl (by simp only [InR, lo, hi]; omega)) rfl rfl ?_
  refine b_ (ay_ rfl rfl) rfl rfl ?_
  refine b_ (S_ rfl rfl) rfl rfl ?_
  refine b_ (j_ rfl) rfl rfl ?_
  refine g_ (c_ ?_)
  refine o_ rfl ?_ ?_
  · intro hc12
    refine d_ (a_ ?_)
    refine b_ (j_ rfl) rfl rfl ?_
    refine g_ (c_ ?_)
    refine m_ ?_
    refine E_ ?_
    refine h_ (by intro h; cases h) ?_
    refine P_ rfl rfl ?_
    intro w' hw'
    refine ⟨?_, hw'.sub (fun _ h => h) (List.sublist_cons_self _ _)⟩
    congr 2
    unfold Core.check
    repeat' split
    all_goals first | rfl | omega | simp_all
  intro hc12
  refine d_ (a_ ?_)
  refine b_ (v_ tabOk rfl rfl rfl rfl rfl) rfl rfl ?_
  refine b_ (i_ tabOk rfl rfl (by repeat (first | assumption | exact List.mem_cons_self | exact hmem _ | apply List.mem_cons_of_mem)) (by rfl)) rfl rfl ?_
  refine b_ (aI_ rfl rfl) rfl rfl ?_
  refine b_ (k_ rfl) rfl rfl ?_
  refine z_ (t := 28) rfl ?_ ?_
  · intro hc28
    iterate 3 refine af_ rfl rfl ?_
    refine b_ (O_ rfl rfl) rfl rfl ?_
    refine b_ (k_ rfl) rfl rfl ?_
    iterate 3 refine af_ rfl rfl ?_
    refine b_ (O_ rfl rfl) rfl rfl ?_
    refine b_ (k_ rfl) rfl rfl ?_
    iterate 3 refine af_ rfl rfl ?_
    refine b_ (O_ rfl rfl) rfl rfl ?_
    refine b_ (j_ rfl) rfl rfl ?_
    refine g_ (c_ ?_)
    refine M_ rfl ?_
    refine d_ (a_ ?_)
    refine b_ (j_ rfl) rfl rfl ?_
    refine g_ (c_ ?_)
    refine m_ ?_
    refine E_ ?_
    refine h_ (by intro h; cases h) ?_
    refine P_ rfl rfl ?_
    intro w' hw'
    refine ⟨?_, hw'.sub (fun _ h => h) (List.sublist_cons_self _ _)⟩
    congr 2
    unfold Core.check
    repeat' split
    all_goals first | rfl | omega | simp_all
  intro hc28
  refine b_ (v_ tabOk rfl rfl rfl rfl rfl) rfl rfl ?_
  refine b_ (i_ tabOk rfl rfl (by repeat (first | assumption | exact List.mem_cons_self | exact hmem _ | apply List.mem_cons_of_mem)) (by rfl)) rfl rfl ?_
  refine b_ (ay_ rfl rfl) rfl rfl ?_
  refine b_ (S_ rfl rfl) rfl rfl ?_
  refine b_ (k_ rfl) rfl rfl ?_
  refine z_ (t := 33) rfl ?_ ?_
  · intro hc33
    iterate 3 refine af_ rfl rfl ?_
    refine b_ (O_ rfl rfl) rfl rfl ?_
    refine b_ (k_ rfl) rfl rfl ?_
    iterate 3 refine af_ rfl rfl ?_
    refine b_ (O_ rfl rfl) rfl rfl ?_
    refine b_ (j_ rfl) rfl rfl ?_
    refine g_ (c_ ?_)
    refine M_ rfl ?_
    refine d_ (a_ ?_)
    refine b_ (j_ rfl) rfl rfl ?_
    refine g_ (c_ ?_)
    refine m_ ?_
    refine E_ ?_
    refine h_ (by intro h; cases h) ?_
    refine P_ rfl rfl ?_
    intro w' hw'
    refine ⟨?_, hw'.sub (fun _ h => h) (List.sublist_cons_self _ _)⟩
    congr 2
    unfold Core.check
    repeat' split
    all_goals first | rfl | omega | simp_all
  intro hc33
  refine b_ (v_ tabOk rfl rfl rfl rfl rfl) rfl rfl ?_
  refine b_ (i_ tabOk rfl rfl (by repeat (first | assumption | exact List.mem_cons_self | exact hmem _ | apply List.mem_cons_of_mem)) (by rfl)) rfl rfl ?_
  refine b_ (aI_ rfl rfl) rfl rfl ?_
  refine b_ (S_ rfl rfl) rfl rfl ?_
  refine b_ (k_ rfl) rfl rfl ?_
  refine z_ (t := 38) rfl ?_ ?_
  · intro hc38
    iterate 3 refine af_ rfl rfl ?_
    refine b_ (O_ rfl rfl) rfl rfl ?_
    refine b_ (j_ rfl) rfl rfl ?_
    refine g_ (c_ ?_)
    refine M_ rfl ?_
    refine d_ (a_ ?_)
    refine b_ (j_ rfl) rfl rfl ?_
    refine g_ (c_ ?_)
    refine m_ ?_
    refine E_ ?_
    refine h_ (by intro h; cases h) ?_
    refine P_ rfl rfl ?_
    intro w' hw'
    refine ⟨?_, hw'.sub (fun _ h => h) (List.sublist_cons_self _ _)⟩
    congr 2
    unfold Core.check
    repeat' split
    all_goals first | rfl | omega | simp_all
  intro hc38
  refine b_ (v_ tabOk rfl rfl rfl rfl rfl) rfl rfl ?_
  refine b_ (i_ tabOk rfl rfl (by repeat (first | assumption | exact List.mem_cons_self | exact hmem _ | apply List.mem_cons_of_mem)) (by rfl)) rfl rfl ?_
  refine b_ (ay_ rfl rfl) rfl rfl ?_
  refine b_ (S_ rfl rfl) rfl rfl ?_
  refine b_ (j_ rfl) rfl rfl ?_
  refine g_ (c_ ?_)
  refine o_ rfl ?_ ?_
  · intro hc24
    refine d_ (a_ ?_)
    refine b_ (j_ rfl) rfl rfl ?_
    refine g_ (c_ ?_)
    refine m_ ?_
    refine E_ ?_
    refine h_ (by intro h; cases h) ?_
    refine P_ rfl rfl ?_
    intro w' hw'
    refine ⟨?_, hw'.sub (fun _ h => h) (List.sublist_cons_self _ _)⟩
    congr 2
    unfold Core.check
    repeat' split
    all_goals first | rfl | omega | simp_all
  intro hc24
  refine d_ (a_ ?_)
  refine b_ (v_ tabOk rfl rfl rfl rfl rfl) rfl rfl ?_
  refine b_ (i_ tabOk rfl rfl (by repeat (first | assumption | exact List.mem_cons_self | exact hmem _ | apply List.mem_cons_of_mem)) (by rfl)) rfl rfl ?_
  refine s_ (by kernel_rfl) rfl rfl rfl ?_
  intro w hw
  refine (gx_ hw (Nat.le_trans hs (of_decide_eq_true (by kernel_rfl)))).mono ?_; rintro _ _ ⟨rfl, hm⟩; refine ⟨_, _, rfl, hm, ?_⟩; clear hm hw w
  refine b_ (aj_ rfl) rfl rfl ?_
  refine b_ (j_ rfl) rfl rfl ?_
  refine g_ (c_ ?_)
  refine X_ rfl ?_ ?_
  · intro hc43
    refine d_ (a_ ?_)
    refine b_ (j_ rfl) rfl rfl ?_
    refine g_ (c_ ?_)
    refine m_ ?_
    refine E_ ?_
    refine h_ (by intro h; cases h) ?_
    refine P_ rfl rfl ?_
    intro w' hw'
    refine ⟨?_, hw'.sub (fun _ h => h) (List.sublist_cons_self _ _)⟩
    congr 2
    unfold Core.check
    repeat' split
    all_goals first | rfl | omega | simp_all
  intro hc43
  refine d_ (a_ ?_)
  refine b_ (v_ tabOk rfl rfl rfl rfl rfl) rfl rfl ?_
  refine b_ (i_ tabOk rfl rfl (by repeat (first | assumption | exact List.mem_cons_self | exact hmem _ | apply List.mem_cons_of_mem)) (by rfl)) rfl rfl ?_
  refine b_ (ao_ rfl Tryz.underlying9) rfl rfl ?_
  refine b_ (ay_ rfl rfl) rfl rfl ?_
  refine b_ (j_ rfl) rfl rfl ?_
  refine g_ (c_ ?_)
  refine o_ rfl ?_ ?_
  · intro hc48
    refine d_ (a_ ?_)
    refine b_ (j_ rfl) rfl rfl ?_
    refine g_ (c_ ?_)
    refine m_ ?_
    refine E_ ?_
    refine h_ (by intro h; cases h) ?_
    refine P_ rfl rfl ?_
    intro w' hw'
    refine ⟨?_, hw'.sub (fun _ h => h) (List.sublist_cons_self _ _)⟩
    congr 2
    unfold Core.check
    repeat' split
    all_goals first | rfl | omega | simp_all
  intro hc48
  refine p_ ?_
  refine u_ ?_
  refine c_ ?_
  refine d_ (a_ ?_)
  refine b_ (j_ rfl) rfl rfl ?_
  refine g_ (c_ ?_)
  refine m_ ?_
  refine P_ rfl rfl ?_
  intro w' hw'
  refine ⟨?_, hw'.sub (fun _ h => h) (List.sublist_cons_self _ _)⟩
  congr 2
  unfold Core.check
  repeat' split
  all_goals first | rfl | omega | simp_all
end
end Go.Proofs.YtickdhjljpnlpaaGreatDoor
namespace Go.Proofs.YtickdhjljpnlpaaGreatDoor.A
open Go.RowKit
abbrev coreA (c : Core) : Abs := .agg (c.cells.map .v)
section
variable {c : Core} {n : Int}
theorem g6_ {K : List Nat} {w : World} {vals : List Value} (hv : reps K w [coreA c, int n] vals) : vals = [.agg c.cells.toArray, .int .i64 n] := by
  obtain ⟨v, us', rfl, ⟨us, rfl, h1⟩, h2⟩ := hv
  have h1 := (aD_ (us := c.cells)).1 h1
  have h2 := (aD_ (us := [.int .i64 n])).1 h2
  rw [h2, h1]
theorem ccheck_s : Pure Tryz.prog 44 [coreA c, int n] (int (c.check n)) := Pure.of2 fun K w vals hK hv => by
  rw [g6_ hv]
  exact (k2_ (enter2 w K)).mono fun e w' ⟨he, hm⟩ => ⟨_, he, leave2 hm (by simp), rfl⟩
theorem j7_ (hs : c.letter.size ≤ lots) : Pure Tryz.prog 58 [coreA c, int n] (int (c.check n)) := Pure.of2 fun K w vals hK hv => by
  rw [g6_ hv]
  exact (io_ (enter2 w K) hs).mono fun e w' ⟨he, hm⟩ => ⟨_, he, leave2 hm (by simp), rfl⟩
end
end Go.Proofs.YtickdhjljpnlpaaGreatDoor.A
namespace Go.Proofs.YtickdhjljpnlpaaGreatDoor
open Go.RowKit
structure Ent where
  core : Core
  mask : Nat
def Ent.cells (e : Ent) : List Value := [.int .i64 e.core.client, .int .i64 e.core.stamp, .int .i64 e.core.op, .string e.core.letter, .int .i64 e.core.a, .int .i64 e.core.b, .string e.core.text, .int .u32 e.mask]
theorem Ent.one (e : Ent) : ∀ u ∈ e.cells, u.oneCell' = true := by
  intro u hu
  simp only [Ent.cells, List.mem_cons, List.not_mem_nil, or_false] at hu
  rcases hu with rfl | rfl | rfl | rfl | rfl | rfl | rfl | rfl <;> rfl
end Go.Proofs.YtickdhjljpnlpaaGreatDoor
namespace Go.Proofs.YtickdhjljpnlpaaGreatDoor.A
open Go.RowKit
/-! ### Rows with keys -/
section
variable {α : Type} {p eq gt : α → Bool} {x y : α}
def putG (p : α → Bool) (r : Bool) (x : α) : List α → List α
  | [] => [x]
  | y :: ys => if p y = true then (if r = true then x :: ys else x :: y :: ys) else y :: putG p r x ys
def withG (eq gt : α → Bool) (x : α) (l : List α) : List α := if l.any eq = true then putG eq true x l else putG gt false x l
def placeG (eq gt : α → Bool) (l : List α) : Nat × Bool := if l.any eq = true then (l.findIdx eq, true) else (l.findIdx gt, false)
theorem fT_ : ∀ {l : List α}, l.any p = true → putG p true x l = l.set (l.findIdx p) x
  | [], h => by simp at h
  | y :: l, h => by
    unfold putG
    rw [List.findIdx_cons]
    by_cases hy : p y = true
    · simp [hy]
    · have h1 : l.any p = true := by simpa [hy] using h
      rw [if_neg hy, fT_ h1]
      simp [hy]
theorem fU_ : ∀ {l : List α}, putG p false x l = l.take (l.findIdx p) ++ x :: l.drop (l.findIdx p)
  | [] => rfl
  | y :: l => by
    unfold putG
    rw [List.findIdx_cons]
    by_cases hy : p y = true
    · simp [hy]
    · rw [if_neg hy, fU_]
      simp [hy]
theorem eC_ (r : Bool) : ∀ l : List α, (putG p r x l).length ≤ l.length + 1
  | [] => Nat.le_refl _
  | y :: l => by
    have := eC_ r l
    unfold putG
    split
    · split <;> simp
    · simpa using this
theorem bU_ (l : List α) : (withG eq gt x l).length ≤ l.length + 1 := by
  unfold withG
  split <;> exact eC_ _ _
theorem fs_ {l : List α} : l.findIdx p ≤ l.length := List.findIdx_le_length
theorem cN_ {l : List α} (h : l.any p = true) : l.findIdx p < l.length := List.findIdx_lt_length.2 (by simpa using h)
theorem kK_ : ∀ {l : List α} (h : l.any p = true), l.find? p = some (l[l.findIdx p]'(cN_ h))
  | [], h => by simp at h
  | y :: l, h => by
    by_cases hy : p y = true
    · simp [List.findIdx_cons, hy]
    · have h1 : l.any p = true := by simpa [hy] using h
      have h2 := kK_ h1
      simp [List.findIdx_cons, hy, h2]
theorem kJ_ {l : List α} (h : ¬ l.any p = true) : l.find? p = none := by
  rw [List.find?_eq_none]
  intro x hx hp
  exact h (List.any_eq_true.2 ⟨x, hx, hp⟩)
theorem gX_ {l : List α} {x : α} (h : l.find? p = some x) : x ∈ l ∧ p x = true := ⟨List.mem_of_find?_eq_some h, List.find?_some h⟩
theorem ip_ {r : Bool} {z : α} : ∀ {l : List α}, z ∈ putG p r x l → z = x ∨ z ∈ l
  | [], h => .inl (List.mem_singleton.1 h)
  | y :: l, h => by
    unfold putG at h
    split at h
    · split at h
      · rcases List.mem_cons.1 h with h | h
        · exact .inl h
        · exact .inr (List.mem_cons_of_mem _ h)
      · rcases List.mem_cons.1 h with h | h
        · exact .inl h
        · exact .inr h
    · rcases List.mem_cons.1 h with h | h
      · exact .inr (h ▸ List.mem_cons_self)
      · rcases ip_ h with h | h
        · exact .inl h
        · exact .inr (List.mem_cons_of_mem _ h)
theorem ei_ {z : α} {l : List α} (h : z ∈ withG eq gt x l) : z = x ∨ z ∈ l := by
  unfold withG at h
  split at h <;> exact ip_ h
end
/-! ### Letters and outcomes -/
def ltB (a b : ByteArray) : Prop := a.data.toList < b.data.toList
instance (a b : ByteArray) : Decidable (ltB a b) := by unfold ltB; infer_instance
theorem f1_ (a : ByteArray) : ¬ ltB a a := List.lt_irrefl _
theorem gN_ {a b c : ByteArray} (h : ltB a b) (k : ltB b c) : ltB a c := List.lt_trans h k
theorem ltB_tri (a b : ByteArray) : ltB a b ∨ a = b ∨ ltB b a := by
  by_cases h : ltB a b
  · exact .inl h
  · by_cases k : ltB b a
    · exact .inr (.inr k)
    · exact .inr (.inl (ek_ (List.le_antisymm (show ¬ b.data.toList < a.data.toList from k) h)))
section
variable {P : Program} {n : Nat} {W : Wd} {σ : Blks} {l : Slots} {X : List Nat} {x y : Operand} {d : Option Nat} {ty t t' : TypeId} {pos : String} {aft : Array Edge} {g : Option (Nat × Bool)} {s r : ByteArray}
theorem h2_ (hx : look l x = some (.v (.string s))) (hy : look l y = some (.v (.string r))) : Val P n W σ l X ⟨d, .binOp .gtr t x y t', ty, pos, aft, g⟩ (.v (.bool (decide (ltB r s)))) := fun a w hs _ => by
  refine ⟨_, rfl, fun w' _ => ?_⟩
  have key : (!decide (s.data < r.data) && !s.data == r.data) = decide (r.data < s.data) := by
    rcases ltB_tri s r with h | rfl | h
    · have k : ¬ ltB r s := fun k => f1_ _ (gN_ h k)
      rw [decide_eq_true (show s.data < r.data from h), decide_eq_false (show ¬ r.data < s.data from k)]
      rfl
    · rw [decide_eq_false (show ¬ s.data < s.data from f1_ s)]
      simp
    · have k : ¬ ltB s r := fun k => f1_ _ (gN_ h k)
      have k2 : ¬ s.data = r.data := fun e => by
        have : s = r := ek_ (congrArg Array.toList e)
        subst this
        exact f1_ _ h
      rw [decide_eq_false (show ¬ s.data < r.data from k), decide_eq_true (show r.data < s.data from h)]
      simp [k2]
  simp [execOp, hs.plain hx, hs.plain hy, eqGuard, binOp, Op.stringOp, Proofs.bytesLess_eq, Lib.toList_data, ltB, key]
end
abbrev st (s : ByteArray) : Abs := .v (.string s)
def ltrA (x : Ltr) : List Abs := [st x.name, int x.state, int x.amount, int x.due, st x.policy, st x.papers]
def entA (e : Ent) : List Abs := e.cells.map .v
abbrev ltrsA (l : List Ltr) : Abs := .sl 6 (l.map ltrA)
theorem bP_ (l : List Ltr) : ∀ c ∈ l.map ltrA, ones c = true := by
  intro c hc
  obtain ⟨o, _, rfl⟩ := List.mem_map.1 hc
  rfl
structure Lg where
  seq : Int
  total : Int
  ls : List Ltr
  os : List Oc
def Lg.abs (l : Lg) : List Abs := [int l.seq, int l.total, ltrsA l.ls, outA l.os]
def Lg.zero : Lg := ⟨0, 0, [], []⟩
abbrev eqL (s : ByteArray) (x : Ltr) : Bool := decide (x.name = s)
abbrev gtL (s : ByteArray) (x : Ltr) : Bool := decide (ltB s x.name)
abbrev eqO (k : Int) (o : Oc) : Bool := decide (o.client = k)
abbrev gtO (k : Int) (o : Oc) : Bool := decide (k < o.client)
def Lg.find (l : Lg) (s : ByteArray) : Option Ltr := l.ls.find? (eqL s)
def Lg.last (l : Lg) (k : Int) : Option Oc := l.os.find? (eqO k)
def Lg.told (l : Lg) (o : Oc) : Lg := { l with os := withG (eqO o.client) (gtO o.client) o l.os }
def Lg.putL (l : Lg) (x : Ltr) : Lg := { l with ls := withG (eqL x.name) (gtL x.name) x l.ls }
def Lg.with_ (l : Lg) (x : Ltr) : Lg × Int := if nameB x.name = false then (Lg.zero, 7) else if 16 < (l.putL x).ls.length then (Lg.zero, 11) else (l.putL x, 0)
def Lg.stale (l : Lg) (c : Core) : Bool := match l.last c.client with
  | some o => decide (c.stamp ≤ o.stamp)
  | none => false
def Lg.old (l : Lg) (s : ByteArray) : Ltr := (l.find s).getD Ltr.none
def Lg.known (l : Lg) (c : Core) : Int := if (l.find c.letter).isNone = true ∧ c.op ≠ 1 then 7 else 0
def polB (x : Ltr) (c : Core) : ByteArray := if c.op = 1 then c.text else x.policy
def endorsedF (x : Ltr) (e : Ent) (n : Int) : Int := if (parseF (tx (polB x e.core)) n).2 ≠ 0 then 2 else if (parseF (tx (polB x e.core)) n).1.holds (BitVec.ofNat 32 e.mask) = false then 9 else 0
def Lg.stepped (l : Lg) (x : Ltr) (c : Core) : Lg × Int :=
  if (x.step c.op c.a c.b c.text).2 ≠ 0 then (l, (x.step c.op c.a c.b c.text).2)
  else if (l.with_ { (x.step c.op c.a c.b c.text).1 with name := c.letter }).2 ≠ 0 then (l, (l.with_ { (x.step c.op c.a c.b c.text).1 with name := c.letter }).2)
  else if c.op ≠ 7 then ((l.with_ { (x.step c.op c.a c.b c.text).1 with name := c.letter }).1, 0)
  else if (amtAdd l.total (x.step c.op c.a c.b c.text).1.amount).2 ≠ 0 then (l, 6)
  else ({ (l.with_ { (x.step c.op c.a c.b c.text).1 with name := c.letter }).1 with total := (amtAdd l.total (x.step c.op c.a c.b c.text).1.amount).1 }, 0)
def Lg.res (l : Lg) (e : Ent) (n : Int) : Lg × Int :=
  if l.known e.core ≠ 0 then (l, l.known e.core) else if endorsedF (l.old e.core.letter) e n ≠ 0 then (l, endorsedF (l.old e.core.letter) e n) else l.stepped (l.old e.core.letter) e.core
def Lg.doF (l : Lg) (e : Ent) (n : Int) : Lg × Int :=
  if l.stale e.core = true then (l, 10) else if e.core.check n ≠ 0 then (l, e.core.check n) else ((l.res e n).1.told ⟨e.core.client, e.core.stamp, (l.res e n).2⟩, (l.res e n).2)
def Lg.goes (n : Int) (l : Lg) : List Ent → Lg × List Int
  | [] => (l, [])
  | e :: es => ((Lg.goes n (l.doF e n).1 es).1, (l.doF e n).2 :: (Lg.goes n (l.doF e n).1 es).2)
def Lg.foldF (l : Lg) (es : List Ent) (n : Int) : Lg × List Int := ({ (Lg.goes n l es).1 with seq := (Lg.goes n l es).1.seq + 1 }, (Lg.goes n l es).2)
structure Lg.Wf (l : Lg) : Prop where
  seq : i64ok l.seq
  total : i64ok l.total
  ls : ∀ x ∈ l.ls, x.Wf
theorem eH_ : Ltr.none.Wf := ⟨by show _ ∧ _; decide, by show _ ∧ _; decide, by show _ ∧ _; decide⟩
theorem Lg.old_wf {l : Lg} (h : l.Wf) (s : ByteArray) : (l.old s).Wf := by
  unfold Lg.old Lg.find
  cases hf : l.ls.find? (eqL s) with
  | none => exact eH_
  | some x => exact h.ls x (gX_ hf).1
end Go.Proofs.YtickdhjljpnlpaaGreatDoor.A
namespace Go.Proofs.YtickdhjljpnlpaaGreatDoor
open Go.RowKit
theorem hw_ (w : World) (l : Ltr) (a b : Int) (text : ByteArray) :
    Calls Tryz.prog 112 #[.agg l.cells, .int .i64 a, .int .i64 b, .string text] w fun e w' => e = .returned (.tuple #[.agg (l.apply a b text).1.cells, .int .i64 (l.apply a b text).2]) ∧ Ext [] w w' := by
  by_cases h1 : a < 1
  · rw [show l.apply a b text = (l, 5) by simp [Ltr.apply, h1]]
    change Calls Tryz.prog 112 #[.agg #[.string l.name, .int .i64 l.state, .int .i64 l.amount, .int .i64 l.due, .string l.policy, .string l.papers], .int .i64 a, .int .i64 b, .string text] w _
    go_enter Tryz.func112, Tryz.ntmps112
    go_wp2
    exact bodyPost_ret (N_ rfl _ _ (w.heap.size + 1) _ _ _ _ rfl (heap_alloc2_new _ _ _) Tryz.underlying81 rfl (by kernel_rfl)) rfl ⟨rfl, ((Ext.refl _).alloc _).alloc _⟩
  by_cases h2 : 1099511627776 < a
  · rw [show l.apply a b text = (l, 6) by simp [Ltr.apply, h1, isAmt]; omega]
    change Calls Tryz.prog 112 #[.agg #[.string l.name, .int .i64 l.state, .int .i64 l.amount, .int .i64 l.due, .string l.policy, .string l.papers], .int .i64 a, .int .i64 b, .string text] w _
    go_enter Tryz.func112, Tryz.ntmps112
    go_wp2
    exact bodyPost_ret (N_ rfl _ _ (w.heap.size + 1) _ _ _ _ rfl (heap_alloc2_new _ _ _) Tryz.underlying81 rfl (by kernel_rfl)) rfl ⟨rfl, ((Ext.refl _).alloc _).alloc _⟩
  have h2' : isAmt a = true := aX_ (by omega) (by omega)
  cases h3 : isAmt b
  · rw [show l.apply a b text = (l, 5) by simp [Ltr.apply, h2', h3]]
    have H3 := Lib.hid h3; clear h3 h2'
    change Calls Tryz.prog 112 #[.agg #[.string l.name, .int .i64 l.state, .int .i64 l.amount, .int .i64 l.due, .string l.policy, .string l.papers], .int .i64 a, .int .i64 b, .string text] w _
    go_enter Tryz.func112, Tryz.ntmps112
    go_wp2_with (go_at_call 56; with_reducible refine (bx_ b _ H3.out _).mono ?_; rintro e _ ⟨rfl, rfl⟩)
    exact bodyPost_ret (N_ rfl _ _ (w.heap.size + 1) _ _ _ _ rfl (heap_alloc2_new _ _ _) Tryz.underlying81 rfl (by kernel_rfl)) rfl ⟨rfl, ((Ext.refl _).alloc _).alloc _⟩
  · rw [show l.apply a b text = (⟨l.name, 0, a, b, text, ByteArray.empty⟩, 0) by simp [Ltr.apply, h1, h2', h3]]
    have H3 := Lib.hid h3; clear h3 h2'
    change Calls Tryz.prog 112 #[.agg #[.string l.name, .int .i64 l.state, .int .i64 l.amount, .int .i64 l.due, .string l.policy, .string l.papers], .int .i64 a, .int .i64 b, .string text] w _
    go_enter Tryz.func112, Tryz.ntmps112
    go_wp2_with (go_at_call 56; with_reducible refine (bx_ b _ H3.out _).mono ?_; rintro e _ ⟨rfl, rfl⟩)
    exact bodyPost_ret (N_ rfl _ _ (w.heap.size + 1) _ _ _ _ rfl (heap_alloc2_new _ _ _) Tryz.underlying81 rfl (by kernel_rfl)) rfl ⟨rfl, ((Ext.refl _).alloc _).alloc _⟩
theorem hy_ (w : World) (l : Ltr) (a b : Int) (hl : i64ok l.amount) (ha : i64ok a) :
    Calls Tryz.prog 113 #[.agg l.cells, .int .i64 a, .int .i64 b] w fun e w' => e = .returned (.tuple #[.agg (l.amend a b).1.cells, .int .i64 (l.amend a b).2]) ∧ Ext [] w w' := by
  obtain ⟨a0, a1⟩ := ha
  obtain ⟨l0, l1⟩ := hl
  by_cases he : (amtChange l.amount a).2 = 0
  · have hb : ((amtChange l.amount a).2 != 0) = false := by simp [he]
    by_cases hv : (amtChange l.amount a).1 = 0
    · rw [show l.amend a b = (l, 5) by simp [Ltr.amend, he, hv]]
      have hvb : ((amtChange l.amount a).1 == 0) = true := by simp [hv]
      clear he hv
      change Calls Tryz.prog 113 #[.agg #[.string l.name, .int .i64 l.state, .int .i64 l.amount, .int .i64 l.due, .string l.policy, .string l.papers], .int .i64 a, .int .i64 b] w _
      go_enter Tryz.func113, Tryz.ntmps113
      go_wp2_with (go_at_call 114; refine (by_ _ _ _ l0 l1 a0 a1).mono ?_; rintro e _ ⟨rfl, rfl⟩)
      exact bodyPost_ret (N_ rfl _ _ (w.heap.size + 1) _ _ _ _ rfl (heap_alloc2_new _ _ _) Tryz.underlying81 rfl (by kernel_rfl)) rfl ⟨rfl, ((Ext.refl _).alloc _).alloc _⟩
    · have hvb : ((amtChange l.amount a).1 == 0) = false := by simpa using hv
      cases hd : isAmt b
      · rw [show l.amend a b = (l, 5) by simp [Ltr.amend, he, hd]]
        have HD := Lib.hid hd
        clear he hv hd
        change Calls Tryz.prog 113 #[.agg #[.string l.name, .int .i64 l.state, .int .i64 l.amount, .int .i64 l.due, .string l.policy, .string l.papers], .int .i64 a, .int .i64 b] w _
        go_enter Tryz.func113, Tryz.ntmps113
        go_wp2_with (first
          | (go_at_call 114; refine (by_ _ _ _ l0 l1 a0 a1).mono ?_; rintro e _ ⟨rfl, rfl⟩)
          | (go_at_call 56; with_reducible refine (bx_ b _ HD.out _).mono ?_; rintro e _ ⟨rfl, rfl⟩))
        exact bodyPost_ret (N_ rfl _ _ (w.heap.size + 1) _ _ _ _ rfl (heap_alloc2_new _ _ _) Tryz.underlying81 rfl (by kernel_rfl)) rfl ⟨rfl, ((Ext.refl _).alloc _).alloc _⟩
      · by_cases h0 : b = 0
        · subst h0
          rw [show l.amend a 0 = ({ l with amount := (amtChange l.amount a).1 }, 0) by simp [Ltr.amend, he, hd, hv]]
          have HD := Lib.hid hd
          clear he hv hd
          change Calls Tryz.prog 113 #[.agg #[.string l.name, .int .i64 l.state, .int .i64 l.amount, .int .i64 l.due, .string l.policy, .string l.papers], .int .i64 a, .int .i64 0] w _
          go_enter Tryz.func113, Tryz.ntmps113
          go_wp2_with (first
            | (go_at_call 114; refine (by_ _ _ _ l0 l1 a0 a1).mono ?_; rintro e _ ⟨rfl, rfl⟩)
            | (go_at_call 56; with_reducible refine (bx_ 0 _ HD.out _).mono ?_; rintro e _ ⟨rfl, rfl⟩))
          exact bodyPost_ret (N_ rfl _ _ (w.heap.size + 1) _ _ _ _ rfl (heap_alloc2_new _ _ _) Tryz.underlying81 rfl (by kernel_rfl)) rfl ⟨rfl, ((Ext.refl _).alloc _).alloc _⟩
        · have h0b : (b != 0) = true := by simpa using h0
          rw [show l.amend a b = ({ l with amount := (amtChange l.amount a).1, due := b }, 0) by simp [Ltr.amend, he, hd, hv, h0]]
          have HD := Lib.hid hd
          clear he hv hd h0
          change Calls Tryz.prog 113 #[.agg #[.string l.name, .int .i64 l.state, .int .i64 l.amount, .int .i64 l.due, .string l.policy, .string l.papers], .int .i64 a, .int .i64 b] w _
          go_enter Tryz.func113, Tryz.ntmps113
          go_wp2_with (first
            | (go_at_call 114; refine (by_ _ _ _ l0 l1 a0 a1).mono ?_; rintro e _ ⟨rfl, rfl⟩)
            | (go_at_call 56; with_reducible refine (bx_ b _ HD.out _).mono ?_; rintro e _ ⟨rfl, rfl⟩))
          exact bodyPost_ret (N_ rfl _ _ (w.heap.size + 1) _ _ _ _ rfl (heap_alloc2_new _ _ _) Tryz.underlying81 rfl (by kernel_rfl)) rfl ⟨rfl, ((Ext.refl _).alloc _).alloc _⟩
  · have hb : ((amtChange l.amount a).2 != 0) = true := by simpa using he
    rw [show l.amend a b = (l, (amtChange l.amount a).2) by simp [Ltr.amend, he]]
    clear he
    change Calls Tryz.prog 113 #[.agg #[.string l.name, .int .i64 l.state, .int .i64 l.amount, .int .i64 l.due, .string l.policy, .string l.papers], .int .i64 a, .int .i64 b] w _
    go_enter Tryz.func113, Tryz.ntmps113
    go_wp2_with (go_at_call 114; refine (by_ _ _ _ l0 l1 a0 a1).mono ?_; rintro e _ ⟨rfl, rfl⟩)
    exact bodyPost_ret (N_ rfl _ _ (w.heap.size + 1) _ _ _ _ rfl (heap_alloc2_new _ _ _) Tryz.underlying81 rfl (by kernel_rfl)) rfl ⟨rfl, ((Ext.refl _).alloc _).alloc _⟩
set_option maxHeartbeats 2000000 in
theorem jj_ (w : World) (l : Ltr) (op a b : Int) (text : ByteArray) (hl : l.Wf) (ha : i64ok a) (ht : text.size ≤ 9223372036854775807) :
    Calls Tryz.prog 90 #[.agg l.cells, .int .i64 op, .int .i64 a, .int .i64 b, .string text] w fun e w' => e = .returned (.tuple #[.agg (l.step op a b text).1.cells, .int .i64 (l.step op a b text).2]) ∧ Ext [] w w' := by
  by_cases h1 : op < 1
  · rw [show l.step op a b text = (Ltr.none, 1) by simp [Ltr.step, h1]]
    change Calls Tryz.prog 90 #[.agg #[.string l.name, .int .i64 l.state, .int .i64 l.amount, .int .i64 l.due, .string l.policy, .string l.papers], .int .i64 op, .int .i64 a, .int .i64 b, .string text] w _
    go_enter Tryz.func90, Tryz.ntmps90
    go_wp2_with (go_at_call 111; refine (aA_ _ _ _).mono ?_; rintro e _ ⟨rfl, rfl⟩)
    exact bodyPost_ret (N_ rfl _ _ (w.heap.size + 1) _ _ _ _ rfl (heap_alloc2_new _ _ _) Tryz.underlying81 rfl (by kernel_rfl)) rfl ⟨rfl, ((Ext.refl _).alloc _).alloc _⟩
  by_cases h2 : 9 < op
  · rw [show l.step op a b text = (Ltr.none, 1) by simp [Ltr.step, h2]]
    change Calls Tryz.prog 90 #[.agg #[.string l.name, .int .i64 l.state, .int .i64 l.amount, .int .i64 l.due, .string l.policy, .string l.papers], .int .i64 op, .int .i64 a, .int .i64 b, .string text] w _
    go_enter Tryz.func90, Tryz.ntmps90
    go_wp2_with (go_at_call 111; refine (aA_ _ _ _).mono ?_; rintro e _ ⟨rfl, rfl⟩)
    exact bodyPost_ret (N_ rfl _ _ (w.heap.size + 1) _ _ _ _ rfl (heap_alloc2_new _ _ _) Tryz.underlying81 rfl (by kernel_rfl)) rfl ⟨rfl, ((Ext.refl _).alloc _).alloc _⟩
  have h3 : ¬ (op < 1 ∨ 9 < op) := by omega
  by_cases hn : ltrNext l.state op = 0
  · rw [show l.step op a b text = (Ltr.none, 8) by simp only [Ltr.step, if_neg h3, if_pos hn]]
    have hnb : (ltrNext l.state op == 0) = true := by simp [hn]
    clear hn h3
    change Calls Tryz.prog 90 #[.agg #[.string l.name, .int .i64 l.state, .int .i64 l.amount, .int .i64 l.due, .string l.policy, .string l.papers], .int .i64 op, .int .i64 a, .int .i64 b, .string text] w _
    go_enter Tryz.func90, Tryz.ntmps90
    go_wp2_with (go_at_call 111; refine (aA_ _ _ _).mono ?_; rintro e _ ⟨rfl, rfl⟩)
    exact bodyPost_ret (N_ rfl _ _ (w.heap.size + 1) _ _ _ _ rfl (heap_alloc2_new _ _ _) Tryz.underlying81 rfl (by kernel_rfl)) rfl ⟨rfl, ((Ext.refl _).alloc _).alloc _⟩
  have hs : l.step op a b text = if (l.does op a b text).2 ≠ 0 then (Ltr.none, (l.does op a b text).2) else ({ (l.does op a b text).1 with state := ltrNext l.state op }, 0) := by
    simp only [Ltr.step, if_neg h3, if_neg hn]
  have hnb : (ltrNext l.state op == 0) = false := by simpa using hn
  rw [hs]
  clear hs hn
  have : op = 1 ∨ op = 2 ∨ op = 3 ∨ op = 4 ∨ op = 5 ∨ op = 6 ∨ op = 7 ∨ op = 8 ∨ op = 9 := by omega
  clear h1 h2 h3
  have HB : Hid (LtrAt ((w.alloc (.cells l.cells 81)).alloc (.cells Ltr.none.cells 81)) w.heap.size l) := Blk.alloc (Blk.new _ _ _) _
  have HR : Hid (LtrAt ((w.alloc (.cells l.cells 81)).alloc (.cells Ltr.none.cells 81)) (w.heap.size + 1) Ltr.none) := by
    have := Blk.new (w.alloc (.cells l.cells 81)) 81 Ltr.none.cells
    rw [World.size_alloc] at this
    exact this
  have hx : Ext [] w ((w.alloc (.cells l.cells 81)).alloc (.cells Ltr.none.cells 81)) := ((Ext.refl _).alloc _).alloc _
  rcases this with rfl | rfl | rfl | rfl | rfl | rfl | rfl | rfl | rfl
  ·
    by_cases hs : 200 < text.size
    · rw [show l.does 1 a b text = (l, 3) by simp [Ltr.does, hs]]
      rw [if_pos (by simp)]
      change Calls Tryz.prog 90 #[.agg #[.string l.name, .int .i64 l.state, .int .i64 l.amount, .int .i64 l.due, .string l.policy, .string l.papers], .int .i64 1, .int .i64 a, .int .i64 b, .string text] w _
      go_enter Tryz.func90, Tryz.ntmps90
      go_wp2_with (go_at_call 111; refine (aA_ _ _ _).mono ?_; rintro e _ ⟨rfl, rfl⟩)
      exact bodyPost_ret (N_ rfl _ _ (w.heap.size + 1) _ _ _ _ rfl (heap_alloc2_new _ _ _) Tryz.underlying81 rfl (by kernel_rfl)) rfl ⟨rfl, ((Ext.refl _).alloc _).alloc _⟩
    · rw [show l.does 1 a b text = l.apply a b text by simp [Ltr.does, hs]]
      have hc := fun w2 => hw_ w2 l a b text
      generalize l.apply a b text = r at *
      obtain ⟨l2, e2⟩ := r
      dsimp only at *
      have HC := Lib.hid hc
      clear hc
      by_cases he : e2 = 0
      · subst he
        rw [if_neg (by simp)]
        change Calls Tryz.prog 90 #[.agg #[.string l.name, .int .i64 l.state, .int .i64 l.amount, .int .i64 l.due, .string l.policy, .string l.papers], .int .i64 1, .int .i64 a, .int .i64 b, .string text] w _
        go_enter Tryz.func90, Tryz.ntmps90
        go_wp2_with (first
          | (go_at_call 111; refine (aA_ _ _ _).mono ?_; rintro e _ ⟨rfl, rfl⟩)
          | ((with_reducible refine cj_ ⟨some 44, _, _, _, _, _⟩ ?_); refine wpList_load_row rfl _ _ rfl w.heap.size rfl _ _ _ _ HB.out Tryz.underlying81 rfl (by kernel_rfl) ?_)
          | (go_at_call 112; refine (HC.out _).mono ?_; rintro e w2 ⟨rfl, x2⟩; have hp2 := Lib.hid (Blk.ext HB.out x2 (by simp)); have hq2 := Lib.hid (Blk.ext HR.out x2 (by simp)))
          | ((with_reducible refine cj_ ⟨none, .store _ (.tmp 5) (.tmp 49), _, _, _, _⟩ ?_); refine am_ (p := w.heap.size) (l := l) hp2.out l2 rfl _ _ rfl rfl rfl ?_; intro w3 hw3 x3; have g1 := hw3.c1; have f1 := hw3.frozen 1; have h4 := Lib.hid (hw3.setState (ltrNext l.state 1)); have h5 := Lib.hid (Blk.far (Blk.ext hq2.out x3 (by simp)) (p := ⟨w.heap.size, 1, none⟩) (by simp) (.int .i64 (ltrNext l.state 1))))
          | ((with_reducible refine cj_ ⟨some 93, _, _, _, _, _⟩ ?_); refine wpList_load_row rfl _ _ rfl w.heap.size rfl _ _ _ _ h4.out Tryz.underlying81 rfl (by kernel_rfl) ?_)
          | ((with_reducible refine cj_ ⟨none, .store _ (.tmp 10) (.tmp 93), _, _, _, _⟩ ?_); refine am_ (p := w.heap.size + 1) (l := Ltr.none) h5.out { l2 with state := ltrNext l.state 1 } rfl _ _ rfl rfl rfl ?_; intro w5 hw5 x5))
        exact bodyPost_ret (N_ rfl _ _ (w.heap.size + 1) _ _ _ _ rfl hw5 Tryz.underlying81 rfl (by kernel_rfl)) rfl ⟨rfl, hx.trans (((x2.app x3).setCell (by simp) _).app x5) (by simp)⟩
      · have heb : (e2 != 0) = true := by simpa using he
        rw [if_pos he]
        clear he
        change Calls Tryz.prog 90 #[.agg #[.string l.name, .int .i64 l.state, .int .i64 l.amount, .int .i64 l.due, .string l.policy, .string l.papers], .int .i64 1, .int .i64 a, .int .i64 b, .string text] w _
        go_enter Tryz.func90, Tryz.ntmps90
        go_wp2_with (first
          | (go_at_call 111; refine (aA_ _ _ _).mono ?_; rintro e _ ⟨rfl, rfl⟩)
          | ((with_reducible refine cj_ ⟨some 44, _, _, _, _, _⟩ ?_); refine wpList_load_row rfl _ _ rfl w.heap.size rfl _ _ _ _ HB.out Tryz.underlying81 rfl (by kernel_rfl) ?_)
          | (go_at_call 112; refine (HC.out _).mono ?_; rintro e w2 ⟨rfl, x2⟩; have hp2 := Lib.hid (Blk.ext HB.out x2 (by simp)); have hq2 := Lib.hid (Blk.ext HR.out x2 (by simp)))
          | ((with_reducible refine cj_ ⟨none, .store _ (.tmp 5) (.tmp 49), _, _, _, _⟩ ?_); refine am_ (p := w.heap.size) (l := l) hp2.out l2 rfl _ _ rfl rfl rfl ?_; intro w3 hw3 x3; have g1 := hw3.c1; have f1 := hw3.frozen 1; have h4 := Lib.hid (hw3.setState (ltrNext l.state 1)); have h5 := Lib.hid (Blk.far (Blk.ext hq2.out x3 (by simp)) (p := ⟨w.heap.size, 1, none⟩) (by simp) (.int .i64 (ltrNext l.state 1))))
          | ((with_reducible refine cj_ ⟨none, .store _ (.tmp 10) (.tmp 89), _, _, _, _⟩ ?_); refine am_ (p := w.heap.size + 1) (l := Ltr.none) (Blk.ext hq2.out x3 (by simp)) Ltr.none rfl _ _ rfl rfl rfl ?_; intro w5 hw5 x5))
        exact bodyPost_ret (N_ rfl _ _ (w.heap.size + 1) _ _ _ _ rfl hw5 Tryz.underlying81 rfl (by kernel_rfl)) rfl ⟨rfl, hx.trans ((x2.app x3).app x5) (by simp)⟩
  ·
    rw [show l.does 2 a b text = (l, 0) by simp [Ltr.does]]
    rw [if_neg (by simp)]
    change Calls Tryz.prog 90 #[.agg #[.string l.name, .int .i64 l.state, .int .i64 l.amount, .int .i64 l.due, .string l.policy, .string l.papers], .int .i64 2, .int .i64 a, .int .i64 b, .string text] w _
    go_enter Tryz.func90, Tryz.ntmps90
    go_wp2_with (go_at_call 111; refine (aA_ _ _ _).mono ?_; rintro e _ ⟨rfl, rfl⟩)
    exact bodyPost_ret (N_ rfl _ _ (w.heap.size + 1) _ _ _ _ rfl (heap_alloc2_new _ _ _) Tryz.underlying81 rfl (by kernel_rfl)) rfl ⟨rfl, ((Ext.refl _).alloc _).alloc _⟩
  ·
    rw [show l.does 3 a b text = l.amend a b by simp [Ltr.does]]
    have hc := fun w2 => hy_ w2 l a b hl.amount ha
    generalize l.amend a b = r at *
    obtain ⟨l2, e2⟩ := r
    dsimp only at *
    have HC := Lib.hid hc
    clear hc
    by_cases he : e2 = 0
    · subst he
      rw [if_neg (by simp)]
      change Calls Tryz.prog 90 #[.agg #[.string l.name, .int .i64 l.state, .int .i64 l.amount, .int .i64 l.due, .string l.policy, .string l.papers], .int .i64 3, .int .i64 a, .int .i64 b, .string text] w _
      go_enter Tryz.func90, Tryz.ntmps90
      go_wp2_with (first
        | (go_at_call 111; refine (aA_ _ _ _).mono ?_; rintro e _ ⟨rfl, rfl⟩)
        | ((with_reducible refine cj_ ⟨some 55, _, _, _, _, _⟩ ?_); refine wpList_load_row rfl _ _ rfl w.heap.size rfl _ _ _ _ HB.out Tryz.underlying81 rfl (by kernel_rfl) ?_)
        | (go_at_call 113; refine (HC.out _).mono ?_; rintro e w2 ⟨rfl, x2⟩; have hp2 := Lib.hid (Blk.ext HB.out x2 (by simp)); have hq2 := Lib.hid (Blk.ext HR.out x2 (by simp)))
        | ((with_reducible refine cj_ ⟨none, .store _ (.tmp 5) (.tmp 59), _, _, _, _⟩ ?_); refine am_ (p := w.heap.size) (l := l) hp2.out l2 rfl _ _ rfl rfl rfl ?_; intro w3 hw3 x3; have g1 := hw3.c1; have f1 := hw3.frozen 1; have h4 := Lib.hid (hw3.setState (ltrNext l.state 3)); have h5 := Lib.hid (Blk.far (Blk.ext hq2.out x3 (by simp)) (p := ⟨w.heap.size, 1, none⟩) (by simp) (.int .i64 (ltrNext l.state 3))))
        | ((with_reducible refine cj_ ⟨some 93, _, _, _, _, _⟩ ?_); refine wpList_load_row rfl _ _ rfl w.heap.size rfl _ _ _ _ h4.out Tryz.underlying81 rfl (by kernel_rfl) ?_)
        | ((with_reducible refine cj_ ⟨none, .store _ (.tmp 10) (.tmp 93), _, _, _, _⟩ ?_); refine am_ (p := w.heap.size + 1) (l := Ltr.none) h5.out { l2 with state := ltrNext l.state 3 } rfl _ _ rfl rfl rfl ?_; intro w5 hw5 x5))
      exact bodyPost_ret (N_ rfl _ _ (w.heap.size + 1) _ _ _ _ rfl hw5 Tryz.underlying81 rfl (by kernel_rfl)) rfl ⟨rfl, hx.trans (((x2.app x3).setCell (by simp) _).app x5) (by simp)⟩
    · have heb : (e2 != 0) = true := by simpa using he
      rw [if_pos he]
      clear he
      change Calls Tryz.prog 90 #[.agg #[.string l.name, .int .i64 l.state, .int .i64 l.amount, .int .i64 l.due, .string l.policy, .string l.papers], .int .i64 3, .int .i64 a, .int .i64 b, .string text] w _
      go_enter Tryz.func90, Tryz.ntmps90
      go_wp2_with (first
        | (go_at_call 111; refine (aA_ _ _ _).mono ?_; rintro e _ ⟨rfl, rfl⟩)
        | ((with_reducible refine cj_ ⟨some 55, _, _, _, _, _⟩ ?_); refine wpList_load_row rfl _ _ rfl w.heap.size rfl _ _ _ _ HB.out Tryz.underlying81 rfl (by kernel_rfl) ?_)
        | (go_at_call 113; refine (HC.out _).mono ?_; rintro e w2 ⟨rfl, x2⟩; have hp2 := Lib.hid (Blk.ext HB.out x2 (by simp)); have hq2 := Lib.hid (Blk.ext HR.out x2 (by simp)))
        | ((with_reducible refine cj_ ⟨none, .store _ (.tmp 5) (.tmp 59), _, _, _, _⟩ ?_); refine am_ (p := w.heap.size) (l := l) hp2.out l2 rfl _ _ rfl rfl rfl ?_; intro w3 hw3 x3; have g1 := hw3.c1; have f1 := hw3.frozen 1; have h4 := Lib.hid (hw3.setState (ltrNext l.state 3)); have h5 := Lib.hid (Blk.far (Blk.ext hq2.out x3 (by simp)) (p := ⟨w.heap.size, 1, none⟩) (by simp) (.int .i64 (ltrNext l.state 3))))
        | ((with_reducible refine cj_ ⟨none, .store _ (.tmp 10) (.tmp 89), _, _, _, _⟩ ?_); refine am_ (p := w.heap.size + 1) (l := Ltr.none) (Blk.ext hq2.out x3 (by simp)) Ltr.none rfl _ _ rfl rfl rfl ?_; intro w5 hw5 x5))
      exact bodyPost_ret (N_ rfl _ _ (w.heap.size + 1) _ _ _ _ rfl hw5 Tryz.underlying81 rfl (by kernel_rfl)) rfl ⟨rfl, hx.trans ((x2.app x3).app x5) (by simp)⟩
  ·
    by_cases hs : 200 < text.size
    · rw [show l.does 4 a b text = (l, 3) by simp [Ltr.does, hs]]
      rw [if_pos (by simp)]
      change Calls Tryz.prog 90 #[.agg #[.string l.name, .int .i64 l.state, .int .i64 l.amount, .int .i64 l.due, .string l.policy, .string l.papers], .int .i64 4, .int .i64 a, .int .i64 b, .string text] w _
      go_enter Tryz.func90, Tryz.ntmps90
      go_wp2_with (go_at_call 111; refine (aA_ _ _ _).mono ?_; rintro e _ ⟨rfl, rfl⟩)
      exact bodyPost_ret (N_ rfl _ _ (w.heap.size + 1) _ _ _ _ rfl (heap_alloc2_new _ _ _) Tryz.underlying81 rfl (by kernel_rfl)) rfl ⟨rfl, ((Ext.refl _).alloc _).alloc _⟩
    · rw [show l.does 4 a b text = ({ l with papers := text }, 0) by simp [Ltr.does, hs]]
      rw [if_neg (by simp)]
      change Calls Tryz.prog 90 #[.agg #[.string l.name, .int .i64 l.state, .int .i64 l.amount, .int .i64 l.due, .string l.policy, .string l.papers], .int .i64 4, .int .i64 a, .int .i64 b, .string text] w _
      go_enter Tryz.func90, Tryz.ntmps90
      go_wp2_with (go_at_call 111; refine (aA_ _ _ _).mono ?_; rintro e _ ⟨rfl, rfl⟩)
      exact bodyPost_ret (N_ rfl _ _ (w.heap.size + 1) _ _ _ _ rfl (heap_alloc2_new _ _ _) Tryz.underlying81 rfl (by kernel_rfl)) rfl ⟨rfl, ((Ext.refl _).alloc _).alloc _⟩
  ·
    rw [show l.does 5 a b text = (l, 0) by simp [Ltr.does]]
    rw [if_neg (by simp)]
    change Calls Tryz.prog 90 #[.agg #[.string l.name, .int .i64 l.state, .int .i64 l.amount, .int .i64 l.due, .string l.policy, .string l.papers], .int .i64 5, .int .i64 a, .int .i64 b, .string text] w _
    go_enter Tryz.func90, Tryz.ntmps90
    go_wp2_with (go_at_call 111; refine (aA_ _ _ _).mono ?_; rintro e _ ⟨rfl, rfl⟩)
    exact bodyPost_ret (N_ rfl _ _ (w.heap.size + 1) _ _ _ _ rfl (heap_alloc2_new _ _ _) Tryz.underlying81 rfl (by kernel_rfl)) rfl ⟨rfl, ((Ext.refl _).alloc _).alloc _⟩
  ·
    rw [show l.does 6 a b text = ({ l with papers := ByteArray.empty }, 0) by simp [Ltr.does]]
    rw [if_neg (by simp)]
    change Calls Tryz.prog 90 #[.agg #[.string l.name, .int .i64 l.state, .int .i64 l.amount, .int .i64 l.due, .string l.policy, .string l.papers], .int .i64 6, .int .i64 a, .int .i64 b, .string text] w _
    go_enter Tryz.func90, Tryz.ntmps90
    go_wp2_with (go_at_call 111; refine (aA_ _ _ _).mono ?_; rintro e _ ⟨rfl, rfl⟩)
    exact bodyPost_ret (N_ rfl _ _ (w.heap.size + 1) _ _ _ _ rfl (heap_alloc2_new _ _ _) Tryz.underlying81 rfl (by kernel_rfl)) rfl ⟨rfl, ((Ext.refl _).alloc _).alloc _⟩
  ·
    rw [show l.does 7 a b text = (l, 0) by simp [Ltr.does]]
    rw [if_neg (by simp)]
    change Calls Tryz.prog 90 #[.agg #[.string l.name, .int .i64 l.state, .int .i64 l.amount, .int .i64 l.due, .string l.policy, .string l.papers], .int .i64 7, .int .i64 a, .int .i64 b, .string text] w _
    go_enter Tryz.func90, Tryz.ntmps90
    go_wp2_with (go_at_call 111; refine (aA_ _ _ _).mono ?_; rintro e _ ⟨rfl, rfl⟩)
    exact bodyPost_ret (N_ rfl _ _ (w.heap.size + 1) _ _ _ _ rfl (heap_alloc2_new _ _ _) Tryz.underlying81 rfl (by kernel_rfl)) rfl ⟨rfl, ((Ext.refl _).alloc _).alloc _⟩
  ·
    cases hd : isAmt a
    · rw [show l.does 8 a b text = (l, 5) by simp [Ltr.does, Ltr.expire, hd]]
      rw [if_pos (by simp)]
      have HD := Lib.hid hd; clear hd
      change Calls Tryz.prog 90 #[.agg #[.string l.name, .int .i64 l.state, .int .i64 l.amount, .int .i64 l.due, .string l.policy, .string l.papers], .int .i64 8, .int .i64 a, .int .i64 b, .string text] w _
      go_enter Tryz.func90, Tryz.ntmps90
      go_wp2_with (first
        | (go_at_call 111; refine (aA_ _ _ _).mono ?_; rintro e _ ⟨rfl, rfl⟩)
        | (go_at_call 56; with_reducible refine (bx_ a _ HD.out _).mono ?_; rintro e _ ⟨rfl, rfl⟩))
      exact bodyPost_ret (N_ rfl _ _ (w.heap.size + 1) _ _ _ _ rfl (heap_alloc2_new _ _ _) Tryz.underlying81 rfl (by kernel_rfl)) rfl ⟨rfl, ((Ext.refl _).alloc _).alloc _⟩
    · by_cases hlt : a < l.due
      · rw [show l.does 8 a b text = (l, 8) by simp [Ltr.does, Ltr.expire, hd, hlt]]
        rw [if_pos (by simp)]
        have HD := Lib.hid hd; clear hd
        change Calls Tryz.prog 90 #[.agg #[.string l.name, .int .i64 l.state, .int .i64 l.amount, .int .i64 l.due, .string l.policy, .string l.papers], .int .i64 8, .int .i64 a, .int .i64 b, .string text] w _
        go_enter Tryz.func90, Tryz.ntmps90
        go_wp2_with (first
          | (go_at_call 111; refine (aA_ _ _ _).mono ?_; rintro e _ ⟨rfl, rfl⟩)
          | (go_at_call 56; with_reducible refine (bx_ a _ HD.out _).mono ?_; rintro e _ ⟨rfl, rfl⟩))
        exact bodyPost_ret (N_ rfl _ _ (w.heap.size + 1) _ _ _ _ rfl (heap_alloc2_new _ _ _) Tryz.underlying81 rfl (by kernel_rfl)) rfl ⟨rfl, ((Ext.refl _).alloc _).alloc _⟩
      · rw [show l.does 8 a b text = (l, 0) by simp [Ltr.does, Ltr.expire, hd, hlt]]
        rw [if_neg (by simp)]
        have HD := Lib.hid hd; clear hd
        change Calls Tryz.prog 90 #[.agg #[.string l.name, .int .i64 l.state, .int .i64 l.amount, .int .i64 l.due, .string l.policy, .string l.papers], .int .i64 8, .int .i64 a, .int .i64 b, .string text] w _
        go_enter Tryz.func90, Tryz.ntmps90
        go_wp2_with (first
          | (go_at_call 111; refine (aA_ _ _ _).mono ?_; rintro e _ ⟨rfl, rfl⟩)
          | (go_at_call 56; with_reducible refine (bx_ a _ HD.out _).mono ?_; rintro e _ ⟨rfl, rfl⟩))
        exact bodyPost_ret (N_ rfl _ _ (w.heap.size + 1) _ _ _ _ rfl (heap_alloc2_new _ _ _) Tryz.underlying81 rfl (by kernel_rfl)) rfl ⟨rfl, ((Ext.refl _).alloc _).alloc _⟩
  ·
    rw [show l.does 9 a b text = (l, 0) by simp [Ltr.does]]
    rw [if_neg (by simp)]
    change Calls Tryz.prog 90 #[.agg #[.string l.name, .int .i64 l.state, .int .i64 l.amount, .int .i64 l.due, .string l.policy, .string l.papers], .int .i64 9, .int .i64 a, .int .i64 b, .string text] w _
    go_enter Tryz.func90, Tryz.ntmps90
    go_wp2_with (go_at_call 111; refine (aA_ _ _ _).mono ?_; rintro e _ ⟨rfl, rfl⟩)
    exact bodyPost_ret (N_ rfl _ _ (w.heap.size + 1) _ _ _ _ rfl (heap_alloc2_new _ _ _) Tryz.underlying81 rfl (by kernel_rfl)) rfl ⟨rfl, ((Ext.refl _).alloc _).alloc _⟩
end Go.Proofs.YtickdhjljpnlpaaGreatDoor
namespace Go.Proofs.YtickdhjljpnlpaaGreatDoor.A
open Go.RowKit
section
variable {K : List Nat} {w : World} {vals : List Value}
theorem bz_ {us : List Value} (hv : reps K w (us.map .v) vals) : vals = us := aD_.1 hv
theorem kq_ {x : Ltr} : rep K w (.agg (ltrA x)) (.agg x.cells) := ⟨x.cells.toList, by simp, by
  have := (aD_ (K := K) (w := w) (us := x.cells.toList)).2 rfl
  exact this⟩
theorem iy_ {x : Ltr} {us : List Value} (hv : reps K w (.agg (ltrA x) :: us.map .v) vals) : vals = .agg x.cells :: us := by
  obtain ⟨v, us', rfl, ⟨cs, rfl, h1⟩, h2⟩ := hv
  have h1 : cs = x.cells.toList := aD_.1 (show reps K w (x.cells.toList.map .v) cs from h1)
  rw [h1, aD_.1 h2]
theorem iD_ {s : ByteArray} : Pure Tryz.prog 67 [st s] (boo (nameB s)) := Pure.of2 fun K w vals hK hv => by
  rw [bz_ (us := [.string s]) hv]
  exact (iE_ (enter2 w K)).mono fun e w' ⟨he, hm⟩ => ⟨_, he, leave2 hm (by simp), rfl⟩
theorem gw_ {s : ByteArray} (hs : s.size ≤ maxLen) : Pure Tryz.prog 55 [st s] (boo (nameB s)) := Pure.of2 fun K w vals hK hv => by
  rw [bz_ (us := [.string s]) hv]
  exact (gx_ (enter2 w K) hs).mono fun e w' ⟨he, hm⟩ => ⟨_, he, leave2 hm (by simp), rfl⟩
theorem lots_max : lots ≤ maxLen := of_decide_eq_true (by kernel_rfl)
theorem jY_ {s : ByteArray} (hs : s.size ≤ lots) : Pure Tryz.prog 55 [st s] (boo (nameB s)) := gw_ (Nat.le_trans hs lots_max)
theorem mis_s {a : Int} (h : i64ok a) : Pure Tryz.prog 81 [int a] (boo (isAmt a)) := Pure.of2 fun K w vals hK hv => by
  rw [bz_ (us := [.int .i64 a]) hv]
  exact (a9_ a _ rfl w h.1 h.2).mono fun e w' ⟨he, hw⟩ => by subst hw; exact ⟨_, he, Ext.refl _, rfl⟩
theorem rmis_s {a : Int} : Pure Tryz.prog 31 [int a] (boo (isAmt a)) := Pure.of2 fun K w vals hK hv => by
  rw [bz_ (us := [.int .i64 a]) hv]
  exact (bC_ a _ rfl w).mono fun e w' ⟨he, hw⟩ => by subst hw; exact ⟨_, he, Ext.refl _, rfl⟩
theorem rday_s {a : Int} : Pure Tryz.prog 56 [int a] (boo (isAmt a)) := Pure.of2 fun K w vals hK hv => by
  rw [bz_ (us := [.int .i64 a]) hv]
  exact (bx_ a _ rfl w).mono fun e w' ⟨he, hw⟩ => by subst hw; exact ⟨_, he, Ext.refl _, rfl⟩
theorem ie_ {a b : Int} : rep K w (.tup [int a, int b]) (.tuple #[.int .i64 a, .int .i64 b]) := ⟨[_, _], rfl, _, _, rfl, rfl, _, _, rfl, rfl, rfl⟩
theorem ix_ {a b : Int} (h : i64ok a) (h2 : i64ok b) : Pure Tryz.prog 104 [int a, int b] (.tup [int (amtAdd a b).1, int (amtAdd a b).2]) := Pure.of2 fun K w vals hK hv => by
  rw [bz_ (us := [.int .i64 a, .int .i64 b]) hv]
  exact (eI_ a b w h.1 h.2 h2.1 h2.2).mono fun e w' ⟨he, hw⟩ => by subst hw; exact ⟨_, he, Ext.refl _, ie_⟩
theorem rmadd_s {a b : Int} (h : i64ok a) (h2 : i64ok b) : Pure Tryz.prog 92 [int a, int b] (.tup [int (amtAdd a b).1, int (amtAdd a b).2]) := Pure.of2 fun K w vals hK hv => by
  rw [bz_ (us := [.int .i64 a, .int .i64 b]) hv]
  exact (j6_ a b w h.1 h.2 h2.1 h2.2).mono fun e w' ⟨he, hw⟩ => by subst hw; exact ⟨_, he, Ext.refl _, ie_⟩
theorem step_s {x : Ltr} {op a b : Int} {t : ByteArray} (hl : x.Wf) (ha : i64ok a) (ht : t.size ≤ 9223372036854775807) : Pure Tryz.prog 102 [.agg (ltrA x), int op, int a, int b, st t] (.tup [.agg (ltrA (x.step op a b t).1), int (x.step op a b t).2]) := Pure.of2 fun K w vals hK hv => by
  rw [iy_ (us := [.int .i64 op, .int .i64 a, .int .i64 b, .string t]) hv]
  exact (hH_ w x op a b t hl ha ht).mono fun e w' ⟨he, hw⟩ => ⟨_, he, hw, ⟨[_, _], rfl, _, _, rfl, kq_, _, _, rfl, rfl, rfl⟩⟩
theorem rstep_s {x : Ltr} {op a b : Int} {t : ByteArray} (hl : x.Wf) (ha : i64ok a) (ht : t.size ≤ 9223372036854775807) : Pure Tryz.prog 90 [.agg (ltrA x), int op, int a, int b, st t] (.tup [.agg (ltrA (x.step op a b t).1), int (x.step op a b t).2]) := Pure.of2 fun K w vals hK hv => by
  rw [iy_ (us := [.int .i64 op, .int .i64 a, .int .i64 b, .string t]) hv]
  exact (jj_ w x op a b t hl ha ht).mono fun e w' ⟨he, hw⟩ => ⟨_, he, hw, ⟨[_, _], rfl, _, _, rfl, kq_, _, _, rfl, rfl, rfl⟩⟩
end
def Rds (σ : Blks) : Prop := ∀ x ∈ σ, (∃ b t cs, x = .rd b t cs) ∨ ∃ c, x = .rdpc c
theorem Rds.reads {σ τ : Blks} (h : Rds τ) (hs : ∀ x ∈ τ, x ∈ σ) : Reads σ τ := by
  induction τ with
  | nil => exact .nil
  | cons x τ ih =>
    have h1 := ih (fun y hy => h y (List.mem_cons_of_mem _ hy)) (fun y hy => hs y (List.mem_cons_of_mem _ hy))
    have hx := hs x List.mem_cons_self
    rcases h x List.mem_cons_self with ⟨b, t, cs, rfl⟩ | ⟨c, rfl⟩
    · exact .rd hx h1
    · exact .rdpc hx h1
end Go.Proofs.YtickdhjljpnlpaaGreatDoor.A
