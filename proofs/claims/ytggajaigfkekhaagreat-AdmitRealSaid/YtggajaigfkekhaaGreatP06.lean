/-
  Packed out of the texts: Names, Cores, EntD, Batch1, Batch2.
-/
import Derived.Test.YtggajaigfkekhaaGreatP05
set_option maxRecDepth 100000
set_option linter.unusedSimpArgs false
set_option linter.unusedVariables false
namespace Go.Proofs.YtggajaigfkekhaaGreat
open Go.RowKit
def nameC (c : Nat) : Bool := (decide (97 ≤ c) && decide (c ≤ 122)) || (decide (48 ≤ c) && decide (c ≤ 57)) || decide (c = 45)
def nameB (s : ByteArray) : Bool := s.data.toList.all (fun c => nameC c.toNat) && decide (1 ≤ s.size) && decide (s.size ≤ 16)
section
variable {S : List (World × List Nat)} {σ τ : Blks} {ρ : List Dt} {w : World}
theorem gj_ {s : ByteArray} {k : Nat} (h : k < s.size) (hb : nameC (s[k]'h).toNat = false) : s.data.toList.all (fun c => nameC c.toNat) = false := by
  rw [List.all_eq_false]
  refine ⟨s[k]'h, ?_, by rw [hb]; decide⟩
  have : s[k]'h = s.data.toList[k]'(by simpa using h) := rfl
  rw [this]
  exact List.getElem_mem _
theorem g0_ {s : ByteArray} (hp : ∀ j (hj : j < s.size), nameC (s[j]'hj).toNat = true) : s.data.toList.all (fun c => nameC c.toNat) = true := by
  rw [List.all_eq_true]
  intro c hc
  obtain ⟨j, hj, rfl⟩ := List.getElem_of_mem hc
  exact hp j (by simpa using hj)
theorem odd_c {r : Nat} (hw : Mem S σ ρ w) : Calls Tryz.prog 162 #[.int .i32 r] w fun e w' => e = .returned (.bool (!nameC r)) ∧ Mem S σ ρ w' := by
  refine R_ [.int .i32 r] Tryz.func162 rfl Tryz.ntmps162 rfl (Mem S σ ρ) hw ?_
  refine d_ (a_ ?_)
  refine b_ (h_ rfl) rfl rfl ?_
  refine g_ (c_ ?_)
  refine d_ (a_ ?_)
  refine b_ (k_ rfl) rfl rfl ?_
  refine b_ (an_ rfl rfl) rfl rfl ?_
  refine b_ (k_ rfl) rfl rfl ?_
  refine z_ (t := 5) rfl ?_ ?_
  · intro hc5
    iterate 2 refine Y_ rfl rfl ?_
    refine b_ (F_ rfl rfl) rfl rfl ?_
    iterate 2 refine b_ (k_ rfl) rfl rfl ?_
    refine b_ (an_ rfl rfl) rfl rfl ?_
    refine b_ (k_ rfl) rfl rfl ?_
    refine z_ (t := 12) rfl ?_ ?_
    · intro hc12
      iterate 2 refine Y_ rfl rfl ?_
      refine b_ (F_ rfl rfl) rfl rfl ?_
      refine b_ (F_ rfl rfl) rfl rfl ?_
      iterate 2 refine b_ (k_ rfl) rfl rfl ?_
      refine b_ (bx_ rfl rfl) rfl rfl ?_
      refine b_ (F_ rfl rfl) rfl rfl ?_
      refine b_ (h_ rfl) rfl rfl ?_
      refine g_ (c_ ?_)
      refine n_ ?_
      refine C_ rfl rfl ?_
      intro w' hw'
      refine ⟨?_, hw'⟩
      congr 2
      rw [Bool.eq_iff_iff]
      simp [nameC]
      omega
    intro hc12
    refine b_ (k_ rfl) rfl rfl ?_
    refine b_ (aA_ rfl rfl) rfl rfl ?_
    refine b_ (G_ rfl rfl) rfl rfl ?_
    refine b_ (F_ rfl rfl) rfl rfl ?_
    refine b_ (k_ rfl) rfl rfl ?_
    refine z_ (t := 17) rfl ?_ ?_
    · intro hc17
      refine b_ (k_ rfl) rfl rfl ?_
      refine b_ (bx_ rfl rfl) rfl rfl ?_
      refine b_ (F_ rfl rfl) rfl rfl ?_
      refine b_ (h_ rfl) rfl rfl ?_
      refine g_ (c_ ?_)
      refine n_ ?_
      refine C_ rfl rfl ?_
      intro w' hw'
      refine ⟨?_, hw'⟩
      congr 2
      rw [Bool.eq_iff_iff]
      simp [nameC]
      omega
    intro hc17
    iterate 2 refine Y_ rfl rfl ?_
    refine b_ (G_ rfl rfl) rfl rfl ?_
    refine b_ (h_ rfl) rfl rfl ?_
    refine g_ (c_ ?_)
    refine n_ ?_
    refine C_ rfl rfl ?_
    intro w' hw'
    refine ⟨?_, hw'⟩
    congr 2
    rw [Bool.eq_iff_iff]
    simp [nameC]
    omega
  intro hc5
  refine b_ (k_ rfl) rfl rfl ?_
  refine b_ (aA_ rfl rfl) rfl rfl ?_
  refine b_ (G_ rfl rfl) rfl rfl ?_
  refine b_ (k_ rfl) rfl rfl ?_
  refine z_ (t := 9) rfl ?_ ?_
  rotate_left
  · intro hc9
    iterate 6 refine Y_ rfl rfl ?_
    refine b_ (G_ rfl rfl) rfl rfl ?_
    refine b_ (k_ rfl) rfl rfl ?_
    iterate 2 refine Y_ rfl rfl ?_
    refine b_ (G_ rfl rfl) rfl rfl ?_
    refine b_ (h_ rfl) rfl rfl ?_
    refine g_ (c_ ?_)
    refine n_ ?_
    refine C_ rfl rfl ?_
    intro w' hw'
    refine ⟨?_, hw'⟩
    congr 2
    rw [Bool.eq_iff_iff]
    simp [nameC]
    omega
  intro hc9
  refine b_ (k_ rfl) rfl rfl ?_
  refine b_ (an_ rfl rfl) rfl rfl ?_
  refine b_ (k_ rfl) rfl rfl ?_
  refine z_ (t := 12) rfl ?_ ?_
  · intro hc12
    iterate 2 refine Y_ rfl rfl ?_
    refine b_ (F_ rfl rfl) rfl rfl ?_
    refine b_ (F_ rfl rfl) rfl rfl ?_
    iterate 2 refine b_ (k_ rfl) rfl rfl ?_
    refine b_ (bx_ rfl rfl) rfl rfl ?_
    refine b_ (F_ rfl rfl) rfl rfl ?_
    refine b_ (h_ rfl) rfl rfl ?_
    refine g_ (c_ ?_)
    refine n_ ?_
    refine C_ rfl rfl ?_
    intro w' hw'
    refine ⟨?_, hw'⟩
    congr 2
    rw [Bool.eq_iff_iff]
    simp [nameC]
    omega
  intro hc12
  refine b_ (k_ rfl) rfl rfl ?_
  refine b_ (aA_ rfl rfl) rfl rfl ?_
  refine b_ (G_ rfl rfl) rfl rfl ?_
  refine b_ (F_ rfl rfl) rfl rfl ?_
  refine b_ (k_ rfl) rfl rfl ?_
  refine z_ (t := 17) rfl ?_ ?_
  · intro hc17
    refine b_ (k_ rfl) rfl rfl ?_
    refine b_ (bx_ rfl rfl) rfl rfl ?_
    refine b_ (F_ rfl rfl) rfl rfl ?_
    refine b_ (h_ rfl) rfl rfl ?_
    refine g_ (c_ ?_)
    refine n_ ?_
    refine C_ rfl rfl ?_
    intro w' hw'
    refine ⟨?_, hw'⟩
    congr 2
    rw [Bool.eq_iff_iff]
    simp [nameC]
    omega
  intro hc17
  iterate 2 refine Y_ rfl rfl ?_
  refine b_ (G_ rfl rfl) rfl rfl ?_
  refine b_ (h_ rfl) rfl rfl ?_
  refine g_ (c_ ?_)
  refine n_ ?_
  refine C_ rfl rfl ?_
  intro w' hw'
  refine ⟨?_, hw'⟩
  congr 2
  rw [Bool.eq_iff_iff]
  simp [nameC]
  omega
set_option maxHeartbeats 400000 in
theorem hY_ {s : ByteArray} (hw : Mem S σ ρ w) (_hs : s.size ≤ 16) : Calls Tryz.prog 166 #[.string s, .func (.func 162) #[] #[], .bool true] w fun e w' => ∃ r : Int, e = .returned (.int .i64 r) ∧ (0 ≤ r ↔ s.data.toList.all (fun c => nameC c.toNat) = false) ∧ Mem S σ ρ w' := by
  refine R_ [.string s, .func (.func 162) #[] #[], .bool true] Tryz.func166 rfl Tryz.ntmps166 rfl (Mem S σ ρ) hw ?_
  refine d_ (a_ ?_)
  refine b_ (h_ rfl) rfl rfl ?_
  refine g_ (c_ ?_)
  refine d_ ?_
  refine d_ (a_ ?_)
  refine b_ (k_ rfl) rfl rfl ?_
  refine am_ (g9_ rfl Tryz.underlying9) rfl rfl ?_
  rintro _ _ ⟨b10, rfl, rfl⟩
  refine g_ (c_ ?_)
  refine u_ ?_
  refine W_ (ι := Nat) (fun k => [(1, .func (.func 162) #[] #[]), (2, .bool true), (10, .pointer (some ⟨b10, 0, none⟩))]) (fun k w' => (k ≤ s.size ∧ ∀ j (hj : j < s.size), j < k → nameC (s[j]'hj).toNat = true) ∧ Mem S (.blk b10 (.stringIter s k) :: σ) ρ w') (fun k => s.size - k) 0 (by exact ⟨rfl, rfl, rfl, trivial⟩) (fun w' hw' => ⟨⟨Nat.zero_le _, fun j hj h => by omega⟩, hw'⟩) ?_
  intro k
  refine aU_ ?_
  rintro ⟨hk, hp⟩
  by_cases hlt : k < s.size
  · have hd := gO_ s k hlt
    have hc := (s[k]'hlt).toNat_lt
    skip
    refine d_ (a_ ?_)
    refine am_ (ig_ rfl .here hlt) rfl rfl ?_
    rintro _ _ ⟨rfl, rfl⟩
    refine b_ (aM_ rfl rfl) rfl rfl ?_
    refine g_ (c_ ?_)
    refine d_ ?_
    refine M_ rfl ?_
    refine s_ ?_
    refine c_ ?_
    refine u_ ?_
    refine d_ (a_ ?_)
    refine b_ (aM_ rfl rfl) rfl rfl ?_
    refine b_ (aM_ rfl rfl) rfl rfl ?_
    iterate 2 refine b_ (h_ rfl) rfl rfl ?_
    refine g_ (c_ ?_)
    refine d_ (a_ ?_)
    iterate 2 refine b_ (k_ rfl) rfl rfl ?_
    refine ci_ rfl (by kernel_rfl) rfl rfl rfl ?_
    intro w hw
    refine (odd_c hw).mono ?_
    rintro _ _ ⟨rfl, hm⟩
    refine ⟨_, _, rfl, hm, ?_⟩
    clear hm hw w
    refine b_ (k_ rfl) rfl rfl ?_
    refine b_ (jy_ rfl rfl (by kernel_rfl)) rfl rfl ?_
    refine g_ (c_ ?_)
    refine aE_ rfl ?_ ?_
    rotate_left
    · intro hodd
      refine s_ ?_
      refine r_ ?_
      simp only [beq_true, Bool.not_eq_false'] at hodd
      have h128 : (s[k]'hlt).toNat < 128 := by
        rcases Nat.lt_or_ge (s[k]'hlt).toNat 128 with h | h
        · exact h
        · have h2 := hd (by omega)
          simp only [nameC, Bool.or_eq_true, Bool.and_eq_true, decide_eq_true_eq] at hodd
          omega
      have e1 := decode_ascii s k hlt h128
      exact A_ (k + 1) (by omega) (by exact ⟨rfl, rfl, rfl, trivial⟩) (fun w' hw' => ⟨⟨hlt, fun j hj h => by
        rcases Nat.lt_or_ge j k with h2 | h2
        · exact hp j hj h2
        · obtain rfl : j = k := by omega
          rw [e1] at hodd; exact hodd⟩, by rw [e1] at hw'; exact hw'⟩)
    intro hodd
    refine d_ (a_ ?_)
    refine b_ (k_ rfl) rfl rfl ?_
    refine b_ (h_ rfl) rfl rfl ?_
    refine g_ (c_ ?_)
    refine n_ ?_
    refine B_ ?_
    refine i_ (by intro h; cases h) ?_
    refine B_ ?_
    refine i_ (by intro h; cases h) ?_
    refine C_ rfl rfl ?_
    intro w' hw'
    refine ⟨_, rfl, ?_, hw'.sub (fun _ h => h) (List.sublist_cons_self _ _)⟩
    rw [gj_ hlt (by
  simp only [beq_true, Bool.not_eq_true'] at hodd
  rcases Nat.lt_or_ge (s[k]'hlt).toNat 128 with h | h
  · rw [decode_ascii s k hlt h] at hodd; exact hodd
  · simp only [nameC, Bool.or_eq_false_iff, Bool.and_eq_false_iff, decide_eq_false_iff_not]; omega)]
    simp
  · skip
    refine d_ (a_ ?_)
    refine b_ (g3_ rfl List.mem_cons_self hlt) rfl rfl ?_
    refine b_ (aM_ rfl rfl) rfl rfl ?_
    refine g_ (c_ ?_)
    refine d_ ?_
    refine Z_ rfl ?_
    refine T_ ?_
    refine i_ (by intro h; cases h) ?_
    refine i_ (by intro h; cases h) ?_
    refine S_ ?_
    refine c_ ?_
    refine d_ (a_ ?_)
    refine b_ (h_ rfl) rfl rfl ?_
    refine g_ (c_ ?_)
    refine n_ ?_
    refine C_ rfl rfl ?_
    intro w' hw'
    refine ⟨_, rfl, ?_, hw'.sub (fun _ h => h) (List.sublist_cons_self _ _)⟩
    rw [g0_ fun j hj => hp j hj (by omega)]
    simp
theorem index_c {s : ByteArray} (hw : Mem S σ ρ w) (hs : s.size ≤ 16) : Calls Tryz.prog 165 #[.string s, .func (.func 162) #[] #[]] w fun e w' => ∃ r : Int, e = .returned (.int .i64 r) ∧ (0 ≤ r ↔ s.data.toList.all (fun c => nameC c.toNat) = false) ∧ Mem S σ ρ w' := by
  refine R_ [.string s, .func (.func 162) #[] #[]] Tryz.func165 rfl Tryz.ntmps165 rfl (Mem S σ ρ) hw ?_
  refine d_ (a_ ?_)
  refine b_ (h_ rfl) rfl rfl ?_
  refine g_ (c_ ?_)
  refine d_ (a_ ?_)
  iterate 2 refine b_ (k_ rfl) rfl rfl ?_
  refine t_ (by kernel_rfl) rfl rfl rfl ?_
  intro w hw
  refine (hY_ hw hs).mono ?_; rintro _ _ ⟨r, rfl, hr, hm⟩; refine ⟨_, _, rfl, hm, ?_⟩; clear hm hw w
  refine b_ (h_ rfl) rfl rfl ?_
  refine g_ (c_ ?_)
  refine n_ ?_
  refine C_ rfl rfl ?_
  intro w' hw'
  exact ⟨_, rfl, hr, hw'⟩
theorem h1_ {s : ByteArray} (hw : Mem S σ ρ w) (hs : s.size ≤ 16) : Calls Tryz.prog 163 #[.string s, .func (.func 162) #[] #[]] w fun e w' => e = .returned (.bool (!s.data.toList.all (fun c => nameC c.toNat))) ∧ Mem S σ ρ w' := by
  refine R_ [.string s, .func (.func 162) #[] #[]] Tryz.func163 rfl Tryz.ntmps163 rfl (Mem S σ ρ) hw ?_
  refine d_ (a_ ?_)
  refine b_ (h_ rfl) rfl rfl ?_
  refine g_ (c_ ?_)
  refine d_ (a_ ?_)
  iterate 2 refine b_ (k_ rfl) rfl rfl ?_
  refine t_ (by kernel_rfl) rfl rfl rfl ?_
  intro w hw
  refine (index_c hw hs).mono ?_; rintro _ _ ⟨r, rfl, hr, hm⟩; refine ⟨_, _, rfl, hm, ?_⟩; clear hm hw w
  refine b_ (bH_ rfl rfl) rfl rfl ?_
  refine b_ (h_ rfl) rfl rfl ?_
  refine g_ (c_ ?_)
  refine n_ ?_
  refine C_ rfl rfl ?_
  intro w' hw'
  refine ⟨?_, hw'⟩
  congr 2
  rw [Bool.eq_iff_iff, decide_eq_true_eq, hr]
  simp
theorem isName_c {s : ByteArray} (hw : Mem S σ ρ w) : Calls Tryz.prog 155 #[.string s] w fun e w' => e = .returned (.bool (nameB s)) ∧ Mem S σ ρ w' := by
  have h0 : (s = ⟨#[]⟩) ↔ s.size = 0 := by
    constructor
    · rintro rfl; rfl
    · intro h
      obtain ⟨a⟩ := s
      congr 1
      exact Array.eq_empty_of_size_eq_zero h
  refine R_ [.string s] Tryz.func155 rfl Tryz.ntmps155 rfl (Mem S σ ρ) hw ?_
  refine d_ (a_ ?_)
  refine b_ (h_ rfl) rfl rfl ?_
  refine g_ (c_ ?_)
  refine d_ (a_ ?_)
  refine b_ (h_ rfl) rfl rfl ?_
  refine g_ (c_ ?_)
  refine d_ (a_ ?_)
  refine b_ (k_ rfl) rfl rfl ?_
  refine b_ (jw_ rfl rfl) rfl rfl ?_
  refine b_ (k_ rfl) rfl rfl ?_
  refine z_ (t := 6) rfl ?_ ?_
  rotate_left
  · intro hc6
    iterate 3 refine Y_ rfl rfl ?_
    refine b_ (G_ rfl rfl) rfl rfl ?_
    refine b_ (k_ rfl) rfl rfl ?_
    iterate 4 refine Y_ rfl rfl ?_
    refine b_ (G_ rfl rfl) rfl rfl ?_
    refine b_ (h_ rfl) rfl rfl ?_
    refine g_ (c_ ?_)
    refine n_ ?_
    refine C_ rfl rfl ?_
    intro w' hw'
    refine ⟨?_, hw'⟩
    congr 2
    unfold nameB
    rw [Ne, h0] at hc6
    rw [Bool.eq_iff_iff]
    (simp; omega)
  intro hc6
  refine b_ (k_ rfl) rfl rfl ?_
  refine b_ (bp_ rfl Tryz.underlying9) rfl rfl ?_
  refine b_ (c0_ rfl rfl) rfl rfl ?_
  refine b_ (F_ rfl rfl) rfl rfl ?_
  refine b_ (k_ rfl) rfl rfl ?_
  refine z_ (t := 11) rfl ?_ ?_
  rotate_left
  · intro hc11
    iterate 4 refine Y_ rfl rfl ?_
    refine b_ (G_ rfl rfl) rfl rfl ?_
    refine b_ (h_ rfl) rfl rfl ?_
    refine g_ (c_ ?_)
    refine n_ ?_
    refine C_ rfl rfl ?_
    intro w' hw'
    refine ⟨?_, hw'⟩
    congr 2
    unfold nameB
    rw [Ne, h0] at hc6
    rw [Bool.eq_iff_iff]
    (simp; omega)
  intro hc11
  iterate 2 refine b_ (k_ rfl) rfl rfl ?_
  refine t_ (by kernel_rfl) rfl rfl rfl ?_
  intro w hw
  refine (h1_ hw (by omega)).mono ?_; rintro _ _ ⟨rfl, hm⟩; refine ⟨_, _, rfl, hm, ?_⟩; clear hm hw w
  refine b_ (aB_ rfl) rfl rfl ?_
  refine b_ (F_ rfl rfl) rfl rfl ?_
  refine b_ (h_ rfl) rfl rfl ?_
  refine g_ (c_ ?_)
  refine n_ ?_
  refine C_ rfl rfl ?_
  intro w' hw'
  refine ⟨?_, hw'⟩
  congr 2
  unfold nameB
  rw [Ne, h0] at hc6
  rw [Bool.eq_iff_iff]
  first
    | (simp; omega)
    | (have h1 : 1 ≤ s.size := by omega
       have h2 : s.size ≤ 16 := by omega
       simp [h1, h2])
set_option maxHeartbeats 400000 in
theorem iw_ {s : ByteArray} (hw : Mem S σ ρ w) (hs : s.size ≤ 9223372036854775807) : Calls Tryz.prog 154 #[.string s] w fun e w' => e = .returned (.bool (nameB s)) ∧ Mem S σ ρ w' := by
  refine R_ [.string s] Tryz.func154 rfl Tryz.ntmps154 rfl (Mem S σ ρ) hw ?_
  refine d_ (a_ ?_)
  refine b_ (h_ rfl) rfl rfl ?_
  refine g_ (c_ ?_)
  refine d_ ?_
  refine d_ (a_ ?_)
  refine b_ (h_ rfl) rfl rfl ?_
  refine g_ (c_ ?_)
  refine u_ ?_
  refine W_ (ι := Nat) (fun k => [(0, .string s), (3, .int .i64 (k : Nat))]) (fun k w' => (k ≤ s.size ∧ ∀ j (hj : j < s.size), j < k → nameC (s[j]'hj).toNat = true) ∧ Mem S σ ρ w') (fun k => s.size - k) 0 (by exact ⟨rfl, rfl, trivial⟩) (fun w' hw' => ⟨⟨Nat.zero_le _, fun j hj h => by omega⟩, hw'⟩) ?_
  intro k
  refine aU_ ?_
  rintro ⟨hk, hp⟩
  refine d_ ?_
  refine d_ (a_ ?_)
  iterate 2 refine b_ (k_ rfl) rfl rfl ?_
  refine b_ (bp_ rfl Tryz.underlying9) rfl rfl ?_
  refine b_ (an_ rfl rfl) rfl rfl ?_
  refine g_ (c_ ?_)
  refine o_ rfl ?_ ?_
  rotate_left
  · intro hc7
    refine T_ ?_
    refine i_ (by intro h; cases h) ?_
    refine i_ (by intro h; cases h) ?_
    refine S_ ?_
    refine c_ ?_
    refine d_ (a_ ?_)
    refine b_ (k_ rfl) rfl rfl ?_
    refine b_ (bp_ rfl Tryz.underlying9) rfl rfl ?_
    refine b_ (bH_ rfl rfl) rfl rfl ?_
    refine b_ (k_ rfl) rfl rfl ?_
    refine z_ (t := 42) rfl ?_ ?_
    · intro hc42
      refine b_ (k_ rfl) rfl rfl ?_
      refine b_ (bp_ rfl Tryz.underlying9) rfl rfl ?_
      refine b_ (c0_ rfl rfl) rfl rfl ?_
      refine b_ (F_ rfl rfl) rfl rfl ?_
      refine b_ (h_ rfl) rfl rfl ?_
      refine g_ (c_ ?_)
      refine n_ ?_
      refine C_ rfl rfl ?_
      intro w' hw'
      refine ⟨?_, hw'⟩
      congr 2
      unfold nameB
      (rw [g0_ fun j hj => hp j hj (by omega)]; rw [Bool.eq_iff_iff]; simp; omega)
    intro hc42
    iterate 3 refine Y_ rfl rfl ?_
    refine b_ (G_ rfl rfl) rfl rfl ?_
    refine b_ (h_ rfl) rfl rfl ?_
    refine g_ (c_ ?_)
    refine n_ ?_
    refine C_ rfl rfl ?_
    intro w' hw'
    refine ⟨?_, hw'⟩
    congr 2
    unfold nameB
    (rw [g0_ fun j hj => hp j hj (by omega)]; rw [Bool.eq_iff_iff]; simp; omega)
  intro hc7
  have hlt : k < s.size := by omega
  refine s_ ?_
  refine c_ ?_
  refine d_ ?_
  refine u_ ?_
  refine d_ (a_ ?_)
  iterate 2 refine b_ (k_ rfl) rfl rfl ?_
  refine b_ (aL_ (q := k) rfl rfl rfl hlt Tryz.underlying9) rfl rfl ?_
  refine b_ (bH_ rfl rfl) rfl rfl ?_
  refine b_ (k_ rfl) rfl rfl ?_
  refine z_ (t := 14) rfl ?_ ?_
  rotate_left
  · intro hc14
    iterate 4 refine Y_ rfl rfl ?_
    refine b_ (G_ rfl rfl) rfl rfl ?_
    iterate 3 refine b_ (k_ rfl) rfl rfl ?_
    refine b_ (aL_ (q := k) rfl rfl rfl hlt Tryz.underlying9) rfl rfl ?_
    refine b_ (bH_ rfl rfl) rfl rfl ?_
    refine b_ (k_ rfl) rfl rfl ?_
    refine z_ (t := 25) rfl ?_ ?_
    rotate_left
    · intro hc25
      iterate 4 refine Y_ rfl rfl ?_
      refine b_ (G_ rfl rfl) rfl rfl ?_
      refine b_ (G_ rfl rfl) rfl rfl ?_
      iterate 3 refine b_ (k_ rfl) rfl rfl ?_
      refine b_ (aL_ (q := k) rfl rfl rfl hlt Tryz.underlying9) rfl rfl ?_
      refine b_ (aD_ rfl rfl) rfl rfl ?_
      refine b_ (G_ rfl rfl) rfl rfl ?_
      refine b_ (aw_ rfl) rfl rfl ?_
      refine g_ (c_ ?_)
      refine o_ rfl ?_ ?_
      rotate_left
      · intro hc38
        refine s_ ?_
        refine r_ ?_
        refine c_ ?_
        refine a_ ?_
        refine b_ (k_ rfl) rfl rfl ?_
        refine b_ (v_ rfl rfl (by simp only [InR, lo, hi]; omega)) rfl rfl ?_
        refine b_ (h_ rfl) rfl rfl ?_
        refine g_ ?_
        have hgood : nameC (s[k]'hlt).toNat = true := by
          simp [nameC]
          omega
        exact A_ (k + 1) (by omega) (by exact ⟨rfl, rfl, trivial⟩) (fun w' hw' => ⟨⟨hlt, fun j hj h => by
          rcases Nat.lt_or_ge j k with h2 | h2
          · exact hp j hj h2
          · obtain rfl : j = k := by omega
            exact hgood⟩, hw'⟩)
      intro hc38
      refine d_ (a_ ?_)
      refine b_ (h_ rfl) rfl rfl ?_
      refine g_ (c_ ?_)
      refine n_ ?_
      refine B_ ?_
      refine i_ (by intro h; cases h) ?_
      refine i_ (by intro h; cases h) ?_
      refine B_ ?_
      refine i_ (by intro h; cases h) ?_
      refine C_ rfl rfl ?_
      intro w' hw'
      refine ⟨?_, hw'⟩
      congr 2
      unfold nameB
      (rw [gj_ hlt (by simp [nameC]; omega)]; rfl)
    intro hc25
    iterate 2 refine b_ (k_ rfl) rfl rfl ?_
    refine b_ (aL_ (q := k) rfl rfl rfl hlt Tryz.underlying9) rfl rfl ?_
    refine b_ (c0_ rfl rfl) rfl rfl ?_
    refine b_ (F_ rfl rfl) rfl rfl ?_
    refine b_ (G_ rfl rfl) rfl rfl ?_
    refine b_ (k_ rfl) rfl rfl ?_
    refine z_ (t := 32) rfl ?_ ?_
    · intro hc32
      iterate 4 refine Y_ rfl rfl ?_
      refine b_ (F_ rfl rfl) rfl rfl ?_
      refine b_ (b0_ rfl) rfl rfl ?_
      refine g_ (c_ ?_)
      refine Z_ rfl ?_
      refine s_ ?_
      refine r_ ?_
      refine c_ ?_
      refine a_ ?_
      refine b_ (k_ rfl) rfl rfl ?_
      refine b_ (v_ rfl rfl (by simp only [InR, lo, hi]; omega)) rfl rfl ?_
      refine b_ (h_ rfl) rfl rfl ?_
      refine g_ ?_
      have hgood : nameC (s[k]'hlt).toNat = true := by
        simp [nameC]
        omega
      exact A_ (k + 1) (by omega) (by exact ⟨rfl, rfl, trivial⟩) (fun w' hw' => ⟨⟨hlt, fun j hj h => by
        rcases Nat.lt_or_ge j k with h2 | h2
        · exact hp j hj h2
        · obtain rfl : j = k := by omega
          exact hgood⟩, hw'⟩)
    intro hc32
    iterate 2 refine b_ (k_ rfl) rfl rfl ?_
    refine b_ (aL_ (q := k) rfl rfl rfl hlt Tryz.underlying9) rfl rfl ?_
    refine b_ (aD_ rfl rfl) rfl rfl ?_
    refine b_ (G_ rfl rfl) rfl rfl ?_
    refine b_ (aw_ rfl) rfl rfl ?_
    refine g_ (c_ ?_)
    refine o_ rfl ?_ ?_
    rotate_left
    · intro hc38
      refine s_ ?_
      refine r_ ?_
      refine c_ ?_
      refine a_ ?_
      refine b_ (k_ rfl) rfl rfl ?_
      refine b_ (v_ rfl rfl (by simp only [InR, lo, hi]; omega)) rfl rfl ?_
      refine b_ (h_ rfl) rfl rfl ?_
      refine g_ ?_
      have hgood : nameC (s[k]'hlt).toNat = true := by
        simp [nameC]
        omega
      exact A_ (k + 1) (by omega) (by exact ⟨rfl, rfl, trivial⟩) (fun w' hw' => ⟨⟨hlt, fun j hj h => by
        rcases Nat.lt_or_ge j k with h2 | h2
        · exact hp j hj h2
        · obtain rfl : j = k := by omega
          exact hgood⟩, hw'⟩)
    intro hc38
    refine d_ (a_ ?_)
    refine b_ (h_ rfl) rfl rfl ?_
    refine g_ (c_ ?_)
    refine n_ ?_
    refine B_ ?_
    refine i_ (by intro h; cases h) ?_
    refine i_ (by intro h; cases h) ?_
    refine B_ ?_
    refine i_ (by intro h; cases h) ?_
    refine C_ rfl rfl ?_
    intro w' hw'
    refine ⟨?_, hw'⟩
    congr 2
    unfold nameB
    (rw [gj_ hlt (by simp [nameC]; omega)]; rfl)
  intro hc14
  iterate 2 refine b_ (k_ rfl) rfl rfl ?_
  refine b_ (aL_ (q := k) rfl rfl rfl hlt Tryz.underlying9) rfl rfl ?_
  refine b_ (c0_ rfl rfl) rfl rfl ?_
  refine b_ (F_ rfl rfl) rfl rfl ?_
  refine b_ (k_ rfl) rfl rfl ?_
  refine z_ (t := 20) rfl ?_ ?_
  · intro hc20
    iterate 10 refine Y_ rfl rfl ?_
    refine b_ (F_ rfl rfl) rfl rfl ?_
    refine b_ (k_ rfl) rfl rfl ?_
    iterate 4 refine Y_ rfl rfl ?_
    refine b_ (F_ rfl rfl) rfl rfl ?_
    refine b_ (b0_ rfl) rfl rfl ?_
    refine g_ (c_ ?_)
    refine Z_ rfl ?_
    refine s_ ?_
    refine r_ ?_
    refine c_ ?_
    refine a_ ?_
    refine b_ (k_ rfl) rfl rfl ?_
    refine b_ (v_ rfl rfl (by simp only [InR, lo, hi]; omega)) rfl rfl ?_
    refine b_ (h_ rfl) rfl rfl ?_
    refine g_ ?_
    have hgood : nameC (s[k]'hlt).toNat = true := by
      simp [nameC]
      omega
    exact A_ (k + 1) (by omega) (by exact ⟨rfl, rfl, trivial⟩) (fun w' hw' => ⟨⟨hlt, fun j hj h => by
      rcases Nat.lt_or_ge j k with h2 | h2
      · exact hp j hj h2
      · obtain rfl : j = k := by omega
        exact hgood⟩, hw'⟩)
  intro hc20
  iterate 2 refine b_ (k_ rfl) rfl rfl ?_
  refine b_ (aL_ (q := k) rfl rfl rfl hlt Tryz.underlying9) rfl rfl ?_
  refine b_ (bH_ rfl rfl) rfl rfl ?_
  refine b_ (k_ rfl) rfl rfl ?_
  refine z_ (t := 25) rfl ?_ ?_
  rotate_left
  · intro hc25
    iterate 4 refine Y_ rfl rfl ?_
    refine b_ (G_ rfl rfl) rfl rfl ?_
    refine b_ (G_ rfl rfl) rfl rfl ?_
    iterate 3 refine b_ (k_ rfl) rfl rfl ?_
    refine b_ (aL_ (q := k) rfl rfl rfl hlt Tryz.underlying9) rfl rfl ?_
    refine b_ (aD_ rfl rfl) rfl rfl ?_
    refine b_ (G_ rfl rfl) rfl rfl ?_
    refine b_ (aw_ rfl) rfl rfl ?_
    refine g_ (c_ ?_)
    refine o_ rfl ?_ ?_
    rotate_left
    · intro hc38
      refine s_ ?_
      refine r_ ?_
      refine c_ ?_
      refine a_ ?_
      refine b_ (k_ rfl) rfl rfl ?_
      refine b_ (v_ rfl rfl (by simp only [InR, lo, hi]; omega)) rfl rfl ?_
      refine b_ (h_ rfl) rfl rfl ?_
      refine g_ ?_
      have hgood : nameC (s[k]'hlt).toNat = true := by
        simp [nameC]
        omega
      exact A_ (k + 1) (by omega) (by exact ⟨rfl, rfl, trivial⟩) (fun w' hw' => ⟨⟨hlt, fun j hj h => by
        rcases Nat.lt_or_ge j k with h2 | h2
        · exact hp j hj h2
        · obtain rfl : j = k := by omega
          exact hgood⟩, hw'⟩)
    intro hc38
    refine d_ (a_ ?_)
    refine b_ (h_ rfl) rfl rfl ?_
    refine g_ (c_ ?_)
    refine n_ ?_
    refine B_ ?_
    refine i_ (by intro h; cases h) ?_
    refine i_ (by intro h; cases h) ?_
    refine B_ ?_
    refine i_ (by intro h; cases h) ?_
    refine C_ rfl rfl ?_
    intro w' hw'
    refine ⟨?_, hw'⟩
    congr 2
    unfold nameB
    (rw [gj_ hlt (by simp [nameC]; omega)]; rfl)
  intro hc25
  iterate 2 refine b_ (k_ rfl) rfl rfl ?_
  refine b_ (aL_ (q := k) rfl rfl rfl hlt Tryz.underlying9) rfl rfl ?_
  refine b_ (c0_ rfl rfl) rfl rfl ?_
  refine b_ (F_ rfl rfl) rfl rfl ?_
  refine b_ (G_ rfl rfl) rfl rfl ?_
  refine b_ (k_ rfl) rfl rfl ?_
  refine z_ (t := 32) rfl ?_ ?_
  · intro hc32
    iterate 4 refine Y_ rfl rfl ?_
    refine b_ (F_ rfl rfl) rfl rfl ?_
    refine b_ (b0_ rfl) rfl rfl ?_
    refine g_ (c_ ?_)
    refine Z_ rfl ?_
    refine s_ ?_
    refine r_ ?_
    refine c_ ?_
    refine a_ ?_
    refine b_ (k_ rfl) rfl rfl ?_
    refine b_ (v_ rfl rfl (by simp only [InR, lo, hi]; omega)) rfl rfl ?_
    refine b_ (h_ rfl) rfl rfl ?_
    refine g_ ?_
    have hgood : nameC (s[k]'hlt).toNat = true := by
      simp [nameC]
      omega
    exact A_ (k + 1) (by omega) (by exact ⟨rfl, rfl, trivial⟩) (fun w' hw' => ⟨⟨hlt, fun j hj h => by
      rcases Nat.lt_or_ge j k with h2 | h2
      · exact hp j hj h2
      · obtain rfl : j = k := by omega
        exact hgood⟩, hw'⟩)
  intro hc32
  iterate 2 refine b_ (k_ rfl) rfl rfl ?_
  refine b_ (aL_ (q := k) rfl rfl rfl hlt Tryz.underlying9) rfl rfl ?_
  refine b_ (aD_ rfl rfl) rfl rfl ?_
  refine b_ (G_ rfl rfl) rfl rfl ?_
  refine b_ (aw_ rfl) rfl rfl ?_
  refine g_ (c_ ?_)
  refine o_ rfl ?_ ?_
  rotate_left
  · intro hc38
    refine s_ ?_
    refine r_ ?_
    refine c_ ?_
    refine a_ ?_
    refine b_ (k_ rfl) rfl rfl ?_
    refine b_ (v_ rfl rfl (by simp only [InR, lo, hi]; omega)) rfl rfl ?_
    refine b_ (h_ rfl) rfl rfl ?_
    refine g_ ?_
    have hgood : nameC (s[k]'hlt).toNat = true := by
      simp [nameC]
      omega
    exact A_ (k + 1) (by omega) (by exact ⟨rfl, rfl, trivial⟩) (fun w' hw' => ⟨⟨hlt, fun j hj h => by
      rcases Nat.lt_or_ge j k with h2 | h2
      · exact hp j hj h2
      · obtain rfl : j = k := by omega
        exact hgood⟩, hw'⟩)
  intro hc38
  refine d_ (a_ ?_)
  refine b_ (h_ rfl) rfl rfl ?_
  refine g_ (c_ ?_)
  refine n_ ?_
  refine B_ ?_
  refine i_ (by intro h; cases h) ?_
  refine i_ (by intro h; cases h) ?_
  refine B_ ?_
  refine i_ (by intro h; cases h) ?_
  refine C_ rfl rfl ?_
  intro w' hw'
  refine ⟨?_, hw'⟩
  congr 2
  unfold nameB
  (rw [gj_ hlt (by simp [nameC]; omega)]; rfl)
end
structure Core where
  client : Int
  stamp : Int
  op : Int
  letter : ByteArray
  a : Int
  b : Int
  text : ByteArray
def Core.cells (c : Core) : List Value := [.int .i64 c.client, .int .i64 c.stamp, .int .i64 c.op, .string c.letter, .int .i64 c.a, .int .i64 c.b, .string c.text]
def Core.check (c : Core) (n : Int) : Int :=
  if n < 1 ∨ 7 < n then 1 else if c.client < n ∨ n + 4 ≤ c.client then 17 else if c.stamp < 1 ∨ 1099511627776 < c.stamp ∨ c.op < 1 ∨ 9 < c.op then 5 else if nameB c.letter = false then 7 else if 200 < c.text.size then 3 else 0
def rowB (m : List UInt8) : List UInt8 := beBytes m.length 4 ++ m
def Core.bytes (c : Core) : List UInt8 :=
  beBytes (u64 c.client) 1 ++ beBytes (u64 c.stamp) 8 ++ beBytes (u64 c.op) 1 ++ rowB c.letter.data.toList ++ beBytes (u64 c.a) 8 ++ beBytes (u64 c.b) 8 ++ rowB c.text.data.toList
theorem ck_ (x : Int) : u64 x < 18446744073709551616 := by unfold u64; omega
section
variable {S : List (World × List Nat)} {σ τ : Blks} {ρ : List Dt} {w : World} {P : Program} {n : Nat} {l : Slots} {D : World → Prop} {x y : Operand} {d : Option Nat} {ty t : TypeId} {pos : String} {aft : Array Edge} {g : Option (Nat × Bool)} {v : Value}
theorem dH_ {tab : List (Nat × TI)} (hT : TabOk P tab) {sz m e sz' : Nat} {zs zs' L : List Value} {k : IntKind} {r : Int} {q : Nat} (ht : ti tab t = some ⟨sz, .array m e, zs⟩) (hj : ti tab e = some ⟨sz', .one, zs'⟩) (hs : Nat.beq sz' 1 = true) (hx : look l x = some (.agg L.toArray)) (hy : look l y = some (.int k r)) (hr : r = (q : Nat)) (hq : q < m) (hv : L[q]? = some v) :
    Val P n l D ⟨d, .index t x y, ty, pos, aft, g⟩ v := fun A w hf hD => by
  obtain ⟨dd, hu, hk⟩ := (hT t _ ht).und
  cases dd <;> simp [kindOk] at hk
  obtain ⟨rfl, rfl⟩ := hk
  have h1 := (hT _ _ hj).sizeOf (w := w)
  have h2 := (hT _ _ hj).isAgg (w := w)
  rw [show sz' = 1 from Nat.eq_of_beq_eq_true hs] at h1
  subst hr
  simp [execOp, Instr.index, asIntOf, hf.eval hx, hf.eval hy, run_underlying hu, Sem.run_bind, Result.andThen, hq, h1, part, h2, hv]
set_option maxHeartbeats 400000 in
theorem check_c {c : Core} {n : Int} (hw : Mem S σ ρ w) : Calls Tryz.prog 131 #[.agg c.cells.toArray, .int .i64 n] w fun e w' => e = .returned (.int .i64 (c.check n)) ∧ Mem S σ ρ w' := by
  refine R_ [.agg c.cells.toArray, .int .i64 n] Tryz.func131 rfl Tryz.ntmps131 rfl (Mem S σ ρ) hw ?_
  refine d_ (a_ ?_)
  refine am_ (O_ rfl) rfl rfl ?_
  rintro _ _ ⟨b2, rfl, rfl⟩
  refine b_ (h_ rfl) rfl rfl ?_
  refine g_ (c_ ?_)
  refine d_ ?_
  refine u_ ?_
  refine d_ (a_ ?_)
  refine b_ (k_ rfl) rfl rfl ?_
  refine b_ (an_ rfl rfl) rfl rfl ?_
  refine b_ (k_ rfl) rfl rfl ?_
  refine z_ (t := 8) rfl ?_ ?_
  · intro hc8
    iterate 2 refine Y_ rfl rfl ?_
    refine b_ (F_ rfl rfl) rfl rfl ?_
    refine b_ (h_ rfl) rfl rfl ?_
    refine g_ (c_ ?_)
    refine M_ rfl ?_
    refine d_ (a_ ?_)
    refine b_ (h_ rfl) rfl rfl ?_
    refine g_ (c_ ?_)
    refine n_ ?_
    refine B_ ?_
    refine i_ (by intro h; cases h) ?_
    refine C_ rfl rfl ?_
    intro w' hw'
    refine ⟨?_, hw'.sub (fun _ h => h) (List.sublist_cons_self _ _)⟩
    congr 2
    unfold Core.check
    repeat' split
    all_goals first | rfl | omega | simp_all
  intro hc8
  refine b_ (k_ rfl) rfl rfl ?_
  refine b_ (aA_ rfl rfl) rfl rfl ?_
  refine b_ (G_ rfl rfl) rfl rfl ?_
  refine b_ (h_ rfl) rfl rfl ?_
  refine g_ (c_ ?_)
  refine o_ rfl ?_ ?_
  · intro hc5
    refine d_ (a_ ?_)
    refine b_ (h_ rfl) rfl rfl ?_
    refine g_ (c_ ?_)
    refine n_ ?_
    refine B_ ?_
    refine i_ (by intro h; cases h) ?_
    refine C_ rfl rfl ?_
    intro w' hw'
    refine ⟨?_, hw'.sub (fun _ h => h) (List.sublist_cons_self _ _)⟩
    congr 2
    unfold Core.check
    repeat' split
    all_goals first | rfl | omega | simp_all
  intro hc5
  refine d_ (a_ ?_)
  refine b_ (p_ tabOk rfl rfl rfl rfl rfl) rfl rfl ?_
  refine b_ (j_ tabOk rfl rfl (by repeat (first | assumption | exact List.mem_cons_self | exact hmem _ | apply List.mem_cons_of_mem)) (by rfl)) rfl rfl ?_
  refine b_ (k_ rfl) rfl rfl ?_
  refine b_ (an_ rfl rfl) rfl rfl ?_
  refine b_ (k_ rfl) rfl rfl ?_
  refine z_ (t := 17) rfl ?_ ?_
  · intro hc17
    iterate 5 refine Y_ rfl rfl ?_
    refine b_ (F_ rfl rfl) rfl rfl ?_
    refine b_ (h_ rfl) rfl rfl ?_
    refine g_ (c_ ?_)
    refine M_ rfl ?_
    refine d_ (a_ ?_)
    refine b_ (h_ rfl) rfl rfl ?_
    refine g_ (c_ ?_)
    refine n_ ?_
    refine B_ ?_
    refine i_ (by intro h; cases h) ?_
    refine C_ rfl rfl ?_
    intro w' hw'
    refine ⟨?_, hw'.sub (fun _ h => h) (List.sublist_cons_self _ _)⟩
    congr 2
    unfold Core.check
    repeat' split
    all_goals first | rfl | omega | simp_all
  intro hc17
  refine b_ (p_ tabOk rfl rfl rfl rfl rfl) rfl rfl ?_
  refine b_ (j_ tabOk rfl rfl (by repeat (first | assumption | exact List.mem_cons_self | exact hmem _ | apply List.mem_cons_of_mem)) (by rfl)) rfl rfl ?_
  refine b_ (k_ rfl) rfl rfl ?_
  refine b_ (v_ rfl rfl (by simp only [InR, lo, hi]; omega)) rfl rfl ?_
  refine b_ (bH_ rfl rfl) rfl rfl ?_
  refine b_ (G_ rfl rfl) rfl rfl ?_
  refine b_ (h_ rfl) rfl rfl ?_
  refine g_ (c_ ?_)
  refine o_ rfl ?_ ?_
  · intro hc12
    refine d_ (a_ ?_)
    refine b_ (h_ rfl) rfl rfl ?_
    refine g_ (c_ ?_)
    refine n_ ?_
    refine B_ ?_
    refine i_ (by intro h; cases h) ?_
    refine C_ rfl rfl ?_
    intro w' hw'
    refine ⟨?_, hw'.sub (fun _ h => h) (List.sublist_cons_self _ _)⟩
    congr 2
    unfold Core.check
    repeat' split
    all_goals first | rfl | omega | simp_all
  intro hc12
  refine d_ (a_ ?_)
  refine b_ (p_ tabOk rfl rfl rfl rfl rfl) rfl rfl ?_
  refine b_ (j_ tabOk rfl rfl (by repeat (first | assumption | exact List.mem_cons_self | exact hmem _ | apply List.mem_cons_of_mem)) (by rfl)) rfl rfl ?_
  refine b_ (an_ rfl rfl) rfl rfl ?_
  refine b_ (k_ rfl) rfl rfl ?_
  refine z_ (t := 28) rfl ?_ ?_
  · intro hc28
    iterate 3 refine Y_ rfl rfl ?_
    refine b_ (F_ rfl rfl) rfl rfl ?_
    refine b_ (k_ rfl) rfl rfl ?_
    iterate 3 refine Y_ rfl rfl ?_
    refine b_ (F_ rfl rfl) rfl rfl ?_
    refine b_ (k_ rfl) rfl rfl ?_
    iterate 3 refine Y_ rfl rfl ?_
    refine b_ (F_ rfl rfl) rfl rfl ?_
    refine b_ (h_ rfl) rfl rfl ?_
    refine g_ (c_ ?_)
    refine M_ rfl ?_
    refine d_ (a_ ?_)
    refine b_ (h_ rfl) rfl rfl ?_
    refine g_ (c_ ?_)
    refine n_ ?_
    refine B_ ?_
    refine i_ (by intro h; cases h) ?_
    refine C_ rfl rfl ?_
    intro w' hw'
    refine ⟨?_, hw'.sub (fun _ h => h) (List.sublist_cons_self _ _)⟩
    congr 2
    unfold Core.check
    repeat' split
    all_goals first | rfl | omega | simp_all
  intro hc28
  refine b_ (p_ tabOk rfl rfl rfl rfl rfl) rfl rfl ?_
  refine b_ (j_ tabOk rfl rfl (by repeat (first | assumption | exact List.mem_cons_self | exact hmem _ | apply List.mem_cons_of_mem)) (by rfl)) rfl rfl ?_
  refine b_ (aA_ rfl rfl) rfl rfl ?_
  refine b_ (G_ rfl rfl) rfl rfl ?_
  refine b_ (k_ rfl) rfl rfl ?_
  refine z_ (t := 33) rfl ?_ ?_
  · intro hc33
    iterate 3 refine Y_ rfl rfl ?_
    refine b_ (F_ rfl rfl) rfl rfl ?_
    refine b_ (k_ rfl) rfl rfl ?_
    iterate 3 refine Y_ rfl rfl ?_
    refine b_ (F_ rfl rfl) rfl rfl ?_
    refine b_ (h_ rfl) rfl rfl ?_
    refine g_ (c_ ?_)
    refine M_ rfl ?_
    refine d_ (a_ ?_)
    refine b_ (h_ rfl) rfl rfl ?_
    refine g_ (c_ ?_)
    refine n_ ?_
    refine B_ ?_
    refine i_ (by intro h; cases h) ?_
    refine C_ rfl rfl ?_
    intro w' hw'
    refine ⟨?_, hw'.sub (fun _ h => h) (List.sublist_cons_self _ _)⟩
    congr 2
    unfold Core.check
    repeat' split
    all_goals first | rfl | omega | simp_all
  intro hc33
  refine b_ (p_ tabOk rfl rfl rfl rfl rfl) rfl rfl ?_
  refine b_ (j_ tabOk rfl rfl (by repeat (first | assumption | exact List.mem_cons_self | exact hmem _ | apply List.mem_cons_of_mem)) (by rfl)) rfl rfl ?_
  refine b_ (an_ rfl rfl) rfl rfl ?_
  refine b_ (G_ rfl rfl) rfl rfl ?_
  refine b_ (k_ rfl) rfl rfl ?_
  refine z_ (t := 38) rfl ?_ ?_
  · intro hc38
    iterate 3 refine Y_ rfl rfl ?_
    refine b_ (F_ rfl rfl) rfl rfl ?_
    refine b_ (h_ rfl) rfl rfl ?_
    refine g_ (c_ ?_)
    refine M_ rfl ?_
    refine d_ (a_ ?_)
    refine b_ (h_ rfl) rfl rfl ?_
    refine g_ (c_ ?_)
    refine n_ ?_
    refine B_ ?_
    refine i_ (by intro h; cases h) ?_
    refine C_ rfl rfl ?_
    intro w' hw'
    refine ⟨?_, hw'.sub (fun _ h => h) (List.sublist_cons_self _ _)⟩
    congr 2
    unfold Core.check
    repeat' split
    all_goals first | rfl | omega | simp_all
  intro hc38
  refine b_ (p_ tabOk rfl rfl rfl rfl rfl) rfl rfl ?_
  refine b_ (j_ tabOk rfl rfl (by repeat (first | assumption | exact List.mem_cons_self | exact hmem _ | apply List.mem_cons_of_mem)) (by rfl)) rfl rfl ?_
  refine b_ (aA_ rfl rfl) rfl rfl ?_
  refine b_ (G_ rfl rfl) rfl rfl ?_
  refine b_ (h_ rfl) rfl rfl ?_
  refine g_ (c_ ?_)
  refine o_ rfl ?_ ?_
  · intro hc24
    refine d_ (a_ ?_)
    refine b_ (h_ rfl) rfl rfl ?_
    refine g_ (c_ ?_)
    refine n_ ?_
    refine B_ ?_
    refine i_ (by intro h; cases h) ?_
    refine C_ rfl rfl ?_
    intro w' hw'
    refine ⟨?_, hw'.sub (fun _ h => h) (List.sublist_cons_self _ _)⟩
    congr 2
    unfold Core.check
    repeat' split
    all_goals first | rfl | omega | simp_all
  intro hc24
  refine d_ (a_ ?_)
  refine b_ (p_ tabOk rfl rfl rfl rfl rfl) rfl rfl ?_
  refine b_ (j_ tabOk rfl rfl (by repeat (first | assumption | exact List.mem_cons_self | exact hmem _ | apply List.mem_cons_of_mem)) (by rfl)) rfl rfl ?_
  refine t_ (by kernel_rfl) rfl rfl rfl ?_
  intro w hw
  refine (isName_c hw).mono ?_; rintro _ _ ⟨rfl, hm⟩; refine ⟨_, _, rfl, hm, ?_⟩; clear hm hw w
  refine b_ (aB_ rfl) rfl rfl ?_
  refine b_ (h_ rfl) rfl rfl ?_
  refine g_ (c_ ?_)
  refine aE_ rfl ?_ ?_
  · intro hc43
    refine d_ (a_ ?_)
    refine b_ (h_ rfl) rfl rfl ?_
    refine g_ (c_ ?_)
    refine n_ ?_
    refine B_ ?_
    refine i_ (by intro h; cases h) ?_
    refine C_ rfl rfl ?_
    intro w' hw'
    refine ⟨?_, hw'.sub (fun _ h => h) (List.sublist_cons_self _ _)⟩
    congr 2
    unfold Core.check
    repeat' split
    all_goals first | rfl | omega | simp_all
  intro hc43
  refine d_ (a_ ?_)
  refine b_ (p_ tabOk rfl rfl rfl rfl rfl) rfl rfl ?_
  refine b_ (j_ tabOk rfl rfl (by repeat (first | assumption | exact List.mem_cons_self | exact hmem _ | apply List.mem_cons_of_mem)) (by rfl)) rfl rfl ?_
  refine b_ (bp_ rfl Tryz.underlying9) rfl rfl ?_
  refine b_ (aA_ rfl rfl) rfl rfl ?_
  refine b_ (h_ rfl) rfl rfl ?_
  refine g_ (c_ ?_)
  refine o_ rfl ?_ ?_
  · intro hc48
    refine d_ (a_ ?_)
    refine b_ (h_ rfl) rfl rfl ?_
    refine g_ (c_ ?_)
    refine n_ ?_
    refine B_ ?_
    refine i_ (by intro h; cases h) ?_
    refine C_ rfl rfl ?_
    intro w' hw'
    refine ⟨?_, hw'.sub (fun _ h => h) (List.sublist_cons_self _ _)⟩
    congr 2
    unfold Core.check
    repeat' split
    all_goals first | rfl | omega | simp_all
  intro hc48
  refine s_ ?_
  refine r_ ?_
  refine c_ ?_
  refine d_ (a_ ?_)
  refine b_ (h_ rfl) rfl rfl ?_
  refine g_ (c_ ?_)
  refine n_ ?_
  refine C_ rfl rfl ?_
  intro w' hw'
  refine ⟨?_, hw'.sub (fun _ h => h) (List.sublist_cons_self _ _)⟩
  congr 2
  unfold Core.check
  repeat' split
  all_goals first | rfl | omega | simp_all
set_option maxHeartbeats 400000 in
theorem rcheck_c {c : Core} {n : Int} (hw : Mem S σ ρ w) (hs : c.letter.size ≤ lots) : Calls Tryz.prog 129 #[.agg c.cells.toArray, .int .i64 n] w fun e w' => e = .returned (.int .i64 (c.check n)) ∧ Mem S σ ρ w' := by
  refine R_ [.agg c.cells.toArray, .int .i64 n] Tryz.func129 rfl Tryz.ntmps129 rfl (Mem S σ ρ) hw ?_
  refine d_ (a_ ?_)
  refine am_ (O_ rfl) rfl rfl ?_
  rintro _ _ ⟨b2, rfl, rfl⟩
  refine b_ (h_ rfl) rfl rfl ?_
  refine g_ (c_ ?_)
  refine d_ ?_
  refine u_ ?_
  refine d_ (a_ ?_)
  refine b_ (k_ rfl) rfl rfl ?_
  refine b_ (an_ rfl rfl) rfl rfl ?_
  refine b_ (k_ rfl) rfl rfl ?_
  refine z_ (t := 8) rfl ?_ ?_
  · intro hc8
    iterate 2 refine Y_ rfl rfl ?_
    refine b_ (F_ rfl rfl) rfl rfl ?_
    refine b_ (h_ rfl) rfl rfl ?_
    refine g_ (c_ ?_)
    refine M_ rfl ?_
    refine d_ (a_ ?_)
    refine b_ (h_ rfl) rfl rfl ?_
    refine g_ (c_ ?_)
    refine n_ ?_
    refine B_ ?_
    refine i_ (by intro h; cases h) ?_
    refine C_ rfl rfl ?_
    intro w' hw'
    refine ⟨?_, hw'.sub (fun _ h => h) (List.sublist_cons_self _ _)⟩
    congr 2
    unfold Core.check
    repeat' split
    all_goals first | rfl | omega | simp_all
  intro hc8
  refine b_ (k_ rfl) rfl rfl ?_
  refine b_ (aA_ rfl rfl) rfl rfl ?_
  refine b_ (G_ rfl rfl) rfl rfl ?_
  refine b_ (h_ rfl) rfl rfl ?_
  refine g_ (c_ ?_)
  refine o_ rfl ?_ ?_
  · intro hc5
    refine d_ (a_ ?_)
    refine b_ (h_ rfl) rfl rfl ?_
    refine g_ (c_ ?_)
    refine n_ ?_
    refine B_ ?_
    refine i_ (by intro h; cases h) ?_
    refine C_ rfl rfl ?_
    intro w' hw'
    refine ⟨?_, hw'.sub (fun _ h => h) (List.sublist_cons_self _ _)⟩
    congr 2
    unfold Core.check
    repeat' split
    all_goals first | rfl | omega | simp_all
  intro hc5
  refine d_ (a_ ?_)
  refine b_ (p_ tabOk rfl rfl rfl rfl rfl) rfl rfl ?_
  refine b_ (j_ tabOk rfl rfl (by repeat (first | assumption | exact List.mem_cons_self | exact hmem _ | apply List.mem_cons_of_mem)) (by rfl)) rfl rfl ?_
  refine b_ (k_ rfl) rfl rfl ?_
  refine b_ (an_ rfl rfl) rfl rfl ?_
  refine b_ (k_ rfl) rfl rfl ?_
  refine z_ (t := 17) rfl ?_ ?_
  · intro hc17
    iterate 5 refine Y_ rfl rfl ?_
    refine b_ (F_ rfl rfl) rfl rfl ?_
    refine b_ (h_ rfl) rfl rfl ?_
    refine g_ (c_ ?_)
    refine M_ rfl ?_
    refine d_ (a_ ?_)
    refine b_ (h_ rfl) rfl rfl ?_
    refine g_ (c_ ?_)
    refine n_ ?_
    refine B_ ?_
    refine i_ (by intro h; cases h) ?_
    refine C_ rfl rfl ?_
    intro w' hw'
    refine ⟨?_, hw'.sub (fun _ h => h) (List.sublist_cons_self _ _)⟩
    congr 2
    unfold Core.check
    repeat' split
    all_goals first | rfl | omega | simp_all
  intro hc17
  refine b_ (p_ tabOk rfl rfl rfl rfl rfl) rfl rfl ?_
  refine b_ (j_ tabOk rfl rfl (by repeat (first | assumption | exact List.mem_cons_self | exact hmem _ | apply List.mem_cons_of_mem)) (by rfl)) rfl rfl ?_
  refine b_ (k_ rfl) rfl rfl ?_
  refine b_ (v_ rfl rfl (by simp only [InR, lo, hi]; omega)) rfl rfl ?_
  refine b_ (aA_ rfl rfl) rfl rfl ?_
  refine b_ (G_ rfl rfl) rfl rfl ?_
  refine b_ (h_ rfl) rfl rfl ?_
  refine g_ (c_ ?_)
  refine o_ rfl ?_ ?_
  · intro hc12
    refine d_ (a_ ?_)
    refine b_ (h_ rfl) rfl rfl ?_
    refine g_ (c_ ?_)
    refine n_ ?_
    refine B_ ?_
    refine i_ (by intro h; cases h) ?_
    refine C_ rfl rfl ?_
    intro w' hw'
    refine ⟨?_, hw'.sub (fun _ h => h) (List.sublist_cons_self _ _)⟩
    congr 2
    unfold Core.check
    repeat' split
    all_goals first | rfl | omega | simp_all
  intro hc12
  refine d_ (a_ ?_)
  refine b_ (p_ tabOk rfl rfl rfl rfl rfl) rfl rfl ?_
  refine b_ (j_ tabOk rfl rfl (by repeat (first | assumption | exact List.mem_cons_self | exact hmem _ | apply List.mem_cons_of_mem)) (by rfl)) rfl rfl ?_
  refine b_ (an_ rfl rfl) rfl rfl ?_
  refine b_ (k_ rfl) rfl rfl ?_
  refine z_ (t := 28) rfl ?_ ?_
  · intro hc28
    iterate 3 refine Y_ rfl rfl ?_
    refine b_ (F_ rfl rfl) rfl rfl ?_
    refine b_ (k_ rfl) rfl rfl ?_
    iterate 3 refine Y_ rfl rfl ?_
    refine b_ (F_ rfl rfl) rfl rfl ?_
    refine b_ (k_ rfl) rfl rfl ?_
    iterate 3 refine Y_ rfl rfl ?_
    refine b_ (F_ rfl rfl) rfl rfl ?_
    refine b_ (h_ rfl) rfl rfl ?_
    refine g_ (c_ ?_)
    refine M_ rfl ?_
    refine d_ (a_ ?_)
    refine b_ (h_ rfl) rfl rfl ?_
    refine g_ (c_ ?_)
    refine n_ ?_
    refine B_ ?_
    refine i_ (by intro h; cases h) ?_
    refine C_ rfl rfl ?_
    intro w' hw'
    refine ⟨?_, hw'.sub (fun _ h => h) (List.sublist_cons_self _ _)⟩
    congr 2
    unfold Core.check
    repeat' split
    all_goals first | rfl | omega | simp_all
  intro hc28
  refine b_ (p_ tabOk rfl rfl rfl rfl rfl) rfl rfl ?_
  refine b_ (j_ tabOk rfl rfl (by repeat (first | assumption | exact List.mem_cons_self | exact hmem _ | apply List.mem_cons_of_mem)) (by rfl)) rfl rfl ?_
  refine b_ (aA_ rfl rfl) rfl rfl ?_
  refine b_ (G_ rfl rfl) rfl rfl ?_
  refine b_ (k_ rfl) rfl rfl ?_
  refine z_ (t := 33) rfl ?_ ?_
  · intro hc33
    iterate 3 refine Y_ rfl rfl ?_
    refine b_ (F_ rfl rfl) rfl rfl ?_
    refine b_ (k_ rfl) rfl rfl ?_
    iterate 3 refine Y_ rfl rfl ?_
    refine b_ (F_ rfl rfl) rfl rfl ?_
    refine b_ (h_ rfl) rfl rfl ?_
    refine g_ (c_ ?_)
    refine M_ rfl ?_
    refine d_ (a_ ?_)
    refine b_ (h_ rfl) rfl rfl ?_
    refine g_ (c_ ?_)
    refine n_ ?_
    refine B_ ?_
    refine i_ (by intro h; cases h) ?_
    refine C_ rfl rfl ?_
    intro w' hw'
    refine ⟨?_, hw'.sub (fun _ h => h) (List.sublist_cons_self _ _)⟩
    congr 2
    unfold Core.check
    repeat' split
    all_goals first | rfl | omega | simp_all
  intro hc33
  refine b_ (p_ tabOk rfl rfl rfl rfl rfl) rfl rfl ?_
  refine b_ (j_ tabOk rfl rfl (by repeat (first | assumption | exact List.mem_cons_self | exact hmem _ | apply List.mem_cons_of_mem)) (by rfl)) rfl rfl ?_
  refine b_ (an_ rfl rfl) rfl rfl ?_
  refine b_ (G_ rfl rfl) rfl rfl ?_
  refine b_ (k_ rfl) rfl rfl ?_
  refine z_ (t := 38) rfl ?_ ?_
  · intro hc38
    iterate 3 refine Y_ rfl rfl ?_
    refine b_ (F_ rfl rfl) rfl rfl ?_
    refine b_ (h_ rfl) rfl rfl ?_
    refine g_ (c_ ?_)
    refine M_ rfl ?_
    refine d_ (a_ ?_)
    refine b_ (h_ rfl) rfl rfl ?_
    refine g_ (c_ ?_)
    refine n_ ?_
    refine B_ ?_
    refine i_ (by intro h; cases h) ?_
    refine C_ rfl rfl ?_
    intro w' hw'
    refine ⟨?_, hw'.sub (fun _ h => h) (List.sublist_cons_self _ _)⟩
    congr 2
    unfold Core.check
    repeat' split
    all_goals first | rfl | omega | simp_all
  intro hc38
  refine b_ (p_ tabOk rfl rfl rfl rfl rfl) rfl rfl ?_
  refine b_ (j_ tabOk rfl rfl (by repeat (first | assumption | exact List.mem_cons_self | exact hmem _ | apply List.mem_cons_of_mem)) (by rfl)) rfl rfl ?_
  refine b_ (aA_ rfl rfl) rfl rfl ?_
  refine b_ (G_ rfl rfl) rfl rfl ?_
  refine b_ (h_ rfl) rfl rfl ?_
  refine g_ (c_ ?_)
  refine o_ rfl ?_ ?_
  · intro hc24
    refine d_ (a_ ?_)
    refine b_ (h_ rfl) rfl rfl ?_
    refine g_ (c_ ?_)
    refine n_ ?_
    refine B_ ?_
    refine i_ (by intro h; cases h) ?_
    refine C_ rfl rfl ?_
    intro w' hw'
    refine ⟨?_, hw'.sub (fun _ h => h) (List.sublist_cons_self _ _)⟩
    congr 2
    unfold Core.check
    repeat' split
    all_goals first | rfl | omega | simp_all
  intro hc24
  refine d_ (a_ ?_)
  refine b_ (p_ tabOk rfl rfl rfl rfl rfl) rfl rfl ?_
  refine b_ (j_ tabOk rfl rfl (by repeat (first | assumption | exact List.mem_cons_self | exact hmem _ | apply List.mem_cons_of_mem)) (by rfl)) rfl rfl ?_
  refine t_ (by kernel_rfl) rfl rfl rfl ?_
  intro w hw
  refine (iw_ hw (Nat.le_trans hs (of_decide_eq_true (by kernel_rfl)))).mono ?_; rintro _ _ ⟨rfl, hm⟩; refine ⟨_, _, rfl, hm, ?_⟩; clear hm hw w
  refine b_ (aB_ rfl) rfl rfl ?_
  refine b_ (h_ rfl) rfl rfl ?_
  refine g_ (c_ ?_)
  refine aE_ rfl ?_ ?_
  · intro hc43
    refine d_ (a_ ?_)
    refine b_ (h_ rfl) rfl rfl ?_
    refine g_ (c_ ?_)
    refine n_ ?_
    refine B_ ?_
    refine i_ (by intro h; cases h) ?_
    refine C_ rfl rfl ?_
    intro w' hw'
    refine ⟨?_, hw'.sub (fun _ h => h) (List.sublist_cons_self _ _)⟩
    congr 2
    unfold Core.check
    repeat' split
    all_goals first | rfl | omega | simp_all
  intro hc43
  refine d_ (a_ ?_)
  refine b_ (p_ tabOk rfl rfl rfl rfl rfl) rfl rfl ?_
  refine b_ (j_ tabOk rfl rfl (by repeat (first | assumption | exact List.mem_cons_self | exact hmem _ | apply List.mem_cons_of_mem)) (by rfl)) rfl rfl ?_
  refine b_ (bp_ rfl Tryz.underlying9) rfl rfl ?_
  refine b_ (aA_ rfl rfl) rfl rfl ?_
  refine b_ (h_ rfl) rfl rfl ?_
  refine g_ (c_ ?_)
  refine o_ rfl ?_ ?_
  · intro hc48
    refine d_ (a_ ?_)
    refine b_ (h_ rfl) rfl rfl ?_
    refine g_ (c_ ?_)
    refine n_ ?_
    refine B_ ?_
    refine i_ (by intro h; cases h) ?_
    refine C_ rfl rfl ?_
    intro w' hw'
    refine ⟨?_, hw'.sub (fun _ h => h) (List.sublist_cons_self _ _)⟩
    congr 2
    unfold Core.check
    repeat' split
    all_goals first | rfl | omega | simp_all
  intro hc48
  refine s_ ?_
  refine r_ ?_
  refine c_ ?_
  refine d_ (a_ ?_)
  refine b_ (h_ rfl) rfl rfl ?_
  refine g_ (c_ ?_)
  refine n_ ?_
  refine C_ rfl rfl ?_
  intro w' hw'
  refine ⟨?_, hw'.sub (fun _ h => h) (List.sublist_cons_self _ _)⟩
  congr 2
  unfold Core.check
  repeat' split
  all_goals first | rfl | omega | simp_all
set_option maxHeartbeats 1000000 in
theorem gR_ {c : Core} (hw : Mem S σ ρ w) (h1 : c.letter.size ≤ 1000000) (h2 : c.text.size ≤ 1000000) : Calls Tryz.prog 134 #[.agg c.cells.toArray] w fun e w' => ∃ r, e = .returned r ∧ Mem S σ (bytesD r c.bytes :: ρ) w' := by
  have h3 : c.letter.size ≤ lots := by unfold lots; omega
  have h4 : c.text.size ≤ lots := by unfold lots; omega
  have hL : c.letter.data.toList.length ≤ 1000000 := h1
  have hT : c.text.data.toList.length ≤ 1000000 := h2
  refine R_ [.agg c.cells.toArray] Tryz.func134 rfl Tryz.ntmps134 rfl (Mem S σ ρ) hw ?_
  refine d_ (a_ ?_)
  refine am_ (O_ rfl) rfl rfl ?_
  rintro _ _ ⟨b1, rfl, rfl⟩
  refine b_ (h_ rfl) rfl rfl ?_
  refine g_ (c_ ?_)
  refine d_ (a_ ?_)
  refine b_ (p_ tabOk rfl rfl rfl rfl rfl) rfl rfl ?_
  refine b_ (j_ tabOk rfl rfl (by repeat (first | assumption | exact List.mem_cons_self | exact hmem _ | apply List.mem_cons_of_mem)) (by rfl)) rfl rfl ?_
  refine b_ (az_ rfl Tryz.underlying134 (by kernel_rfl)) rfl rfl ?_
  refine t_ (by kernel_rfl) rfl rfl rfl ?_
  intro w hw
  refine (eE_ (l := []) (x := u64 c.client) (n := 1) hw (BytesV.nil _) (by exact Nat.zero_le _) (ck_ _) rfl).mono ?_; rintro _ _ ⟨r, rfl, hm⟩; refine ⟨_, _, rfl, hm, ?_⟩; clear hm hw w
  refine b_ (h_ rfl) rfl rfl ?_
  refine g_ (c_ ?_)
  refine d_ (a_ ?_)
  refine b_ (k_ rfl) rfl rfl ?_
  refine b_ (p_ tabOk rfl rfl rfl rfl rfl) rfl rfl ?_
  refine b_ (j_ tabOk rfl rfl (by repeat (first | assumption | exact List.mem_cons_self | exact hmem _ | apply List.mem_cons_of_mem)) (by rfl)) rfl rfl ?_
  refine b_ (az_ rfl Tryz.underlying134 (by kernel_rfl)) rfl rfl ?_
  refine t_ (by kernel_rfl) rfl rfl rfl ?_
  intro w hw
  refine (eE_ (l := ([] ++ beBytes (u64 c.client) (Int.toNat 1))) (x := u64 c.stamp) (n := 8) hw (hw.bytes (by repeat (first | assumption | exact List.mem_cons_self | exact hmem _ | apply List.mem_cons_of_mem))) (by (simp only [List.length_append, m_, List.length_nil]; unfold lots; omega)) (ck_ _) rfl).mono ?_; rintro _ _ ⟨r, rfl, hm⟩; refine ⟨_, _, rfl, hm, ?_⟩; clear hm hw w
  refine b_ (h_ rfl) rfl rfl ?_
  refine g_ (c_ ?_)
  refine d_ ?_
  refine U_ _ (.q 0 (.q 1 (.q 2 (.q 3 (.q 5 (.q 6 (.two 4 7 (.e 7 (.e 8 (.q 9 .nil))) (.e 4 (.e 8 (.q 9 .nil)))))))))) (by kernel_rfl) (by kernel_rfl) (fun _ h => h) (fun _ h => h.drew) ?_
  refine l_ rfl (k_ rfl) rfl rfl ?_
  refine l_ rfl (p_ tabOk rfl rfl rfl rfl rfl) rfl rfl ?_
  refine l_ rfl (j_ tabOk rfl rfl (by repeat (first | assumption | exact List.mem_cons_self | exact hmem _ | apply List.mem_cons_of_mem)) (by rfl)) rfl rfl ?_
  refine l_ rfl (az_ rfl Tryz.underlying134 (by kernel_rfl)) rfl rfl ?_
  refine l_ rfl (p_ tabOk rfl rfl rfl rfl rfl) rfl rfl ?_
  refine l_ rfl (j_ tabOk rfl rfl (by repeat (first | assumption | exact List.mem_cons_self | exact hmem _ | apply List.mem_cons_of_mem)) (by rfl)) rfl rfl ?_
  refine co_ ?_ ?_
  · skip
    refine J_ rfl (by kernel_rfl) rfl rfl rfl ?_
    intro w hw
    refine (eE_ (l := (([] ++ beBytes (u64 c.client) (Int.toNat 1)) ++ beBytes (u64 c.stamp) (Int.toNat 8))) (x := u64 c.op) (n := 1) hw (hw.bytes (by repeat (first | assumption | exact List.mem_cons_self | exact hmem _ | apply List.mem_cons_of_mem))) (by (simp only [List.length_append, m_, List.length_nil]; unfold lots; omega)) (ck_ _) rfl).mono ?_; rintro _ _ ⟨r, rfl, hm⟩; refine ⟨_, _, rfl, hm, _, fun _ h => h.less (fun _ hx => List.mem_cons_of_mem _ hx), fun _ h => h, ?_⟩; clear hm hw w
    refine dI_ rfl (bn_ rfl Tryz.underlying9 Tryz.underlying27 (by assumption)) rfl rfl ?_
    rintro sb22 _ rfl
    refine ⟨_, fun _ h => h.less (fun _ hx => List.mem_cons_of_mem _ hx), fun _ h => h, ?_⟩
    refine J_ rfl (by kernel_rfl) rfl rfl rfl ?_
    intro w hw
    refine (do_ (l := ((([] ++ beBytes (u64 c.client) (Int.toNat 1)) ++ beBytes (u64 c.stamp) (Int.toNat 8)) ++ beBytes (u64 c.op) (Int.toNat 1))) (m := c.letter.data.toList) hw (by repeat (first | assumption | exact List.mem_cons_self | exact hmem _ | apply List.mem_cons_of_mem)) (by repeat (first | assumption | exact List.mem_cons_self | exact hmem _ | apply List.mem_cons_of_mem)) (by simp only [List.length_append, m_, List.length_nil]; unfold lots; omega) (by omega)).mono ?_; rintro _ _ ⟨r, rfl, hm⟩; refine ⟨_, _, rfl, hm, _, fun _ h => h.less (fun _ hx => List.mem_cons_of_mem _ hx), fun _ h => h, ?_⟩; clear hm hw w
    refine l_ rfl (h_ rfl) rfl rfl ?_
    refine I_ (c_ ?_)
    refine d_ ?_
    refine d_ (a_ ?_)
    refine b_ (p_ tabOk rfl rfl rfl rfl rfl) rfl rfl ?_
    refine b_ (j_ tabOk rfl rfl (by repeat (first | assumption | exact List.mem_cons_self | exact hmem _ | apply List.mem_cons_of_mem)) (by rfl)) rfl rfl ?_
    refine b_ (p_ tabOk rfl rfl rfl rfl rfl) rfl rfl ?_
    refine b_ (j_ tabOk rfl rfl (by repeat (first | assumption | exact List.mem_cons_self | exact hmem _ | apply List.mem_cons_of_mem)) (by rfl)) rfl rfl ?_
    refine b_ (dy_ tabOk rfl rfl rfl rfl) rfl rfl ?_
    refine b_ (k_ rfl) rfl rfl ?_
    refine g_ (c_ ?_)
    refine u_ ?_
    refine W_ (ι := Nat × Value) (fun z => [(1, .pointer (some ⟨b1, 0, none⟩)), (3, z.2), (28, .agg [.int .i64 c.a, .int .i64 c.b].toArray), (29, .int .i64 (z.1 : Nat))]) (fun z w' => z.1 ≤ 2 ∧ Mem S (.blk b1 (row 79 c.cells) :: σ) (bytesD z.2 ((((([] ++ beBytes (u64 c.client) (Int.toNat 1)) ++ beBytes (u64 c.stamp) (Int.toNat 8)) ++ beBytes (u64 c.op) (Int.toNat 1)) ++ beBytes c.letter.data.toList.length 4 ++ c.letter.data.toList) ++ (([c.a, c.b].take z.1).flatMap fun x => beBytes (u64 x) (Int.toNat 8))) :: ρ) w') (fun z => 2 - z.1) (0, _) (by exact ⟨rfl, rfl, rfl, rfl, trivial⟩) (fun w' hw' => ⟨by omega, hw'.less (by intro x hx; simp only [List.take_zero, List.flatMap_nil, List.append_nil] at hx; rcases List.mem_cons.1 hx with rfl | hx <;> simp [*])⟩) ?_
    intro z
    refine aU_ ?_
    intro hz
    have hlen : ((((([] ++ beBytes (u64 c.client) (Int.toNat 1)) ++ beBytes (u64 c.stamp) (Int.toNat 8)) ++ beBytes (u64 c.op) (Int.toNat 1)) ++ beBytes c.letter.data.toList.length 4 ++ c.letter.data.toList) ++ (([c.a, c.b].take z.1).flatMap fun x => beBytes (u64 x) (Int.toNat 8))).length ≤ 10 + (4 + c.letter.data.toList.length) + 16 := by
      simp only [List.length_append, m_, List.length_nil]
      have : ((([c.a, c.b].take z.1).flatMap fun x => beBytes (u64 x) (Int.toNat 8))).length ≤ 16 := by
        rcases (by omega : z.1 = 0 ∨ z.1 = 1 ∨ z.1 = 2) with h | h | h <;> rw [h] <;> simp [m_]
      omega
    refine d_ (a_ ?_)
    refine b_ (an_ rfl rfl) rfl rfl ?_
    refine g_ (c_ ?_)
    refine d_ ?_
    refine o_ rfl ?_ ?_
    rotate_left
    · intro hc30
      have e2 : ((((([] ++ beBytes (u64 c.client) (Int.toNat 1)) ++ beBytes (u64 c.stamp) (Int.toNat 8)) ++ beBytes (u64 c.op) (Int.toNat 1)) ++ beBytes c.letter.data.toList.length 4 ++ c.letter.data.toList) ++ (([c.a, c.b].take z.1).flatMap fun x => beBytes (u64 x) (Int.toNat 8))) = (((([] ++ beBytes (u64 c.client) (Int.toNat 1)) ++ beBytes (u64 c.stamp) (Int.toNat 8)) ++ beBytes (u64 c.op) (Int.toNat 1)) ++ beBytes c.letter.data.toList.length 4 ++ c.letter.data.toList) ++ (beBytes (u64 c.a) (Int.toNat 8) ++ beBytes (u64 c.b) (Int.toNat 8)) := by
        have h : z.1 = 2 := by omega
        rw [h]
        simp
      rw [e2] at *
      refine T_ ?_
      refine i_ (by intro h; cases h) ?_
      refine i_ (by intro h; cases h) ?_
      refine S_ ?_
      refine c_ ?_
      refine d_ (a_ ?_)
      refine b_ (k_ rfl) rfl rfl ?_
      refine b_ (p_ tabOk rfl rfl rfl rfl rfl) rfl rfl ?_
      refine b_ (j_ tabOk rfl rfl (by repeat (first | assumption | exact List.mem_cons_self | exact hmem _ | apply List.mem_cons_of_mem)) (by rfl)) rfl rfl ?_
      refine am_ (bn_ rfl Tryz.underlying9 Tryz.underlying27 (by assumption)) rfl rfl ?_
      rintro sb40 _ rfl
      refine t_ (by kernel_rfl) rfl rfl rfl ?_
      intro w hw
      refine (do_ (l := ((((([] ++ beBytes (u64 c.client) (Int.toNat 1)) ++ beBytes (u64 c.stamp) (Int.toNat 8)) ++ beBytes (u64 c.op) (Int.toNat 1)) ++ beBytes c.letter.data.toList.length 4 ++ c.letter.data.toList) ++ (beBytes (u64 c.a) (Int.toNat 8) ++ beBytes (u64 c.b) (Int.toNat 8)))) (m := c.text.data.toList) hw (by repeat (first | assumption | exact List.mem_cons_self | exact hmem _ | apply List.mem_cons_of_mem)) (by repeat (first | assumption | exact List.mem_cons_self | exact hmem _ | apply List.mem_cons_of_mem)) (by simp only [List.length_append, m_, List.length_nil]; unfold lots; omega) (by omega)).mono ?_; rintro _ _ ⟨r, rfl, hm⟩; refine ⟨_, _, rfl, hm, ?_⟩; clear hm hw w
      refine b_ (h_ rfl) rfl rfl ?_
      refine g_ (c_ ?_)
      refine n_ ?_
      refine C_ rfl rfl ?_
      intro w' hw'
      refine ⟨_, rfl, (hw'.sub (fun _ h => h) (List.sublist_cons_self _ _)).less (fun x hx => ?_)⟩
      rcases List.mem_cons.1 hx with rfl | hx
      · have e3 : c.bytes = (((([] ++ beBytes (u64 c.client) (Int.toNat 1)) ++ beBytes (u64 c.stamp) (Int.toNat 8)) ++ beBytes (u64 c.op) (Int.toNat 1)) ++ beBytes c.letter.data.toList.length 4 ++ c.letter.data.toList) ++ (beBytes (u64 c.a) (Int.toNat 8) ++ beBytes (u64 c.b) (Int.toNat 8)) ++ beBytes c.text.data.toList.length 4 ++ c.text.data.toList := by simp [Core.bytes, rowB]
        rw [e3]; simp
      · simp [*]
    intro hc30
    have hlt : z.1 < [c.a, c.b].length := by show z.1 < 2; omega
    have helt : [Value.int .i64 c.a, Value.int .i64 c.b][z.1]? = some (.int .i64 ([c.a, c.b][z.1]'hlt)) := by
      rcases (by omega : z.1 = 0 ∨ z.1 = 1) with h | h <;> simp only [h] <;> rfl
    refine s_ ?_
    refine c_ ?_
    refine d_ ?_
    refine u_ ?_
    refine d_ (a_ ?_)
    refine b_ (dH_ (L := [.int .i64 c.a, .int .i64 c.b]) (v := .int .i64 ([c.a, c.b][z.1]'hlt)) (q := z.1) tabOk rfl rfl rfl rfl rfl rfl hlt helt) rfl rfl ?_
    refine b_ (h_ rfl) rfl rfl ?_
    refine g_ (c_ ?_)
    refine a_ ?_
    iterate 2 refine b_ (k_ rfl) rfl rfl ?_
    refine b_ (az_ rfl Tryz.underlying134 (by kernel_rfl)) rfl rfl ?_
    refine t_ (by kernel_rfl) rfl rfl rfl ?_
    intro w hw
    refine (eE_ (l := ((((([] ++ beBytes (u64 c.client) (Int.toNat 1)) ++ beBytes (u64 c.stamp) (Int.toNat 8)) ++ beBytes (u64 c.op) (Int.toNat 1)) ++ beBytes c.letter.data.toList.length 4 ++ c.letter.data.toList) ++ (([c.a, c.b].take z.1).flatMap fun x => beBytes (u64 x) (Int.toNat 8)))) (x := u64 ([c.a, c.b][z.1]'hlt)) (n := 8) hw (hw.bytes (by repeat (first | assumption | exact List.mem_cons_self | exact hmem _ | apply List.mem_cons_of_mem))) (by unfold lots; omega) (ck_ _) rfl).mono ?_; rintro _ _ ⟨r, rfl, hm⟩; refine ⟨_, _, rfl, hm, ?_⟩; clear hm hw w
    refine b_ (h_ rfl) rfl rfl ?_
    refine g_ ?_
    refine r_ ?_
    refine c_ ?_
    refine a_ ?_
    refine b_ (v_ rfl rfl (by simp only [InR, lo, hi]; omega)) rfl rfl ?_
    refine b_ (k_ rfl) rfl rfl ?_
    refine g_ ?_
    refine A_ (z.1 + 1, r) (by show 2 - (z.1 + 1) < 2 - z.1; omega) (by exact ⟨rfl, rfl, rfl, rfl, trivial⟩) (fun w' hw' => ⟨by show z.1 + 1 ≤ 2; omega, ?_⟩)
    have e1 : ((((([] ++ beBytes (u64 c.client) (Int.toNat 1)) ++ beBytes (u64 c.stamp) (Int.toNat 8)) ++ beBytes (u64 c.op) (Int.toNat 1)) ++ beBytes c.letter.data.toList.length 4 ++ c.letter.data.toList) ++ (([c.a, c.b].take (z.1 + 1)).flatMap fun x => beBytes (u64 x) (Int.toNat 8))) = ((((([] ++ beBytes (u64 c.client) (Int.toNat 1)) ++ beBytes (u64 c.stamp) (Int.toNat 8)) ++ beBytes (u64 c.op) (Int.toNat 1)) ++ beBytes c.letter.data.toList.length 4 ++ c.letter.data.toList) ++ (([c.a, c.b].take z.1).flatMap fun x => beBytes (u64 x) (Int.toNat 8))) ++ beBytes (u64 ([c.a, c.b][z.1]'hlt)) (Int.toNat 8) := by
      rw [List.take_succ_eq_append_getElem hlt, List.flatMap_append, ← List.append_assoc]
      simp
    show Mem S _ (bytesD r ((((([] ++ beBytes (u64 c.client) (Int.toNat 1)) ++ beBytes (u64 c.stamp) (Int.toNat 8)) ++ beBytes (u64 c.op) (Int.toNat 1)) ++ beBytes c.letter.data.toList.length 4 ++ c.letter.data.toList) ++ (([c.a, c.b].take (z.1 + 1)).flatMap fun x => beBytes (u64 x) (Int.toNat 8))) :: ρ) w'
    rw [e1]
    exact hw'.less (fun x hx => by rcases List.mem_cons.1 hx with rfl | hx <;> simp [*])
  · skip
    refine dI_ rfl (bn_ rfl Tryz.underlying9 Tryz.underlying27 (by assumption)) rfl rfl ?_
    rintro sb22 _ rfl
    refine ⟨_, fun _ h => h.less (fun _ hx => List.mem_cons_of_mem _ hx), fun _ h => h, ?_⟩
    refine J_ rfl (by kernel_rfl) rfl rfl rfl ?_
    intro w hw
    refine (eE_ (l := (([] ++ beBytes (u64 c.client) (Int.toNat 1)) ++ beBytes (u64 c.stamp) (Int.toNat 8))) (x := u64 c.op) (n := 1) hw (hw.bytes (by repeat (first | assumption | exact List.mem_cons_self | exact hmem _ | apply List.mem_cons_of_mem))) (by (simp only [List.length_append, m_, List.length_nil]; unfold lots; omega)) (ck_ _) rfl).mono ?_; rintro _ _ ⟨r, rfl, hm⟩; refine ⟨_, _, rfl, hm, _, fun _ h => h.less (fun _ hx => List.mem_cons_of_mem _ hx), fun _ h => h, ?_⟩; clear hm hw w
    refine J_ rfl (by kernel_rfl) rfl rfl rfl ?_
    intro w hw
    refine (do_ (l := ((([] ++ beBytes (u64 c.client) (Int.toNat 1)) ++ beBytes (u64 c.stamp) (Int.toNat 8)) ++ beBytes (u64 c.op) (Int.toNat 1))) (m := c.letter.data.toList) hw (by repeat (first | assumption | exact List.mem_cons_self | exact hmem _ | apply List.mem_cons_of_mem)) (by repeat (first | assumption | exact List.mem_cons_self | exact hmem _ | apply List.mem_cons_of_mem)) (by simp only [List.length_append, m_, List.length_nil]; unfold lots; omega) (by omega)).mono ?_; rintro _ _ ⟨r, rfl, hm⟩; refine ⟨_, _, rfl, hm, _, fun _ h => h.less (fun _ hx => List.mem_cons_of_mem _ hx), fun _ h => h, ?_⟩; clear hm hw w
    refine l_ rfl (h_ rfl) rfl rfl ?_
    refine I_ (c_ ?_)
    refine d_ ?_
    refine d_ (a_ ?_)
    refine b_ (p_ tabOk rfl rfl rfl rfl rfl) rfl rfl ?_
    refine b_ (j_ tabOk rfl rfl (by repeat (first | assumption | exact List.mem_cons_self | exact hmem _ | apply List.mem_cons_of_mem)) (by rfl)) rfl rfl ?_
    refine b_ (p_ tabOk rfl rfl rfl rfl rfl) rfl rfl ?_
    refine b_ (j_ tabOk rfl rfl (by repeat (first | assumption | exact List.mem_cons_self | exact hmem _ | apply List.mem_cons_of_mem)) (by rfl)) rfl rfl ?_
    refine b_ (dy_ tabOk rfl rfl rfl rfl) rfl rfl ?_
    refine b_ (k_ rfl) rfl rfl ?_
    refine g_ (c_ ?_)
    refine u_ ?_
    refine W_ (ι := Nat × Value) (fun z => [(1, .pointer (some ⟨b1, 0, none⟩)), (3, z.2), (28, .agg [.int .i64 c.a, .int .i64 c.b].toArray), (29, .int .i64 (z.1 : Nat))]) (fun z w' => z.1 ≤ 2 ∧ Mem S (.blk b1 (row 79 c.cells) :: σ) (bytesD z.2 ((((([] ++ beBytes (u64 c.client) (Int.toNat 1)) ++ beBytes (u64 c.stamp) (Int.toNat 8)) ++ beBytes (u64 c.op) (Int.toNat 1)) ++ beBytes c.letter.data.toList.length 4 ++ c.letter.data.toList) ++ (([c.a, c.b].take z.1).flatMap fun x => beBytes (u64 x) (Int.toNat 8))) :: ρ) w') (fun z => 2 - z.1) (0, _) (by exact ⟨rfl, rfl, rfl, rfl, trivial⟩) (fun w' hw' => ⟨by omega, hw'.less (by intro x hx; simp only [List.take_zero, List.flatMap_nil, List.append_nil] at hx; rcases List.mem_cons.1 hx with rfl | hx <;> simp [*])⟩) ?_
    intro z
    refine aU_ ?_
    intro hz
    have hlen : ((((([] ++ beBytes (u64 c.client) (Int.toNat 1)) ++ beBytes (u64 c.stamp) (Int.toNat 8)) ++ beBytes (u64 c.op) (Int.toNat 1)) ++ beBytes c.letter.data.toList.length 4 ++ c.letter.data.toList) ++ (([c.a, c.b].take z.1).flatMap fun x => beBytes (u64 x) (Int.toNat 8))).length ≤ 10 + (4 + c.letter.data.toList.length) + 16 := by
      simp only [List.length_append, m_, List.length_nil]
      have : ((([c.a, c.b].take z.1).flatMap fun x => beBytes (u64 x) (Int.toNat 8))).length ≤ 16 := by
        rcases (by omega : z.1 = 0 ∨ z.1 = 1 ∨ z.1 = 2) with h | h | h <;> rw [h] <;> simp [m_]
      omega
    refine d_ (a_ ?_)
    refine b_ (an_ rfl rfl) rfl rfl ?_
    refine g_ (c_ ?_)
    refine d_ ?_
    refine o_ rfl ?_ ?_
    rotate_left
    · intro hc30
      have e2 : ((((([] ++ beBytes (u64 c.client) (Int.toNat 1)) ++ beBytes (u64 c.stamp) (Int.toNat 8)) ++ beBytes (u64 c.op) (Int.toNat 1)) ++ beBytes c.letter.data.toList.length 4 ++ c.letter.data.toList) ++ (([c.a, c.b].take z.1).flatMap fun x => beBytes (u64 x) (Int.toNat 8))) = (((([] ++ beBytes (u64 c.client) (Int.toNat 1)) ++ beBytes (u64 c.stamp) (Int.toNat 8)) ++ beBytes (u64 c.op) (Int.toNat 1)) ++ beBytes c.letter.data.toList.length 4 ++ c.letter.data.toList) ++ (beBytes (u64 c.a) (Int.toNat 8) ++ beBytes (u64 c.b) (Int.toNat 8)) := by
        have h : z.1 = 2 := by omega
        rw [h]
        simp
      rw [e2] at *
      refine T_ ?_
      refine i_ (by intro h; cases h) ?_
      refine i_ (by intro h; cases h) ?_
      refine S_ ?_
      refine c_ ?_
      refine d_ (a_ ?_)
      refine b_ (k_ rfl) rfl rfl ?_
      refine b_ (p_ tabOk rfl rfl rfl rfl rfl) rfl rfl ?_
      refine b_ (j_ tabOk rfl rfl (by repeat (first | assumption | exact List.mem_cons_self | exact hmem _ | apply List.mem_cons_of_mem)) (by rfl)) rfl rfl ?_
      refine am_ (bn_ rfl Tryz.underlying9 Tryz.underlying27 (by assumption)) rfl rfl ?_
      rintro sb40 _ rfl
      refine t_ (by kernel_rfl) rfl rfl rfl ?_
      intro w hw
      refine (do_ (l := ((((([] ++ beBytes (u64 c.client) (Int.toNat 1)) ++ beBytes (u64 c.stamp) (Int.toNat 8)) ++ beBytes (u64 c.op) (Int.toNat 1)) ++ beBytes c.letter.data.toList.length 4 ++ c.letter.data.toList) ++ (beBytes (u64 c.a) (Int.toNat 8) ++ beBytes (u64 c.b) (Int.toNat 8)))) (m := c.text.data.toList) hw (by repeat (first | assumption | exact List.mem_cons_self | exact hmem _ | apply List.mem_cons_of_mem)) (by repeat (first | assumption | exact List.mem_cons_self | exact hmem _ | apply List.mem_cons_of_mem)) (by simp only [List.length_append, m_, List.length_nil]; unfold lots; omega) (by omega)).mono ?_; rintro _ _ ⟨r, rfl, hm⟩; refine ⟨_, _, rfl, hm, ?_⟩; clear hm hw w
      refine b_ (h_ rfl) rfl rfl ?_
      refine g_ (c_ ?_)
      refine n_ ?_
      refine C_ rfl rfl ?_
      intro w' hw'
      refine ⟨_, rfl, (hw'.sub (fun _ h => h) (List.sublist_cons_self _ _)).less (fun x hx => ?_)⟩
      rcases List.mem_cons.1 hx with rfl | hx
      · have e3 : c.bytes = (((([] ++ beBytes (u64 c.client) (Int.toNat 1)) ++ beBytes (u64 c.stamp) (Int.toNat 8)) ++ beBytes (u64 c.op) (Int.toNat 1)) ++ beBytes c.letter.data.toList.length 4 ++ c.letter.data.toList) ++ (beBytes (u64 c.a) (Int.toNat 8) ++ beBytes (u64 c.b) (Int.toNat 8)) ++ beBytes c.text.data.toList.length 4 ++ c.text.data.toList := by simp [Core.bytes, rowB]
        rw [e3]; simp
      · simp [*]
    intro hc30
    have hlt : z.1 < [c.a, c.b].length := by show z.1 < 2; omega
    have helt : [Value.int .i64 c.a, Value.int .i64 c.b][z.1]? = some (.int .i64 ([c.a, c.b][z.1]'hlt)) := by
      rcases (by omega : z.1 = 0 ∨ z.1 = 1) with h | h <;> simp only [h] <;> rfl
    refine s_ ?_
    refine c_ ?_
    refine d_ ?_
    refine u_ ?_
    refine d_ (a_ ?_)
    refine b_ (dH_ (L := [.int .i64 c.a, .int .i64 c.b]) (v := .int .i64 ([c.a, c.b][z.1]'hlt)) (q := z.1) tabOk rfl rfl rfl rfl rfl rfl hlt helt) rfl rfl ?_
    refine b_ (h_ rfl) rfl rfl ?_
    refine g_ (c_ ?_)
    refine a_ ?_
    iterate 2 refine b_ (k_ rfl) rfl rfl ?_
    refine b_ (az_ rfl Tryz.underlying134 (by kernel_rfl)) rfl rfl ?_
    refine t_ (by kernel_rfl) rfl rfl rfl ?_
    intro w hw
    refine (eE_ (l := ((((([] ++ beBytes (u64 c.client) (Int.toNat 1)) ++ beBytes (u64 c.stamp) (Int.toNat 8)) ++ beBytes (u64 c.op) (Int.toNat 1)) ++ beBytes c.letter.data.toList.length 4 ++ c.letter.data.toList) ++ (([c.a, c.b].take z.1).flatMap fun x => beBytes (u64 x) (Int.toNat 8)))) (x := u64 ([c.a, c.b][z.1]'hlt)) (n := 8) hw (hw.bytes (by repeat (first | assumption | exact List.mem_cons_self | exact hmem _ | apply List.mem_cons_of_mem))) (by unfold lots; omega) (ck_ _) rfl).mono ?_; rintro _ _ ⟨r, rfl, hm⟩; refine ⟨_, _, rfl, hm, ?_⟩; clear hm hw w
    refine b_ (h_ rfl) rfl rfl ?_
    refine g_ ?_
    refine r_ ?_
    refine c_ ?_
    refine a_ ?_
    refine b_ (v_ rfl rfl (by simp only [InR, lo, hi]; omega)) rfl rfl ?_
    refine b_ (k_ rfl) rfl rfl ?_
    refine g_ ?_
    refine A_ (z.1 + 1, r) (by show 2 - (z.1 + 1) < 2 - z.1; omega) (by exact ⟨rfl, rfl, rfl, rfl, trivial⟩) (fun w' hw' => ⟨by show z.1 + 1 ≤ 2; omega, ?_⟩)
    have e1 : ((((([] ++ beBytes (u64 c.client) (Int.toNat 1)) ++ beBytes (u64 c.stamp) (Int.toNat 8)) ++ beBytes (u64 c.op) (Int.toNat 1)) ++ beBytes c.letter.data.toList.length 4 ++ c.letter.data.toList) ++ (([c.a, c.b].take (z.1 + 1)).flatMap fun x => beBytes (u64 x) (Int.toNat 8))) = ((((([] ++ beBytes (u64 c.client) (Int.toNat 1)) ++ beBytes (u64 c.stamp) (Int.toNat 8)) ++ beBytes (u64 c.op) (Int.toNat 1)) ++ beBytes c.letter.data.toList.length 4 ++ c.letter.data.toList) ++ (([c.a, c.b].take z.1).flatMap fun x => beBytes (u64 x) (Int.toNat 8))) ++ beBytes (u64 ([c.a, c.b][z.1]'hlt)) (Int.toNat 8) := by
      rw [List.take_succ_eq_append_getElem hlt, List.flatMap_append, ← List.append_assoc]
      simp
    show Mem S _ (bytesD r ((((([] ++ beBytes (u64 c.client) (Int.toNat 1)) ++ beBytes (u64 c.stamp) (Int.toNat 8)) ++ beBytes (u64 c.op) (Int.toNat 1)) ++ beBytes c.letter.data.toList.length 4 ++ c.letter.data.toList) ++ (([c.a, c.b].take (z.1 + 1)).flatMap fun x => beBytes (u64 x) (Int.toNat 8))) :: ρ) w'
    rw [e1]
    exact hw'.less (fun x hx => by rcases List.mem_cons.1 hx with rfl | hx <;> simp [*])
theorem iu_ {x n : Nat} (hw : Mem S σ ρ w) (hn : sizeB n = true) : Calls Tryz.prog 80 #[.slice none 0 0, .int .u64 x, .int .i64 n] w fun e w' => ∃ r, e = .returned r ∧ Mem S σ (bytesD r ([] ++ beBytes x n) :: ρ) w' :=
  (ec_ (hw.add (z := bytesD (.slice none 0 0) []) (IsRow.nil rfl)) List.mem_cons_self (by decide) hn).mono fun _ _ ⟨r, h1, h2⟩ => ⟨r, h1, h2.less (fun x hx => by rcases List.mem_cons.1 hx with h | h <;> simp [h])⟩
set_option maxHeartbeats 1000000 in
theorem fY_ {c : Core} (hw : Mem S σ ρ w) (h1 : c.letter.size ≤ 1000000) (h2 : c.text.size ≤ 1000000) : Calls Tryz.prog 135 #[.agg c.cells.toArray] w fun e w' => ∃ r, e = .returned r ∧ Mem S σ (bytesD r c.bytes :: ρ) w' := by
  have h3 : c.letter.size ≤ lots := by unfold lots; omega
  have h4 : c.text.size ≤ lots := by unfold lots; omega
  have hL : c.letter.data.toList.length ≤ 1000000 := h1
  have hT : c.text.data.toList.length ≤ 1000000 := h2
  refine R_ [.agg c.cells.toArray] Tryz.func135 rfl Tryz.ntmps135 rfl (Mem S σ ρ) hw ?_
  refine d_ (a_ ?_)
  refine am_ (O_ rfl) rfl rfl ?_
  rintro _ _ ⟨b1, rfl, rfl⟩
  refine b_ (h_ rfl) rfl rfl ?_
  refine g_ (c_ ?_)
  refine d_ ?_
  refine U_ _ (.q 0 (.q 1 (.q 2 (.q 4 (.q 5 (.q 6 (.q 8 (.q 9 (.q 10 (.e 3 (.e 7 (.e 11 (.q 12 .nil))))))))))))) (by kernel_rfl) (by kernel_rfl) (fun _ h => h) (fun _ h => h.drew) ?_
  refine l_ rfl (p_ tabOk rfl rfl rfl rfl rfl) rfl rfl ?_
  refine l_ rfl (j_ tabOk rfl rfl (by repeat (first | assumption | exact List.mem_cons_self | exact hmem _ | apply List.mem_cons_of_mem)) (by rfl)) rfl rfl ?_
  refine l_ rfl (az_ rfl Tryz.underlying134 (by kernel_rfl)) rfl rfl ?_
  refine l_ rfl (p_ tabOk rfl rfl rfl rfl rfl) rfl rfl ?_
  refine l_ rfl (j_ tabOk rfl rfl (by repeat (first | assumption | exact List.mem_cons_self | exact hmem _ | apply List.mem_cons_of_mem)) (by rfl)) rfl rfl ?_
  refine l_ rfl (az_ rfl Tryz.underlying134 (by kernel_rfl)) rfl rfl ?_
  refine l_ rfl (p_ tabOk rfl rfl rfl rfl rfl) rfl rfl ?_
  refine l_ rfl (j_ tabOk rfl rfl (by repeat (first | assumption | exact List.mem_cons_self | exact hmem _ | apply List.mem_cons_of_mem)) (by rfl)) rfl rfl ?_
  refine l_ rfl (az_ rfl Tryz.underlying134 (by kernel_rfl)) rfl rfl ?_
  refine J_ rfl (by kernel_rfl) rfl rfl rfl ?_
  intro w hw
  refine (iu_ (x := u64 c.client) (n := 1) hw rfl).mono ?_; rintro _ _ ⟨r, rfl, hm⟩; refine ⟨_, _, rfl, hm, _, fun _ h => h.less (fun _ hx => List.mem_cons_of_mem _ hx), fun _ h => h, ?_⟩; clear hm hw w
  refine J_ rfl (by kernel_rfl) rfl rfl rfl ?_
  intro w hw
  refine (ec_ (l := ([] ++ beBytes (u64 c.client) 1)) (x := u64 c.stamp) (n := 8) hw (by repeat (first | assumption | exact List.mem_cons_self | exact hmem _ | apply List.mem_cons_of_mem)) (by simp only [List.length_append, m_, List.length_nil]; unfold lots; omega) rfl).mono ?_; rintro _ _ ⟨r, rfl, hm⟩; refine ⟨_, _, rfl, hm, _, fun _ h => h.less (fun _ hx => List.mem_cons_of_mem _ hx), fun _ h => h, ?_⟩; clear hm hw w
  refine J_ rfl (by kernel_rfl) rfl rfl rfl ?_
  intro w hw
  refine (ec_ (l := (([] ++ beBytes (u64 c.client) 1) ++ beBytes (u64 c.stamp) 8)) (x := u64 c.op) (n := 1) hw (by repeat (first | assumption | exact List.mem_cons_self | exact hmem _ | apply List.mem_cons_of_mem)) (by simp only [List.length_append, m_, List.length_nil]; unfold lots; omega) rfl).mono ?_; rintro _ _ ⟨r, rfl, hm⟩; refine ⟨_, _, rfl, hm, _, fun _ h => h.less (fun _ hx => List.mem_cons_of_mem _ hx), fun _ h => h, ?_⟩; clear hm hw w
  refine l_ rfl (h_ rfl) rfl rfl ?_
  refine I_ (c_ ?_)
  refine d_ (a_ ?_)
  refine b_ (k_ rfl) rfl rfl ?_
  refine b_ (p_ tabOk rfl rfl rfl rfl rfl) rfl rfl ?_
  refine b_ (j_ tabOk rfl rfl (by repeat (first | assumption | exact List.mem_cons_self | exact hmem _ | apply List.mem_cons_of_mem)) (by rfl)) rfl rfl ?_
  refine am_ (bn_ rfl Tryz.underlying9 Tryz.underlying27 (by assumption)) rfl rfl ?_
  rintro sb19 _ rfl
  refine t_ (by kernel_rfl) rfl rfl rfl ?_
  intro w hw
  refine (dR_ (l := ((([] ++ beBytes (u64 c.client) 1) ++ beBytes (u64 c.stamp) 8) ++ beBytes (u64 c.op) 1)) (m := c.letter.data.toList) hw (by repeat (first | assumption | exact List.mem_cons_self | exact hmem _ | apply List.mem_cons_of_mem)) (by repeat (first | assumption | exact List.mem_cons_self | exact hmem _ | apply List.mem_cons_of_mem)) (by simp only [List.length_append, m_, List.length_nil]; unfold lots; omega) (by omega)).mono ?_; rintro _ _ ⟨r, rfl, hm⟩; refine ⟨_, _, rfl, hm, ?_⟩; clear hm hw w
  refine b_ (h_ rfl) rfl rfl ?_
  refine g_ (c_ ?_)
  refine d_ ?_
  refine U_ _ (.q 0 (.q 1 (.q 2 (.q 3 (.q 5 (.q 6 (.q 7 (.e 4 (.e 8 (.q 9 .nil)))))))))) (by kernel_rfl) (by kernel_rfl) (fun _ h => h) (fun _ h => h.drew) ?_
  refine l_ rfl (k_ rfl) rfl rfl ?_
  refine l_ rfl (p_ tabOk rfl rfl rfl rfl rfl) rfl rfl ?_
  refine l_ rfl (j_ tabOk rfl rfl (by repeat (first | assumption | exact List.mem_cons_self | exact hmem _ | apply List.mem_cons_of_mem)) (by rfl)) rfl rfl ?_
  refine l_ rfl (az_ rfl Tryz.underlying134 (by kernel_rfl)) rfl rfl ?_
  refine l_ rfl (p_ tabOk rfl rfl rfl rfl rfl) rfl rfl ?_
  refine l_ rfl (j_ tabOk rfl rfl (by repeat (first | assumption | exact List.mem_cons_self | exact hmem _ | apply List.mem_cons_of_mem)) (by rfl)) rfl rfl ?_
  refine l_ rfl (az_ rfl Tryz.underlying134 (by kernel_rfl)) rfl rfl ?_
  refine J_ rfl (by kernel_rfl) rfl rfl rfl ?_
  intro w hw
  refine (ec_ (l := (((([] ++ beBytes (u64 c.client) 1) ++ beBytes (u64 c.stamp) 8) ++ beBytes (u64 c.op) 1) ++ beBytes c.letter.data.toList.length 4 ++ c.letter.data.toList)) (x := u64 c.a) (n := 8) hw (by repeat (first | assumption | exact List.mem_cons_self | exact hmem _ | apply List.mem_cons_of_mem)) (by simp only [List.length_append, m_, List.length_nil]; unfold lots; omega) rfl).mono ?_; rintro _ _ ⟨r, rfl, hm⟩; refine ⟨_, _, rfl, hm, _, fun _ h => h.less (fun _ hx => List.mem_cons_of_mem _ hx), fun _ h => h, ?_⟩; clear hm hw w
  refine J_ rfl (by kernel_rfl) rfl rfl rfl ?_
  intro w hw
  refine (ec_ (l := ((((([] ++ beBytes (u64 c.client) 1) ++ beBytes (u64 c.stamp) 8) ++ beBytes (u64 c.op) 1) ++ beBytes c.letter.data.toList.length 4 ++ c.letter.data.toList) ++ beBytes (u64 c.a) 8)) (x := u64 c.b) (n := 8) hw (by repeat (first | assumption | exact List.mem_cons_self | exact hmem _ | apply List.mem_cons_of_mem)) (by simp only [List.length_append, m_, List.length_nil]; unfold lots; omega) rfl).mono ?_; rintro _ _ ⟨r, rfl, hm⟩; refine ⟨_, _, rfl, hm, _, fun _ h => h.less (fun _ hx => List.mem_cons_of_mem _ hx), fun _ h => h, ?_⟩; clear hm hw w
  refine l_ rfl (h_ rfl) rfl rfl ?_
  refine I_ (c_ ?_)
  refine d_ (a_ ?_)
  refine b_ (k_ rfl) rfl rfl ?_
  refine b_ (p_ tabOk rfl rfl rfl rfl rfl) rfl rfl ?_
  refine b_ (j_ tabOk rfl rfl (by repeat (first | assumption | exact List.mem_cons_self | exact hmem _ | apply List.mem_cons_of_mem)) (by rfl)) rfl rfl ?_
  refine am_ (bn_ rfl Tryz.underlying9 Tryz.underlying27 (by assumption)) rfl rfl ?_
  rintro sb33 _ rfl
  refine t_ (by kernel_rfl) rfl rfl rfl ?_
  intro w hw
  refine (dR_ (l := (((((([] ++ beBytes (u64 c.client) 1) ++ beBytes (u64 c.stamp) 8) ++ beBytes (u64 c.op) 1) ++ beBytes c.letter.data.toList.length 4 ++ c.letter.data.toList) ++ beBytes (u64 c.a) 8) ++ beBytes (u64 c.b) 8)) (m := c.text.data.toList) hw (by repeat (first | assumption | exact List.mem_cons_self | exact hmem _ | apply List.mem_cons_of_mem)) (by repeat (first | assumption | exact List.mem_cons_self | exact hmem _ | apply List.mem_cons_of_mem)) (by simp only [List.length_append, m_, List.length_nil]; unfold lots; omega) (by omega)).mono ?_; rintro _ _ ⟨r, rfl, hm⟩; refine ⟨_, _, rfl, hm, ?_⟩; clear hm hw w
  refine b_ (h_ rfl) rfl rfl ?_
  refine g_ (c_ ?_)
  refine n_ ?_
  refine C_ rfl rfl ?_
  intro w' hw'
  refine ⟨_, rfl, (hw'.sub (fun _ h => h) (List.sublist_cons_self _ _)).less (fun x hx => ?_)⟩
  rcases List.mem_cons.1 hx with rfl | hx
  · have e3 : c.bytes = (((((([] ++ beBytes (u64 c.client) 1) ++ beBytes (u64 c.stamp) 8) ++ beBytes (u64 c.op) 1) ++ beBytes c.letter.data.toList.length 4 ++ c.letter.data.toList) ++ beBytes (u64 c.a) 8) ++ beBytes (u64 c.b) 8) ++ beBytes c.text.data.toList.length 4 ++ c.text.data.toList := by simp [Core.bytes, rowB]
    rw [e3]; simp
  · simp [*]
end
structure Ent where
  core : Core
  mask : Nat
def Ent.cells (e : Ent) : List Value := [.int .i64 e.core.client, .int .i64 e.core.stamp, .int .i64 e.core.op, .string e.core.letter, .int .i64 e.core.a, .int .i64 e.core.b, .string e.core.text, .int .u32 e.mask]
theorem Ent.one (e : Ent) : ∀ u ∈ e.cells, u.oneCell' = true := by
  intro u hu
  simp only [Ent.cells, List.mem_cons, List.not_mem_nil, or_false] at hu
  rcases hu with rfl | rfl | rfl | rfl | rfl | rfl | rfl | rfl <;> rfl
abbrev entsD (v : Value) (es : List Ent) : Dt := rowD v es.length (es.flatMap Ent.cells)
def chkL (n : Int) : Option Int → List Ent → Int
  | _, [] => 0
  | p, e :: es => if e.core.check n ≠ 0 then e.core.check n else if 2 ^ n.toNat ≤ e.mask then 5 else if (match p with | some c => decide (e.core.client ≤ c) | none => false) = true then 15 else chkL n (some e.core.client) es
def chkB (es : List Ent) (n : Int) : Int := if n < 1 ∨ 7 < n then 1 else if 4 < es.length then 4 else chkL n none es
def ahead (es : List Ent) (k : Nat) : Option Int := if k = 0 then none else (es[k - 1]?).map (·.core.client)
theorem jf_ {n : Int} {es : List Ent} {k : Nat} (h : k < es.length) : chkL n (ahead es k) (es.drop k) = if es[k].core.check n ≠ 0 then es[k].core.check n else if 2 ^ n.toNat ≤ es[k].mask then 5 else if 0 < k ∧ es[k].core.client ≤ (es[k - 1]'(by omega)).core.client then 15 else chkL n (ahead es (k + 1)) (es.drop (k + 1)) := by
  rw [List.drop_eq_getElem_cons h]
  simp only [chkL]
  have e1 : ahead es (k + 1) = some es[k].core.client := by simp [ahead, h]
  rw [e1]
  congr 2
  by_cases hk : k = 0
  · subst hk; simp [ahead]
  · have h0 : 0 < k := by omega
    have e2 : ahead es k = some (es[k - 1]'(by omega)).core.client := by
      simp only [ahead, if_neg hk]
      rw [List.getElem?_eq_getElem (by omega)]
      rfl
    rw [e2]
    simp [h0]
theorem dO_ {m : Nat} {n : Int} (h1 : 1 ≤ n) (h7 : n ≤ 7) : ((m : Int).fdiv (2 ^ (min n.toNat 32)) ≠ 0) ↔ 2 ^ n.toNat ≤ m := by
  obtain ⟨k, rfl⟩ : ∃ k : Nat, n = k := ⟨n.toNat, by omega⟩
  rw [Int.toNat_natCast, Nat.min_eq_left (by omega), Int.fdiv_eq_ediv_of_nonneg _ (Int.pow_nonneg (by decide))]
  rw [show (2 : Int) ^ k = ((2 ^ k : Nat) : Int) by simp, ← Int.natCast_ediv]
  have h0 : 0 < 2 ^ k := Nat.pow_pos (by omega)
  have h2 : m / 2 ^ k = 0 ↔ m < 2 ^ k := by rw [Nat.div_eq_zero_iff]; omega
  omega
def pw (q : Nat) : Nat := 2 ^ q
theorem pw_succ (q : Nat) : ((pw (q + 1) : Nat) : Int) = ((pw q : Nat) : Int) * 2 := by unfold pw; rw [Nat.pow_succ]; simp
theorem pw_le {q : Nat} (h : q ≤ 6) : pw q ≤ 64 := by
  unfold pw
  rcases (by omega : q = 0 ∨ q = 1 ∨ q = 2 ∨ q = 3 ∨ q = 4 ∨ q = 5 ∨ q = 6) with h | h | h | h | h | h | h <;> rw [h] <;> decide
section
variable {S : List (World × List Nat)} {σ τ : Blks} {ρ : List Dt} {w : World}
set_option maxHeartbeats 1000000 in
theorem dF_ {v : Value} {es : List Ent} {n : Int} (hw : Mem S σ ρ w) (he : entsD v es ∈ ρ) (hl : es.length ≤ 1000000) : Calls Tryz.prog 102 #[v, .int .i64 n] w fun e w' => e = .returned (.int .i64 (chkB es n)) ∧ Mem S σ ρ w' := by
  obtain ⟨A, c, rfl, hs1, hs2, hs3⟩ := (hw.data he).shape
  have hA : es ≠ [] → ∃ b off, A = some ⟨b, off, none⟩ := fun h => cl_ (hw.data he) (by cases es with | nil => exact absurd rfl h | cons e es => simp [Ent.cells])
  refine R_ [.slice A es.length c, .int .i64 n] Tryz.func102 rfl Tryz.ntmps102 rfl (Mem S σ ρ) hw ?_
  refine d_ (a_ ?_)
  refine b_ (h_ rfl) rfl rfl ?_
  refine g_ (c_ ?_)
  refine d_ ?_
  refine u_ ?_
  refine d_ (a_ ?_)
  refine b_ (k_ rfl) rfl rfl ?_
  refine b_ (an_ rfl rfl) rfl rfl ?_
  refine b_ (k_ rfl) rfl rfl ?_
  refine z_ (t := 11) rfl ?_ ?_
  · intro hc11
    iterate 2 refine Y_ rfl rfl ?_
    refine b_ (F_ rfl rfl) rfl rfl ?_
    refine b_ (h_ rfl) rfl rfl ?_
    refine g_ (c_ ?_)
    refine M_ rfl ?_
    refine d_ (a_ ?_)
    refine b_ (h_ rfl) rfl rfl ?_
    refine g_ (c_ ?_)
    refine n_ ?_
    refine B_ ?_
    refine i_ (by intro h; cases h) ?_
    refine C_ rfl rfl ?_
    intro w' hw'
    refine ⟨?_, hw'⟩; congr 2; unfold chkB; rw [if_pos (by omega)]
  intro hc11
  refine b_ (k_ rfl) rfl rfl ?_
  refine b_ (aA_ rfl rfl) rfl rfl ?_
  refine b_ (G_ rfl rfl) rfl rfl ?_
  refine b_ (h_ rfl) rfl rfl ?_
  refine g_ (c_ ?_)
  refine o_ rfl ?_ ?_
  · intro hc8
    refine d_ (a_ ?_)
    refine b_ (h_ rfl) rfl rfl ?_
    refine g_ (c_ ?_)
    refine n_ ?_
    refine B_ ?_
    refine i_ (by intro h; cases h) ?_
    refine C_ rfl rfl ?_
    intro w' hw'
    refine ⟨?_, hw'⟩; congr 2; unfold chkB; rw [if_pos (by omega)]
  intro hc8
  refine d_ (a_ ?_)
  refine b_ (k_ rfl) rfl rfl ?_
  refine b_ (w_ rfl Tryz.underlying75) rfl rfl ?_
  refine b_ (aA_ rfl rfl) rfl rfl ?_
  refine b_ (h_ rfl) rfl rfl ?_
  refine g_ (c_ ?_)
  refine o_ rfl ?_ ?_
  · intro hc15
    refine d_ (a_ ?_)
    refine b_ (h_ rfl) rfl rfl ?_
    refine g_ (c_ ?_)
    refine n_ ?_
    refine B_ ?_
    refine i_ (by intro h; cases h) ?_
    refine C_ rfl rfl ?_
    intro w' hw'
    refine ⟨?_, hw'⟩; congr 2; unfold chkB; rw [if_neg (by omega), if_pos (by omega)]
  intro hc15
  refine s_ ?_
  refine r_ ?_
  refine c_ ?_
  refine d_ ?_
  refine d_ (a_ ?_)
  refine b_ (k_ rfl) rfl rfl ?_
  refine b_ (w_ rfl Tryz.underlying75) rfl rfl ?_
  refine b_ (k_ rfl) rfl rfl ?_
  refine g_ (c_ ?_)
  refine u_ ?_
  refine W_ (ι := Nat) (fun k => [(0, .slice A es.length c), (1, .int .i64 n), (19, .slice A es.length c), (20, .int .i64 (es.length : Nat)), (21, .int .i64 (k : Nat))]) (fun k w' => (k ≤ es.length ∧ chkL n none es = chkL n (ahead es k) (es.drop k)) ∧ Mem S σ ρ w') (fun k => es.length - k) 0 (by exact ⟨rfl, rfl, rfl, rfl, rfl, trivial⟩) (fun w' hw' => ⟨⟨Nat.zero_le _, rfl⟩, hw'⟩) ?_
  intro k
  refine aU_ ?_
  rintro ⟨hk, hk2⟩
  refine d_ (a_ ?_)
  refine b_ (an_ rfl rfl) rfl rfl ?_
  refine g_ (c_ ?_)
  refine d_ ?_
  refine o_ rfl ?_ ?_
  rotate_left
  · intro hc22
    refine T_ ?_
    refine i_ (by intro h; cases h) ?_
    refine i_ (by intro h; cases h) ?_
    refine S_ ?_
    refine c_ ?_
    refine d_ (a_ ?_)
    refine b_ (h_ rfl) rfl rfl ?_
    refine g_ (c_ ?_)
    refine n_ ?_
    refine C_ rfl rfl ?_
    intro w' hw'
    refine ⟨?_, hw'⟩; congr 2; unfold chkB; rw [if_neg (by omega), if_neg (by omega), hk2, List.drop_eq_nil_of_le (by omega)]; rfl
  intro hc22
  have hlt : k < es.length := by omega
  have hat := jf_ (n := n) hlt
  obtain ⟨bb, off, rfl⟩ := hA (by intro h0; rw [h0] at hlt; simp at hlt)
  refine s_ ?_
  refine c_ ?_
  refine d_ ?_
  refine u_ ?_
  refine d_ (a_ ?_)
  refine b_ (k_ rfl) rfl rfl ?_
  refine b_ (au_ tabOk Tryz.underlying75 rfl rfl rfl (by omega)) rfl rfl ?_
  refine b_ (bl_ (f := Ent.cells) tabOk rfl rfl rfl (by repeat (first | assumption | exact List.mem_cons_self | exact hmem _ | apply List.mem_cons_of_mem)) (fun _ => rfl) hlt) rfl rfl ?_
  refine am_ (H_ tabOk rfl) rfl rfl ?_
  rintro _ _ ⟨b6, rfl, rfl⟩
  refine b_ (h_ rfl) rfl rfl ?_
  refine am_ (bQ_ (L' := (es[k]'hlt).cells) (vs := (es[k]'hlt).cells) tabOk rfl rfl rfl (by repeat (first | assumption | exact Upd.here | exact hrep _ _ | apply Upd.there)) (by rfl) (Nat.le_of_ble_eq_true (by rfl)) (Ent.one _) (by rfl)) rfl rfl ?_; rintro _ _ ⟨rfl, rfl⟩
  refine g_ (c_ ?_)
  refine d_ ?_
  refine d_ (a_ ?_)
  refine b_ (p_ tabOk rfl rfl rfl rfl rfl) rfl rfl ?_
  refine b_ (aQ_ tabOk rfl rfl rfl (by repeat (first | assumption | exact List.mem_cons_self | exact hmem _ | apply List.mem_cons_of_mem)) (Nat.le_of_ble_eq_true (by rfl))) rfl rfl ?_
  refine b_ (k_ rfl) rfl rfl ?_
  refine t_ (by kernel_rfl) rfl rfl rfl ?_
  intro w hw
  refine (check_c (c := (es[k]'hlt).core) hw).mono ?_; rintro _ _ ⟨rfl, hm⟩; refine ⟨_, _, rfl, hm, ?_⟩; clear hm hw w
  refine b_ (h_ rfl) rfl rfl ?_
  refine g_ (c_ ?_)
  refine d_ (a_ ?_)
  refine b_ (k_ rfl) rfl rfl ?_
  refine b_ (bx_ rfl rfl) rfl rfl ?_
  refine g_ (c_ ?_)
  refine o_ rfl ?_ ?_
  · intro hc31
    refine d_ (a_ ?_)
    refine b_ (k_ rfl) rfl rfl ?_
    refine b_ (h_ rfl) rfl rfl ?_
    refine g_ (c_ ?_)
    refine n_ ?_
    refine i_ (by intro h; cases h) ?_
    refine B_ ?_
    refine i_ (by intro h; cases h) ?_
    refine i_ (by intro h; cases h) ?_
    refine B_ ?_
    refine i_ (by intro h; cases h) ?_
    refine C_ rfl rfl ?_
    intro w' hw'
    refine ⟨?_, hw'.sub (fun _ h => h) (List.sublist_cons_self _ _)⟩; congr 2; unfold chkB; rw [if_neg (by omega), if_neg (by omega), hk2, hat, if_pos hc31]
  intro hc31
  refine s_ ?_
  refine c_ ?_
  refine u_ ?_
  refine d_ (a_ ?_)
  refine b_ (p_ tabOk rfl rfl rfl rfl rfl) rfl rfl ?_
  refine b_ (j_ tabOk rfl rfl (by repeat (first | assumption | exact List.mem_cons_self | exact hmem _ | apply List.mem_cons_of_mem)) (by rfl)) rfl rfl ?_
  refine b_ (k_ rfl) rfl rfl ?_
  refine b_ (ab_ rfl Tryz.underlying172 (by kernel_rfl) (by simp only [InR, lo, hi]; omega)) rfl rfl ?_
  refine b_ (fD_ rfl rfl (by omega)) rfl rfl ?_
  refine b_ (bx_ rfl rfl) rfl rfl ?_
  refine b_ (h_ rfl) rfl rfl ?_
  refine g_ (c_ ?_)
  refine o_ rfl ?_ ?_
  · intro hc33
    refine d_ (a_ ?_)
    refine b_ (h_ rfl) rfl rfl ?_
    refine g_ (c_ ?_)
    refine n_ ?_
    refine B_ ?_
    refine B_ ?_
    refine i_ (by intro h; cases h) ?_
    refine i_ (by intro h; cases h) ?_
    refine B_ ?_
    refine i_ (by intro h; cases h) ?_
    refine C_ rfl rfl ?_
    intro w' hw'
    refine ⟨?_, hw'.sub (fun _ h => h) (List.sublist_cons_self _ _)⟩; congr 2; unfold chkB; rw [if_neg (by omega), if_neg (by omega), hk2, hat, if_neg hc31, if_pos ((dO_ (by omega) (by omega)).1 hc33)]
  intro hc33
  refine d_ ?_
  refine U_ _ (.q 0 (.q 1 (.q 2 (.q 3 (.q 4 (.q 5 (.q 6 (.q 7 (.q 8 (.q 9 (.q 10 (.q 11 (.q 12 (.q 13 (.q 14 (.q 15 .nil)))))))))))))))) (by kernel_rfl) (by kernel_rfl) (fun _ h => h) (fun _ h => h.drew) ?_
  refine l_ rfl (k_ rfl) rfl rfl ?_
  refine l_ rfl (aA_ rfl rfl) rfl rfl ?_
  refine l_ rfl (k_ rfl) rfl rfl ?_
  refine aR_ (t := 43) rfl ?_ ?_
  rotate_left
  · intro hc43
    iterate 11 refine ch_ rfl rfl rfl ?_
    refine l_ rfl (G_ rfl rfl) rfl rfl ?_
    refine l_ rfl (h_ rfl) rfl rfl ?_
    refine I_ (c_ ?_)
    refine Z_ rfl ?_
    refine s_ ?_
    refine r_ ?_
    refine r_ ?_
    refine c_ ?_
    refine a_ ?_
    refine b_ (v_ rfl rfl (by simp only [InR, lo, hi]; omega)) rfl rfl ?_
    refine b_ (k_ rfl) rfl rfl ?_
    refine g_ ?_
    have hnext : chkL n none es = chkL n (ahead es (k + 1)) (es.drop (k + 1)) := by
      rw [hk2, hat, if_neg hc31, if_neg (fun h => hc33 ((dO_ (by omega) (by omega)).2 h)), if_neg (fun h => hc43 (by omega))]
    exact A_ (k + 1) (by omega) (by exact ⟨rfl, rfl, rfl, rfl, rfl, trivial⟩) (fun w' hw' => ⟨⟨hlt, hnext⟩, hw'.sub (fun _ h => h) (List.sublist_cons_self _ _)⟩)
  intro hc43
  refine l_ rfl (k_ rfl) rfl rfl ?_
  refine l_ rfl (k_ rfl) rfl rfl ?_
  refine l_ rfl (du_ (i := k) (j := 1) rfl rfl rfl (by omega) (by simp only [InR, lo, hi]; omega)) rfl rfl ?_
  refine l_ rfl (au_ tabOk Tryz.underlying75 rfl rfl rfl (by omega)) rfl rfl ?_
  refine l_ rfl (p_ tabOk rfl rfl rfl rfl rfl) rfl rfl ?_
  refine l_ rfl (p_ tabOk rfl rfl rfl rfl rfl) rfl rfl ?_
  refine l_ rfl (e2_ (f := Ent.cells) (s := 8) (q := k - 1) (fo := 0) tabOk rfl rfl (by repeat (first | assumption | exact List.mem_cons_self | exact hmem _ | apply List.mem_cons_of_mem)) (fun _ => rfl) (by omega) (by rfl)) rfl rfl ?_
  refine l_ rfl (p_ tabOk rfl rfl rfl rfl rfl) rfl rfl ?_
  refine l_ rfl (p_ tabOk rfl rfl rfl rfl rfl) rfl rfl ?_
  refine l_ rfl (j_ tabOk rfl rfl (by repeat (first | assumption | exact List.mem_cons_self | exact hmem _ | apply List.mem_cons_of_mem)) (by rfl)) rfl rfl ?_
  refine l_ rfl (bH_ rfl rfl) rfl rfl ?_
  refine l_ rfl (F_ rfl rfl) rfl rfl ?_
  refine l_ rfl (h_ rfl) rfl rfl ?_
  refine I_ (c_ ?_)
  refine o_ rfl ?_ ?_
  rotate_left
  · intro hc40
    refine s_ ?_
    refine r_ ?_
    refine r_ ?_
    refine c_ ?_
    refine a_ ?_
    refine b_ (v_ rfl rfl (by simp only [InR, lo, hi]; omega)) rfl rfl ?_
    refine b_ (k_ rfl) rfl rfl ?_
    refine g_ ?_
    have hnext : chkL n none es = chkL n (ahead es (k + 1)) (es.drop (k + 1)) := by
      rw [hk2, hat, if_neg hc31, if_neg (fun h => hc33 ((dO_ (by omega) (by omega)).2 h)), if_neg (fun h => hc40 h.2)]
    exact A_ (k + 1) (by omega) (by exact ⟨rfl, rfl, rfl, rfl, rfl, trivial⟩) (fun w' hw' => ⟨⟨hlt, hnext⟩, hw'.sub (fun _ h => h) (List.sublist_cons_self _ _)⟩)
  intro hc40
  refine d_ (a_ ?_)
  refine b_ (h_ rfl) rfl rfl ?_
  refine g_ (c_ ?_)
  refine n_ ?_
  refine B_ ?_
  refine B_ ?_
  refine i_ (by intro h; cases h) ?_
  refine i_ (by intro h; cases h) ?_
  refine B_ ?_
  refine i_ (by intro h; cases h) ?_
  refine C_ rfl rfl ?_
  intro w' hw'
  refine ⟨?_, hw'.sub (fun _ h => h) (List.sublist_cons_self _ _)⟩; congr 2; unfold chkB; rw [if_neg (by omega), if_neg (by omega), hk2, hat, if_neg hc31, if_neg (fun h => hc33 ((dO_ (by omega) (by omega)).2 h)), if_pos ⟨by omega, hc40⟩]
set_option maxHeartbeats 1000000 in
theorem ff_ {v : Value} {es : List Ent} {n : Int} (hw : Mem S σ ρ w) (he : entsD v es ∈ ρ) (hl : es.length ≤ 1000000) (hs : ∀ e ∈ es, e.core.letter.size ≤ lots) : Calls Tryz.prog 96 #[v, .int .i64 n] w fun e w' => e = .returned (.int .i64 (chkB es n)) ∧ Mem S σ ρ w' := by
  obtain ⟨A, c, rfl, hs1, hs2, hs3⟩ := (hw.data he).shape
  have hA : es ≠ [] → ∃ b off, A = some ⟨b, off, none⟩ := fun h => cl_ (hw.data he) (by cases es with | nil => exact absurd rfl h | cons e es => simp [Ent.cells])
  refine R_ [.slice A es.length c, .int .i64 n] Tryz.func96 rfl Tryz.ntmps96 rfl (Mem S σ ρ) hw ?_
  refine d_ (a_ ?_)
  refine b_ (h_ rfl) rfl rfl ?_
  refine g_ (c_ ?_)
  refine d_ ?_
  refine d_ (a_ ?_)
  refine b_ (k_ rfl) rfl rfl ?_
  refine b_ (an_ rfl rfl) rfl rfl ?_
  refine b_ (k_ rfl) rfl rfl ?_
  refine z_ (t := 12) rfl ?_ ?_
  · intro hc12
    iterate 2 refine Y_ rfl rfl ?_
    refine b_ (F_ rfl rfl) rfl rfl ?_
    refine g_ (c_ ?_)
    refine M_ rfl ?_
    refine d_ (a_ ?_)
    refine b_ (h_ rfl) rfl rfl ?_
    refine g_ (c_ ?_)
    refine n_ ?_
    refine i_ (by intro h; cases h) ?_
    refine C_ rfl rfl ?_
    intro w' hw'
    refine ⟨?_, hw'⟩; congr 2; unfold chkB; rw [if_pos (by omega)]
  intro hc12
  refine b_ (k_ rfl) rfl rfl ?_
  refine b_ (aA_ rfl rfl) rfl rfl ?_
  refine b_ (G_ rfl rfl) rfl rfl ?_
  refine g_ (c_ ?_)
  refine o_ rfl ?_ ?_
  · intro hc15
    refine d_ (a_ ?_)
    refine b_ (h_ rfl) rfl rfl ?_
    refine g_ (c_ ?_)
    refine n_ ?_
    refine i_ (by intro h; cases h) ?_
    refine C_ rfl rfl ?_
    intro w' hw'
    refine ⟨?_, hw'⟩; congr 2; unfold chkB; rw [if_pos (by omega)]
  intro hc15
  refine s_ ?_
  refine c_ ?_
  refine d_ ?_
  refine d_ (a_ ?_)
  refine b_ (k_ rfl) rfl rfl ?_
  refine b_ (w_ rfl Tryz.underlying75) rfl rfl ?_
  refine b_ (aA_ rfl rfl) rfl rfl ?_
  refine g_ (c_ ?_)
  refine o_ rfl ?_ ?_
  · intro hc18
    refine d_ (a_ ?_)
    refine b_ (h_ rfl) rfl rfl ?_
    refine g_ (c_ ?_)
    refine n_ ?_
    refine i_ (by intro h; cases h) ?_
    refine C_ rfl rfl ?_
    intro w' hw'
    refine ⟨?_, hw'⟩; congr 2; unfold chkB; rw [if_neg (by omega), if_pos (by omega)]
  intro hc18
  refine s_ ?_
  refine c_ ?_
  refine d_ (a_ ?_)
  refine b_ (h_ rfl) rfl rfl ?_
  refine g_ (c_ ?_)
  refine d_ ?_
  refine d_ (a_ ?_)
  refine b_ (h_ rfl) rfl rfl ?_
  refine g_ (c_ ?_)
  refine u_ ?_
  refine W_ (ι := Nat) (fun q => [(0, .slice A es.length c), (1, .int .i64 n), (5, .int .u32 (pw q : Nat)), (6, .int .i64 (q : Nat))]) (fun q w' => (q : Int) ≤ n ∧ Mem S σ ρ w') (fun q => n.toNat - q) 0 (by exact ⟨rfl, rfl, rfl, rfl, trivial⟩) (fun w' hw' => ⟨by omega, hw'⟩) ?_
  intro q
  refine aU_ ?_
  intro hq
  refine d_ ?_
  refine d_ (a_ ?_)
  iterate 2 refine b_ (k_ rfl) rfl rfl ?_
  refine b_ (an_ rfl rfl) rfl rfl ?_
  refine g_ (c_ ?_)
  refine o_ rfl ?_ ?_
  · intro hc21
    have h7 : q ≤ 6 := by omega
    have hq1 := pw_le h7
    refine s_ ?_
    refine c_ ?_
    refine d_ ?_
    refine u_ ?_
    refine a_ ?_
    refine b_ (k_ rfl) rfl rfl ?_
    refine b_ (di_ rfl rfl (by simp only [InR, lo, hi]; omega)) rfl rfl ?_
    refine b_ (h_ rfl) rfl rfl ?_
    refine g_ ?_
    refine r_ ?_
    refine c_ ?_
    refine a_ ?_
    refine b_ (k_ rfl) rfl rfl ?_
    refine b_ (v_ rfl rfl (by simp only [InR, lo, hi]; omega)) rfl rfl ?_
    refine b_ (h_ rfl) rfl rfl ?_
    refine g_ ?_
    exact A_ (q + 1) (by omega) (by exact ⟨rfl, rfl, by show some (Value.int _ _) = some (Value.int _ _); rw [pw_succ], rfl, trivial⟩) (fun w' hw' => ⟨by omega, hw'⟩)
  intro hc21
  have hqn : q = n.toNat := by omega
  subst hqn
  refine T_ ?_
  refine i_ (by intro h; cases h) ?_
  refine i_ (by intro h; cases h) ?_
  refine S_ ?_
  refine c_ ?_
  refine d_ ?_
  refine d_ (a_ ?_)
  refine b_ (k_ rfl) rfl rfl ?_
  refine b_ (w_ rfl Tryz.underlying75) rfl rfl ?_
  refine b_ (k_ rfl) rfl rfl ?_
  refine g_ (c_ ?_)
  refine u_ ?_
  refine W_ (ι := Nat) (fun k => [(0, .slice A es.length c), (1, .int .i64 n), (5, .int .u32 (pw n.toNat : Nat)), (26, .slice A es.length c), (27, .int .i64 (es.length : Nat)), (28, .int .i64 (k : Nat))]) (fun k w' => (k ≤ es.length ∧ chkL n none es = chkL n (ahead es k) (es.drop k)) ∧ Mem S σ ρ w') (fun k => es.length - k) 0 (by exact ⟨rfl, rfl, rfl, rfl, rfl, rfl, trivial⟩) (fun w' hw' => ⟨⟨Nat.zero_le _, rfl⟩, hw'⟩) ?_
  intro k
  refine aU_ ?_
  rintro ⟨hk, hk2⟩
  refine d_ (a_ ?_)
  refine b_ (an_ rfl rfl) rfl rfl ?_
  refine g_ (c_ ?_)
  refine d_ ?_
  refine o_ rfl ?_ ?_
  rotate_left
  · intro hc29
    refine T_ ?_
    refine i_ (by intro h; cases h) ?_
    refine i_ (by intro h; cases h) ?_
    refine S_ ?_
    refine c_ ?_
    refine d_ (a_ ?_)
    refine b_ (h_ rfl) rfl rfl ?_
    refine g_ (c_ ?_)
    refine n_ ?_
    refine C_ rfl rfl ?_
    intro w' hw'
    refine ⟨?_, hw'⟩; congr 2; unfold chkB; rw [if_neg (by omega), if_neg (by omega), hk2, List.drop_eq_nil_of_le (by omega)]; rfl
  intro hc29
  have hlt : k < es.length := by omega
  have hat := jf_ (n := n) hlt
  obtain ⟨bb, off, rfl⟩ := hA (by intro h0; rw [h0] at hlt; simp at hlt)
  refine s_ ?_
  refine c_ ?_
  refine d_ ?_
  refine u_ ?_
  refine d_ (a_ ?_)
  refine b_ (k_ rfl) rfl rfl ?_
  refine b_ (au_ tabOk Tryz.underlying75 rfl rfl rfl (by omega)) rfl rfl ?_
  refine b_ (bl_ (f := Ent.cells) tabOk rfl rfl rfl (by repeat (first | assumption | exact List.mem_cons_self | exact hmem _ | apply List.mem_cons_of_mem)) (fun _ => rfl) hlt) rfl rfl ?_
  refine am_ (H_ tabOk rfl) rfl rfl ?_
  rintro _ _ ⟨b8, rfl, rfl⟩
  refine b_ (h_ rfl) rfl rfl ?_
  refine am_ (bQ_ (L' := (es[k]'hlt).cells) (vs := (es[k]'hlt).cells) tabOk rfl rfl rfl (by repeat (first | assumption | exact Upd.here | exact hrep _ _ | apply Upd.there)) (by rfl) (Nat.le_of_ble_eq_true (by rfl)) (Ent.one _) (by rfl)) rfl rfl ?_; rintro _ _ ⟨rfl, rfl⟩
  refine g_ (c_ ?_)
  refine d_ ?_
  refine d_ (a_ ?_)
  refine b_ (p_ tabOk rfl rfl rfl rfl rfl) rfl rfl ?_
  refine b_ (aQ_ tabOk rfl rfl rfl (by repeat (first | assumption | exact List.mem_cons_self | exact hmem _ | apply List.mem_cons_of_mem)) (Nat.le_of_ble_eq_true (by rfl))) rfl rfl ?_
  refine b_ (k_ rfl) rfl rfl ?_
  refine t_ (by kernel_rfl) rfl rfl rfl ?_
  intro w hw
  refine (rcheck_c (c := (es[k]'hlt).core) hw (hs _ (List.getElem_mem hlt))).mono ?_; rintro _ _ ⟨rfl, hm⟩; refine ⟨_, _, rfl, hm, ?_⟩; clear hm hw w
  refine b_ (h_ rfl) rfl rfl ?_
  refine g_ (c_ ?_)
  refine d_ (a_ ?_)
  refine b_ (k_ rfl) rfl rfl ?_
  refine b_ (bx_ rfl rfl) rfl rfl ?_
  refine g_ (c_ ?_)
  refine o_ rfl ?_ ?_
  · intro hc38
    refine d_ (a_ ?_)
    refine b_ (k_ rfl) rfl rfl ?_
    refine b_ (h_ rfl) rfl rfl ?_
    refine g_ (c_ ?_)
    refine n_ ?_
    refine i_ (by intro h; cases h) ?_
    refine B_ ?_
    refine i_ (by intro h; cases h) ?_
    refine i_ (by intro h; cases h) ?_
    refine B_ ?_
    refine i_ (by intro h; cases h) ?_
    refine C_ rfl rfl ?_
    intro w' hw'
    refine ⟨?_, hw'.sub (fun _ h => h) (List.sublist_cons_self _ _)⟩; congr 2; unfold chkB; rw [if_neg (by omega), if_neg (by omega), hk2, hat, if_pos hc38]
  intro hc38
  refine s_ ?_
  refine c_ ?_
  refine d_ ?_
  refine d_ (a_ ?_)
  refine b_ (p_ tabOk rfl rfl rfl rfl rfl) rfl rfl ?_
  refine b_ (j_ tabOk rfl rfl (by repeat (first | assumption | exact List.mem_cons_self | exact hmem _ | apply List.mem_cons_of_mem)) (by rfl)) rfl rfl ?_
  refine b_ (k_ rfl) rfl rfl ?_
  refine b_ (bH_ rfl rfl) rfl rfl ?_
  refine g_ (c_ ?_)
  refine o_ rfl ?_ ?_
  · intro hc43
    refine d_ (a_ ?_)
    refine b_ (h_ rfl) rfl rfl ?_
    refine g_ (c_ ?_)
    refine n_ ?_
    refine i_ (by intro h; cases h) ?_
    refine B_ ?_
    refine i_ (by intro h; cases h) ?_
    refine i_ (by intro h; cases h) ?_
    refine B_ ?_
    refine i_ (by intro h; cases h) ?_
    refine C_ rfl rfl ?_
    intro w' hw'
    refine ⟨?_, hw'.sub (fun _ h => h) (List.sublist_cons_self _ _)⟩; congr 2; unfold chkB; rw [if_neg (by omega), if_neg (by omega), hk2, hat, if_neg hc38, if_pos (by unfold pw at hc43; omega)]
  intro hc43
  refine s_ ?_
  refine c_ ?_
  refine d_ ?_
  refine U_ _ (.q 0 (.q 1 (.q 2 (.q 3 (.q 4 (.q 5 (.q 6 (.q 7 (.q 8 (.q 9 (.q 10 (.q 11 (.q 12 (.q 13 (.q 14 .nil))))))))))))))) (by kernel_rfl) (by kernel_rfl) (fun _ h => h) (fun _ h => h.drew) ?_
  refine l_ rfl (k_ rfl) rfl rfl ?_
  refine l_ rfl (aA_ rfl rfl) rfl rfl ?_
  refine l_ rfl (k_ rfl) rfl rfl ?_
  refine aR_ (t := 46) rfl ?_ ?_
  rotate_left
  · intro hc46
    iterate 11 refine ch_ rfl rfl rfl ?_
    refine l_ rfl (G_ rfl rfl) rfl rfl ?_
    refine I_ (c_ ?_)
    refine Z_ rfl ?_
    refine s_ ?_
    refine r_ ?_
    refine c_ ?_
    refine a_ ?_
    refine b_ (v_ rfl rfl (by simp only [InR, lo, hi]; omega)) rfl rfl ?_
    refine b_ (k_ rfl) rfl rfl ?_
    refine g_ ?_
    have hnext : chkL n none es = chkL n (ahead es (k + 1)) (es.drop (k + 1)) := by
      rw [hk2, hat, if_neg hc38, if_neg (by unfold pw at hc43; omega), if_neg (fun h => hc46 (by omega))]
    exact A_ (k + 1) (by omega) (by exact ⟨rfl, rfl, rfl, rfl, rfl, rfl, trivial⟩) (fun w' hw' => ⟨⟨hlt, hnext⟩, hw'.sub (fun _ h => h) (List.sublist_cons_self _ _)⟩)
  intro hc46
  refine l_ rfl (k_ rfl) rfl rfl ?_
  refine l_ rfl (k_ rfl) rfl rfl ?_
  refine l_ rfl (du_ (i := k) (j := 1) rfl rfl rfl (by omega) (by simp only [InR, lo, hi]; omega)) rfl rfl ?_
  refine l_ rfl (au_ tabOk Tryz.underlying75 rfl rfl rfl (by omega)) rfl rfl ?_
  refine l_ rfl (p_ tabOk rfl rfl rfl rfl rfl) rfl rfl ?_
  refine l_ rfl (p_ tabOk rfl rfl rfl rfl rfl) rfl rfl ?_
  refine l_ rfl (e2_ (f := Ent.cells) (s := 8) (q := k - 1) (fo := 0) tabOk rfl rfl (by repeat (first | assumption | exact List.mem_cons_self | exact hmem _ | apply List.mem_cons_of_mem)) (fun _ => rfl) (by omega) (by rfl)) rfl rfl ?_
  refine l_ rfl (p_ tabOk rfl rfl rfl rfl rfl) rfl rfl ?_
  refine l_ rfl (p_ tabOk rfl rfl rfl rfl rfl) rfl rfl ?_
  refine l_ rfl (j_ tabOk rfl rfl (by repeat (first | assumption | exact List.mem_cons_self | exact hmem _ | apply List.mem_cons_of_mem)) (by rfl)) rfl rfl ?_
  refine l_ rfl (bH_ rfl rfl) rfl rfl ?_
  refine l_ rfl (F_ rfl rfl) rfl rfl ?_
  refine I_ (c_ ?_)
  refine o_ rfl ?_ ?_
  rotate_left
  · intro hc58
    refine s_ ?_
    refine r_ ?_
    refine c_ ?_
    refine a_ ?_
    refine b_ (v_ rfl rfl (by simp only [InR, lo, hi]; omega)) rfl rfl ?_
    refine b_ (k_ rfl) rfl rfl ?_
    refine g_ ?_
    have hnext : chkL n none es = chkL n (ahead es (k + 1)) (es.drop (k + 1)) := by
      rw [hk2, hat, if_neg hc38, if_neg (by unfold pw at hc43; omega), if_neg (fun h => hc58 h.2)]
    exact A_ (k + 1) (by omega) (by exact ⟨rfl, rfl, rfl, rfl, rfl, rfl, trivial⟩) (fun w' hw' => ⟨⟨hlt, hnext⟩, hw'.sub (fun _ h => h) (List.sublist_cons_self _ _)⟩)
  intro hc58
  refine d_ (a_ ?_)
  refine b_ (h_ rfl) rfl rfl ?_
  refine g_ (c_ ?_)
  refine n_ ?_
  refine B_ ?_
  refine i_ (by intro h; cases h) ?_
  refine i_ (by intro h; cases h) ?_
  refine B_ ?_
  refine i_ (by intro h; cases h) ?_
  refine C_ rfl rfl ?_
  intro w' hw'
  refine ⟨?_, hw'.sub (fun _ h => h) (List.sublist_cons_self _ _)⟩; congr 2; unfold chkB; rw [if_neg (by omega), if_neg (by omega), hk2, hat, if_neg hc38, if_neg (by unfold pw at hc43; omega), if_pos ⟨by omega, hc58⟩]
end
def Ent.bytes (e : Ent) : List UInt8 := rowB e.core.bytes ++ beBytes e.mask 1
def batchB (es : List Ent) : List UInt8 := beBytes es.length 2 ++ es.flatMap Ent.bytes
structure Ent.Few (e : Ent) : Prop where
  mask : e.mask < 4294967296
  letter : e.core.letter.size ≤ 1000
  text : e.core.text.size ≤ 1000
theorem Core.bytes_length (c : Core) : c.bytes.length = 34 + c.letter.size + c.text.size := by
  have h1 : c.letter.data.toList.length = c.letter.size := by simp
  have h2 : c.text.data.toList.length = c.text.size := by simp
  simp only [Core.bytes, rowB, List.length_append, m_, h1, h2]
  omega
theorem Ent.bytes_length (e : Ent) : e.bytes.length = 39 + e.core.letter.size + e.core.text.size := by
  simp only [Ent.bytes, rowB, List.length_append, m_, Core.bytes_length]
  omega
theorem cY_ {es : List Ent} (h : ∀ e ∈ es, e.Few) : (es.flatMap Ent.bytes).length ≤ es.length * 2100 := by
  induction es with
  | nil => simp
  | cons e es ih =>
    have h1 := h e (by simp)
    have h2 := ih (fun x hx => h x (by simp [hx]))
    have := h1.letter
    have := h1.text
    rw [List.flatMap_cons, List.length_append, Ent.bytes_length, List.length_cons, Nat.succ_mul]
    omega
section
variable {S : List (World × List Nat)} {σ τ : Blks} {ρ : List Dt} {w : World}
set_option maxHeartbeats 1000000 in
theorem gh_ {v : Value} {es : List Ent} (hw : Mem S σ ρ w) (he : entsD v es ∈ ρ) (hl : es.length ≤ 1000000) (hf : ∀ e ∈ es, e.Few) : Calls Tryz.prog 113 #[v] w fun e w' => ∃ r, e = .returned r ∧ Mem S σ (bytesD r (batchB es) :: ρ) w' := by
  obtain ⟨A, c, rfl, hs1, hs2, hs3⟩ := (hw.data he).shape
  have hA : es ≠ [] → ∃ b off, A = some ⟨b, off, none⟩ := fun h => cl_ (hw.data he) (by cases es with | nil => exact absurd rfl h | cons e es => simp [Ent.cells])
  refine R_ [.slice A es.length c] Tryz.func113 rfl Tryz.ntmps113 rfl (Mem S σ ρ) hw ?_
  refine d_ (a_ ?_)
  refine b_ (h_ rfl) rfl rfl ?_
  refine g_ (c_ ?_)
  refine d_ (a_ ?_)
  refine b_ (k_ rfl) rfl rfl ?_
  refine b_ (w_ rfl Tryz.underlying75) rfl rfl ?_
  refine b_ (ab_ rfl Tryz.underlying134 (by kernel_rfl) (by simp only [InR, lo, hi]; omega)) rfl rfl ?_
  refine t_ (by kernel_rfl) rfl rfl rfl ?_
  intro w hw
  refine (eE_ (l := []) (x := es.length) (n := 2) hw (BytesV.nil _) (Nat.zero_le _) (by omega) rfl).mono ?_; rintro _ _ ⟨r, rfl, hm⟩; refine ⟨_, _, rfl, hm, ?_⟩; clear hm hw w
  refine b_ (h_ rfl) rfl rfl ?_
  refine g_ (c_ ?_)
  refine d_ ?_
  refine d_ (a_ ?_)
  refine b_ (k_ rfl) rfl rfl ?_
  refine b_ (w_ rfl Tryz.underlying75) rfl rfl ?_
  refine b_ (k_ rfl) rfl rfl ?_
  refine g_ (c_ ?_)
  refine u_ ?_
  refine W_ (ι := Nat × Value) (fun z => [(10, .slice A es.length c), (11, .int .i64 (es.length : Nat)), (12, .int .i64 (z.1 : Nat)), (3, z.2)]) (fun z w' => z.1 ≤ es.length ∧ Mem S σ (bytesD z.2 (([] ++ beBytes es.length (Int.toNat 2)) ++ (es.take z.1).flatMap Ent.bytes) :: ρ) w') (fun z => es.length - z.1) (0, _) (by exact ⟨rfl, rfl, rfl, rfl, trivial⟩) (fun w' hw' => ⟨Nat.zero_le _, hw'.less (by intro x hx; simp only [List.take_zero, List.flatMap_nil, List.append_nil] at hx; rcases List.mem_cons.1 hx with rfl | hx <;> simp [*])⟩) ?_
  intro z
  refine aU_ ?_
  intro hz
  have hlen : (([] ++ beBytes es.length (Int.toNat 2)) ++ (es.take z.1).flatMap Ent.bytes).length ≤ 2 + 1000000 * 2100 := by
    have h0 := cY_ (es := es.take z.1) (fun e he' => hf e (List.mem_of_mem_take he'))
    have h9 : (es.take z.1).length ≤ es.length := by simp; omega
    have h8 : (es.take z.1).length * 2100 ≤ 1000000 * 2100 := Nat.mul_le_mul_right _ (by omega)
    simp only [List.length_append, m_, List.length_nil]
    simp only [show Int.toNat 2 = 2 from rfl]
    omega
  refine d_ (a_ ?_)
  refine b_ (an_ rfl rfl) rfl rfl ?_
  refine g_ (c_ ?_)
  refine d_ ?_
  refine o_ rfl ?_ ?_
  rotate_left
  · intro hc13
    refine T_ ?_
    refine i_ (by intro h; cases h) ?_
    refine i_ (by intro h; cases h) ?_
    refine S_ ?_
    refine c_ ?_
    refine d_ (a_ ?_)
    refine b_ (k_ rfl) rfl rfl ?_
    refine b_ (h_ rfl) rfl rfl ?_
    refine g_ (c_ ?_)
    refine n_ ?_
    refine C_ rfl rfl ?_
    intro w' hw'
    have e2 : (([] ++ beBytes es.length (Int.toNat 2)) ++ (es.take z.1).flatMap Ent.bytes) = batchB es := by
      rw [List.take_of_length_le (by omega)]
      simp [batchB]
    rw [e2] at hw'
    exact ⟨_, rfl, hw'⟩
  intro hc13
  have hlt : z.1 < es.length := by omega
  have hfew := hf _ (List.getElem_mem hlt)
  have hmask := hfew.mask
  have hlet := hfew.letter
  have htex := hfew.text
  obtain ⟨bb, off, rfl⟩ := hA (by intro h0; rw [h0] at hlt; simp at hlt)
  refine s_ ?_
  refine c_ ?_
  refine d_ ?_
  refine u_ ?_
  refine d_ (a_ ?_)
  refine b_ (au_ tabOk Tryz.underlying75 rfl rfl rfl (by omega)) rfl rfl ?_
  refine b_ (bl_ (f := Ent.cells) tabOk rfl rfl rfl (by repeat (first | assumption | exact List.mem_cons_self | exact hmem _ | apply List.mem_cons_of_mem)) (fun _ => rfl) hlt) rfl rfl ?_
  refine am_ (H_ tabOk rfl) rfl rfl ?_
  rintro _ _ ⟨b5, rfl, rfl⟩
  refine am_ (bQ_ (L' := (es[z.1]'hlt).cells) (vs := (es[z.1]'hlt).cells) tabOk rfl rfl rfl (by repeat (first | assumption | exact Upd.here | exact hrep _ _ | apply Upd.there)) (by rfl) (Nat.le_of_ble_eq_true (by rfl)) (Ent.one _) (by rfl)) rfl rfl ?_; rintro _ _ ⟨rfl, rfl⟩
  refine g_ (c_ ?_)
  refine U_ _ (.q 0 (.q 1 (.q 2 (.q 5 (.q 6 (.q 7 (.e 3 (.e 4 (.e 8 (.q 9 .nil)))))))))) (by kernel_rfl) (by kernel_rfl) (fun _ h => h) (fun _ h => h.drew) ?_
  refine l_ rfl (k_ rfl) rfl rfl ?_
  refine l_ rfl (p_ tabOk rfl rfl rfl rfl rfl) rfl rfl ?_
  refine l_ rfl (aQ_ tabOk rfl rfl rfl (by repeat (first | assumption | exact List.mem_cons_self | exact hmem _ | apply List.mem_cons_of_mem)) (Nat.le_of_ble_eq_true (by rfl))) rfl rfl ?_
  refine l_ rfl (p_ tabOk rfl rfl rfl rfl rfl) rfl rfl ?_
  refine l_ rfl (j_ tabOk rfl rfl (by repeat (first | assumption | exact List.mem_cons_self | exact hmem _ | apply List.mem_cons_of_mem)) (by rfl)) rfl rfl ?_
  refine l_ rfl (ab_ rfl Tryz.underlying134 (by kernel_rfl) (by simp only [InR, lo, hi]; omega)) rfl rfl ?_
  refine J_ rfl (by kernel_rfl) rfl rfl rfl ?_
  intro w hw
  refine (gR_ (c := (es[z.1]'hlt).core) hw (by have := hfew.letter; omega) (by have := hfew.text; omega)).mono ?_; rintro _ _ ⟨r, rfl, hm⟩; refine ⟨_, _, rfl, hm, _, fun _ h => h.less (fun _ hx => List.mem_cons_of_mem _ hx), fun _ h => h, ?_⟩; clear hm hw w
  refine J_ rfl (by kernel_rfl) rfl rfl rfl ?_
  intro w hw
  refine (do_ (l := (([] ++ beBytes es.length (Int.toNat 2)) ++ (es.take z.1).flatMap Ent.bytes)) (m := (es[z.1]'hlt).core.bytes) hw (by repeat (first | assumption | exact List.mem_cons_self | exact hmem _ | apply List.mem_cons_of_mem)) (by repeat (first | assumption | exact List.mem_cons_self | exact hmem _ | apply List.mem_cons_of_mem)) (by have := hlen; simp only [List.length_append, m_, Core.bytes_length] at *; unfold lots; omega) (by rw [Core.bytes_length]; have := hfew.letter; have := hfew.text; omega)).mono ?_; rintro _ _ ⟨r, rfl, hm⟩; refine ⟨_, _, rfl, hm, _, fun _ h => h.less (fun _ hx => List.mem_cons_of_mem _ hx), fun _ h => h, ?_⟩; clear hm hw w
  refine J_ rfl (by kernel_rfl) rfl rfl rfl ?_
  intro w hw
  refine (eE_ (l := (([] ++ beBytes es.length (Int.toNat 2)) ++ (es.take z.1).flatMap Ent.bytes) ++ beBytes (es[z.1]'hlt).core.bytes.length 4 ++ (es[z.1]'hlt).core.bytes) (x := (es[z.1]'hlt).mask) (n := 1) hw (hw.bytes (by repeat (first | assumption | exact List.mem_cons_self | exact hmem _ | apply List.mem_cons_of_mem))) (by have := hlen; simp only [List.length_append, m_, Core.bytes_length] at *; unfold lots; omega) (by omega) rfl).mono ?_; rintro _ _ ⟨r, rfl, hm⟩; refine ⟨_, _, rfl, hm, _, fun _ h => h.less (fun _ hx => List.mem_cons_of_mem _ hx), fun _ h => h, ?_⟩; clear hm hw w
  refine l_ rfl (h_ rfl) rfl rfl ?_
  refine I_ ?_
  refine r_ ?_
  refine c_ ?_
  refine a_ ?_
  refine b_ (v_ rfl rfl (by simp only [InR, lo, hi]; omega)) rfl rfl ?_
  refine b_ (k_ rfl) rfl rfl ?_
  refine g_ ?_
  refine A_ (z.1 + 1, r) (by show es.length - (z.1 + 1) < es.length - z.1; omega) (by exact ⟨rfl, rfl, rfl, rfl, trivial⟩) (fun w' hw' => ⟨hlt, ?_⟩)
  have e1 : (([] ++ beBytes es.length (Int.toNat 2)) ++ (es.take (z.1 + 1)).flatMap Ent.bytes) = (([] ++ beBytes es.length (Int.toNat 2)) ++ (es.take z.1).flatMap Ent.bytes) ++ beBytes (es[z.1]'hlt).core.bytes.length 4 ++ (es[z.1]'hlt).core.bytes ++ beBytes (es[z.1]'hlt).mask (Int.toNat 1) := by
    rw [List.take_succ_eq_append_getElem hlt, List.flatMap_append]
    simp [Ent.bytes, rowB]
  show Mem S σ (bytesD r (([] ++ beBytes es.length (Int.toNat 2)) ++ (es.take (z.1 + 1)).flatMap Ent.bytes) :: ρ) w'
  rw [e1]
  exact (hw'.sub (fun _ h => h) (List.sublist_cons_self _ _)).less (fun x hx => by rcases List.mem_cons.1 hx with rfl | hx <;> simp [*])
set_option maxHeartbeats 1000000 in
theorem fg_ {v : Value} {es : List Ent} (hw : Mem S σ ρ w) (he : entsD v es ∈ ρ) (hl : es.length ≤ 1000000) (hf : ∀ e ∈ es, e.Few) : Calls Tryz.prog 116 #[v] w fun e w' => ∃ r, e = .returned r ∧ Mem S σ (bytesD r (batchB es) :: ρ) w' := by
  obtain ⟨A, c, rfl, hs1, hs2, hs3⟩ := (hw.data he).shape
  have hA : es ≠ [] → ∃ b off, A = some ⟨b, off, none⟩ := fun h => cl_ (hw.data he) (by cases es with | nil => exact absurd rfl h | cons e es => simp [Ent.cells])
  refine R_ [.slice A es.length c] Tryz.func116 rfl Tryz.ntmps116 rfl (Mem S σ ρ) hw ?_
  refine d_ (a_ ?_)
  refine b_ (h_ rfl) rfl rfl ?_
  refine g_ (c_ ?_)
  refine d_ (a_ ?_)
  refine b_ (k_ rfl) rfl rfl ?_
  refine b_ (w_ rfl Tryz.underlying75) rfl rfl ?_
  refine b_ (ab_ rfl Tryz.underlying134 (by kernel_rfl) (by simp only [InR, lo, hi]; omega)) rfl rfl ?_
  refine t_ (by kernel_rfl) rfl rfl rfl ?_
  intro w hw
  refine (iu_ (x := es.length) (n := 2) hw rfl).mono ?_; rintro _ _ ⟨r, rfl, hm⟩; refine ⟨_, _, rfl, hm, ?_⟩; clear hm hw w
  refine b_ (h_ rfl) rfl rfl ?_
  refine g_ (c_ ?_)
  refine d_ ?_
  refine d_ (a_ ?_)
  refine b_ (k_ rfl) rfl rfl ?_
  refine b_ (w_ rfl Tryz.underlying75) rfl rfl ?_
  refine b_ (k_ rfl) rfl rfl ?_
  refine g_ (c_ ?_)
  refine u_ ?_
  refine W_ (ι := Nat × Value) (fun z => [(10, .slice A es.length c), (11, .int .i64 (es.length : Nat)), (12, .int .i64 (z.1 : Nat)), (3, z.2)]) (fun z w' => z.1 ≤ es.length ∧ Mem S σ (bytesD z.2 (([] ++ beBytes es.length 2) ++ (es.take z.1).flatMap Ent.bytes) :: ρ) w') (fun z => es.length - z.1) (0, _) (by exact ⟨rfl, rfl, rfl, rfl, trivial⟩) (fun w' hw' => ⟨Nat.zero_le _, hw'.less (by intro x hx; simp only [List.take_zero, List.flatMap_nil, List.append_nil] at hx; rcases List.mem_cons.1 hx with rfl | hx <;> simp [*])⟩) ?_
  intro z
  refine aU_ ?_
  intro hz
  have hlen : (([] ++ beBytes es.length 2) ++ (es.take z.1).flatMap Ent.bytes).length ≤ 2 + 1000000 * 2100 := by
    have h0 := cY_ (es := es.take z.1) (fun e he' => hf e (List.mem_of_mem_take he'))
    have h9 : (es.take z.1).length ≤ es.length := by simp; omega
    have h8 : (es.take z.1).length * 2100 ≤ 1000000 * 2100 := Nat.mul_le_mul_right _ (by omega)
    simp only [List.length_append, m_, List.length_nil]
    omega
  refine d_ (a_ ?_)
  refine b_ (an_ rfl rfl) rfl rfl ?_
  refine g_ (c_ ?_)
  refine d_ ?_
  refine o_ rfl ?_ ?_
  rotate_left
  · intro hc13
    refine T_ ?_
    refine i_ (by intro h; cases h) ?_
    refine i_ (by intro h; cases h) ?_
    refine S_ ?_
    refine c_ ?_
    refine d_ (a_ ?_)
    refine b_ (k_ rfl) rfl rfl ?_
    refine b_ (h_ rfl) rfl rfl ?_
    refine g_ (c_ ?_)
    refine n_ ?_
    refine C_ rfl rfl ?_
    intro w' hw'
    have e2 : (([] ++ beBytes es.length 2) ++ (es.take z.1).flatMap Ent.bytes) = batchB es := by
      rw [List.take_of_length_le (by omega)]
      simp [batchB]
    rw [e2] at hw'
    exact ⟨_, rfl, hw'⟩
  intro hc13
  have hlt : z.1 < es.length := by omega
  have hfew := hf _ (List.getElem_mem hlt)
  have hmask := hfew.mask
  have hlet := hfew.letter
  have htex := hfew.text
  obtain ⟨bb, off, rfl⟩ := hA (by intro h0; rw [h0] at hlt; simp at hlt)
  refine s_ ?_
  refine c_ ?_
  refine d_ ?_
  refine u_ ?_
  refine d_ (a_ ?_)
  refine b_ (au_ tabOk Tryz.underlying75 rfl rfl rfl (by omega)) rfl rfl ?_
  refine b_ (bl_ (f := Ent.cells) tabOk rfl rfl rfl (by repeat (first | assumption | exact List.mem_cons_self | exact hmem _ | apply List.mem_cons_of_mem)) (fun _ => rfl) hlt) rfl rfl ?_
  refine am_ (H_ tabOk rfl) rfl rfl ?_
  rintro _ _ ⟨b5, rfl, rfl⟩
  refine am_ (bQ_ (L' := (es[z.1]'hlt).cells) (vs := (es[z.1]'hlt).cells) tabOk rfl rfl rfl (by repeat (first | assumption | exact Upd.here | exact hrep _ _ | apply Upd.there)) (by rfl) (Nat.le_of_ble_eq_true (by rfl)) (Ent.one _) (by rfl)) rfl rfl ?_; rintro _ _ ⟨rfl, rfl⟩
  refine g_ (c_ ?_)
  refine U_ _ (.q 0 (.q 1 (.q 2 (.q 5 (.q 6 (.q 7 (.e 3 (.e 4 (.e 8 (.q 9 .nil)))))))))) (by kernel_rfl) (by kernel_rfl) (fun _ h => h) (fun _ h => h.drew) ?_
  refine l_ rfl (k_ rfl) rfl rfl ?_
  refine l_ rfl (p_ tabOk rfl rfl rfl rfl rfl) rfl rfl ?_
  refine l_ rfl (aQ_ tabOk rfl rfl rfl (by repeat (first | assumption | exact List.mem_cons_self | exact hmem _ | apply List.mem_cons_of_mem)) (Nat.le_of_ble_eq_true (by rfl))) rfl rfl ?_
  refine l_ rfl (p_ tabOk rfl rfl rfl rfl rfl) rfl rfl ?_
  refine l_ rfl (j_ tabOk rfl rfl (by repeat (first | assumption | exact List.mem_cons_self | exact hmem _ | apply List.mem_cons_of_mem)) (by rfl)) rfl rfl ?_
  refine l_ rfl (ab_ rfl Tryz.underlying134 (by kernel_rfl) (by simp only [InR, lo, hi]; omega)) rfl rfl ?_
  refine J_ rfl (by kernel_rfl) rfl rfl rfl ?_
  intro w hw
  refine (fY_ (c := (es[z.1]'hlt).core) hw (by have := hfew.letter; omega) (by have := hfew.text; omega)).mono ?_; rintro _ _ ⟨r, rfl, hm⟩; refine ⟨_, _, rfl, hm, _, fun _ h => h.less (fun _ hx => List.mem_cons_of_mem _ hx), fun _ h => h, ?_⟩; clear hm hw w
  refine J_ rfl (by kernel_rfl) rfl rfl rfl ?_
  intro w hw
  refine (dR_ (l := (([] ++ beBytes es.length 2) ++ (es.take z.1).flatMap Ent.bytes)) (m := (es[z.1]'hlt).core.bytes) hw (by repeat (first | assumption | exact List.mem_cons_self | exact hmem _ | apply List.mem_cons_of_mem)) (by repeat (first | assumption | exact List.mem_cons_self | exact hmem _ | apply List.mem_cons_of_mem)) (by have := hlen; simp only [List.length_append, m_, Core.bytes_length] at *; unfold lots; omega) (by rw [Core.bytes_length]; have := hfew.letter; have := hfew.text; omega)).mono ?_; rintro _ _ ⟨r, rfl, hm⟩; refine ⟨_, _, rfl, hm, _, fun _ h => h.less (fun _ hx => List.mem_cons_of_mem _ hx), fun _ h => h, ?_⟩; clear hm hw w
  refine J_ rfl (by kernel_rfl) rfl rfl rfl ?_
  intro w hw
  refine (ec_ (l := (([] ++ beBytes es.length 2) ++ (es.take z.1).flatMap Ent.bytes) ++ beBytes (es[z.1]'hlt).core.bytes.length 4 ++ (es[z.1]'hlt).core.bytes) (x := (es[z.1]'hlt).mask) (n := 1) hw (by repeat (first | assumption | exact List.mem_cons_self | exact hmem _ | apply List.mem_cons_of_mem)) (by have := hlen; simp only [List.length_append, m_, Core.bytes_length] at *; unfold lots; omega) rfl).mono ?_; rintro _ _ ⟨r, rfl, hm⟩; refine ⟨_, _, rfl, hm, _, fun _ h => h.less (fun _ hx => List.mem_cons_of_mem _ hx), fun _ h => h, ?_⟩; clear hm hw w
  refine l_ rfl (h_ rfl) rfl rfl ?_
  refine I_ ?_
  refine r_ ?_
  refine c_ ?_
  refine a_ ?_
  refine b_ (v_ rfl rfl (by simp only [InR, lo, hi]; omega)) rfl rfl ?_
  refine b_ (k_ rfl) rfl rfl ?_
  refine g_ ?_
  refine A_ (z.1 + 1, r) (by show es.length - (z.1 + 1) < es.length - z.1; omega) (by exact ⟨rfl, rfl, rfl, rfl, trivial⟩) (fun w' hw' => ⟨hlt, ?_⟩)
  have e1 : (([] ++ beBytes es.length 2) ++ (es.take (z.1 + 1)).flatMap Ent.bytes) = (([] ++ beBytes es.length 2) ++ (es.take z.1).flatMap Ent.bytes) ++ beBytes (es[z.1]'hlt).core.bytes.length 4 ++ (es[z.1]'hlt).core.bytes ++ beBytes (es[z.1]'hlt).mask 1 := by
    rw [List.take_succ_eq_append_getElem hlt, List.flatMap_append]
    simp [Ent.bytes, rowB]
  show Mem S σ (bytesD r (([] ++ beBytes es.length 2) ++ (es.take (z.1 + 1)).flatMap Ent.bytes) :: ρ) w'
  rw [e1]
  exact (hw'.sub (fun _ h => h) (List.sublist_cons_self _ _)).less (fun x hx => by rcases List.mem_cons.1 hx with rfl | hx <;> simp [*])
end
end Go.Proofs.YtggajaigfkekhaaGreat
