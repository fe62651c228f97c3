/-
  Names of letters, and cores that may be: the program's and the document's, over the engine.
-/
import Derived.Test.YtdbeinbgekdnmaaEngStr
import Derived.Test.YtdbeinbgekdnmaaOctPut
set_option maxRecDepth 100000
namespace Go.Proofs.Ytdbeinbgekdnmaa
open Go.RowKit

/-- A letter of a name. -/
def nameC (c : Nat) : Bool := (decide (97 ≤ c) && decide (c ≤ 122)) || (decide (48 ≤ c) && decide (c ≤ 57)) || decide (c = 45)
def nameB (s : ByteArray) : Bool := s.data.toList.all (fun c => nameC c.toNat) && decide (1 ≤ s.size) && decide (s.size ≤ 16)
section
variable {S : List (World × List Nat)} {σ τ : Blks} {ρ : List Dt} {w : World}
theorem all_at {s : ByteArray} {k : Nat} (h : k < s.size) (hb : nameC (s[k]'h).toNat = false) : s.data.toList.all (fun c => nameC c.toNat) = false := by
  rw [List.all_eq_false]
  refine ⟨s[k]'h, ?_, by rw [hb]; decide⟩
  have : s[k]'h = s.data.toList[k]'(by simpa using h) := rfl
  rw [this]
  exact List.getElem_mem _
theorem all_all {s : ByteArray} (hp : ∀ j (hj : j < s.size), nameC (s[j]'hj).toNat = true) : s.data.toList.all (fun c => nameC c.toNat) = true := by
  rw [List.all_eq_true]
  intro c hc
  obtain ⟨j, hj, rfl⟩ := List.getElem_of_mem hc
  exact hp j (by simpa using hj)

theorem odd_c {r : Nat} (hw : Mem S σ ρ w) : Calls Try.prog 171 #[.int .i32 r] w fun e w' => e = .returned (.bool (!nameC r)) ∧ Mem S σ ρ w' := by
  refine calls_of [.int .i32 r] Try.func171 rfl Try.ntmps171 rfl (Mem S σ ρ) hw ?_
  refine SC.seq ?_
  refine SC.region ?_
  refine SL.val (Val.assign rfl) rfl rfl ?_
  refine SL.nil ?_
  refine SE.seq ?_
  refine SC.seq ?_
  refine SC.region ?_
  refine SL.val (Val.move rfl) rfl rfl ?_
  refine SL.val (Val.ltI rfl rfl) rfl rfl ?_
  refine SL.val (Val.move rfl) rfl rfl ?_
  refine SL.bothP (t := 5) rfl ?_ ?_
  · intro hc5
    refine SL.skip rfl rfl ?_
    refine SL.skip rfl rfl ?_
    refine SL.val (Val.pickT rfl rfl) rfl rfl ?_
    refine SL.val (Val.move rfl) rfl rfl ?_
    refine SL.val (Val.move rfl) rfl rfl ?_
    refine SL.val (Val.ltI rfl rfl) rfl rfl ?_
    refine SL.val (Val.move rfl) rfl rfl ?_
    refine SL.bothP (t := 12) rfl ?_ ?_
    · intro hc12
      refine SL.skip rfl rfl ?_
      refine SL.skip rfl rfl ?_
      refine SL.val (Val.pickT rfl rfl) rfl rfl ?_
      refine SL.val (Val.pickT rfl rfl) rfl rfl ?_
      refine SL.val (Val.move rfl) rfl rfl ?_
      refine SL.val (Val.move rfl) rfl rfl ?_
      refine SL.val (Val.neI rfl rfl) rfl rfl ?_
      refine SL.val (Val.pickT rfl rfl) rfl rfl ?_
      refine SL.val (Val.assign rfl) rfl rfl ?_
      refine SL.nil ?_
      refine SE.seq ?_
      refine SC.ret ?_
      refine SE.ret1 rfl rfl ?_
      intro w' hw'
      refine ⟨?_, hw'⟩
      congr 2
      rw [Bool.eq_iff_iff]
      simp [nameC]
      omega
    · intro hc12
      refine SL.val (Val.move rfl) rfl rfl ?_
      refine SL.val (Val.gtI rfl rfl) rfl rfl ?_
      refine SL.val (Val.pickF rfl rfl) rfl rfl ?_
      refine SL.val (Val.pickT rfl rfl) rfl rfl ?_
      refine SL.val (Val.move rfl) rfl rfl ?_
      refine SL.bothP (t := 17) rfl ?_ ?_
      · intro hc17
        refine SL.val (Val.move rfl) rfl rfl ?_
        refine SL.val (Val.neI rfl rfl) rfl rfl ?_
        refine SL.val (Val.pickT rfl rfl) rfl rfl ?_
        refine SL.val (Val.assign rfl) rfl rfl ?_
        refine SL.nil ?_
        refine SE.seq ?_
        refine SC.ret ?_
        refine SE.ret1 rfl rfl ?_
        intro w' hw'
        refine ⟨?_, hw'⟩
        congr 2
        rw [Bool.eq_iff_iff]
        simp [nameC]
        omega
      · intro hc17
        refine SL.skip rfl rfl ?_
        refine SL.skip rfl rfl ?_
        refine SL.val (Val.pickF rfl rfl) rfl rfl ?_
        refine SL.val (Val.assign rfl) rfl rfl ?_
        refine SL.nil ?_
        refine SE.seq ?_
        refine SC.ret ?_
        refine SE.ret1 rfl rfl ?_
        intro w' hw'
        refine ⟨?_, hw'⟩
        congr 2
        rw [Bool.eq_iff_iff]
        simp [nameC]
        omega
  · intro hc5
    refine SL.val (Val.move rfl) rfl rfl ?_
    refine SL.val (Val.gtI rfl rfl) rfl rfl ?_
    refine SL.val (Val.pickF rfl rfl) rfl rfl ?_
    refine SL.val (Val.move rfl) rfl rfl ?_
    refine SL.bothP (t := 9) rfl ?_ ?_
    · intro hc9
      refine SL.val (Val.move rfl) rfl rfl ?_
      refine SL.val (Val.ltI rfl rfl) rfl rfl ?_
      refine SL.val (Val.move rfl) rfl rfl ?_
      refine SL.bothP (t := 12) rfl ?_ ?_
      · intro hc12
        refine SL.skip rfl rfl ?_
        refine SL.skip rfl rfl ?_
        refine SL.val (Val.pickT rfl rfl) rfl rfl ?_
        refine SL.val (Val.pickT rfl rfl) rfl rfl ?_
        refine SL.val (Val.move rfl) rfl rfl ?_
        refine SL.val (Val.move rfl) rfl rfl ?_
        refine SL.val (Val.neI rfl rfl) rfl rfl ?_
        refine SL.val (Val.pickT rfl rfl) rfl rfl ?_
        refine SL.val (Val.assign rfl) rfl rfl ?_
        refine SL.nil ?_
        refine SE.seq ?_
        refine SC.ret ?_
        refine SE.ret1 rfl rfl ?_
        intro w' hw'
        refine ⟨?_, hw'⟩
        congr 2
        rw [Bool.eq_iff_iff]
        simp [nameC]
        omega
      · intro hc12
        refine SL.val (Val.move rfl) rfl rfl ?_
        refine SL.val (Val.gtI rfl rfl) rfl rfl ?_
        refine SL.val (Val.pickF rfl rfl) rfl rfl ?_
        refine SL.val (Val.pickT rfl rfl) rfl rfl ?_
        refine SL.val (Val.move rfl) rfl rfl ?_
        refine SL.bothP (t := 17) rfl ?_ ?_
        · intro hc17
          refine SL.val (Val.move rfl) rfl rfl ?_
          refine SL.val (Val.neI rfl rfl) rfl rfl ?_
          refine SL.val (Val.pickT rfl rfl) rfl rfl ?_
          refine SL.val (Val.assign rfl) rfl rfl ?_
          refine SL.nil ?_
          refine SE.seq ?_
          refine SC.ret ?_
          refine SE.ret1 rfl rfl ?_
          intro w' hw'
          refine ⟨?_, hw'⟩
          congr 2
          rw [Bool.eq_iff_iff]
          simp [nameC]
          omega
        · intro hc17
          refine SL.skip rfl rfl ?_
          refine SL.skip rfl rfl ?_
          refine SL.val (Val.pickF rfl rfl) rfl rfl ?_
          refine SL.val (Val.assign rfl) rfl rfl ?_
          refine SL.nil ?_
          refine SE.seq ?_
          refine SC.ret ?_
          refine SE.ret1 rfl rfl ?_
          intro w' hw'
          refine ⟨?_, hw'⟩
          congr 2
          rw [Bool.eq_iff_iff]
          simp [nameC]
          omega
    · intro hc9
      refine SL.skip rfl rfl ?_
      refine SL.skip rfl rfl ?_
      refine SL.skip rfl rfl ?_
      refine SL.skip rfl rfl ?_
      refine SL.skip rfl rfl ?_
      refine SL.skip rfl rfl ?_
      refine SL.val (Val.pickF rfl rfl) rfl rfl ?_
      refine SL.val (Val.move rfl) rfl rfl ?_
      refine SL.skip rfl rfl ?_
      refine SL.skip rfl rfl ?_
      refine SL.val (Val.pickF rfl rfl) rfl rfl ?_
      refine SL.val (Val.assign rfl) rfl rfl ?_
      refine SL.nil ?_
      refine SE.seq ?_
      refine SC.ret ?_
      refine SE.ret1 rfl rfl ?_
      intro w' hw'
      refine ⟨?_, hw'⟩
      congr 2
      rw [Bool.eq_iff_iff]
      simp [nameC]
      omega

set_option maxHeartbeats 400000 in
theorem indexOdd_c {s : ByteArray} (hw : Mem S σ ρ w) (_hs : s.size ≤ 16) : Calls Try.prog 181 #[.string s, .func (.func 171) #[] #[], .bool true] w fun e w' => ∃ r : Int, e = .returned (.int .i64 r) ∧ (0 ≤ r ↔ s.data.toList.all (fun c => nameC c.toNat) = false) ∧ Mem S σ ρ w' := by
  refine calls_of [.string s, .func (.func 171) #[] #[], .bool true] Try.func181 rfl Try.ntmps181 rfl (Mem S σ ρ) hw ?_
  refine SC.seq ?_
  refine SC.region ?_
  refine SL.val (Val.assign rfl) rfl rfl ?_
  refine SL.nil ?_
  refine SE.seq ?_
  refine SC.seq ?_
  refine SC.seq ?_
  refine SC.region ?_
  refine SL.val (Val.move rfl) rfl rfl ?_
  refine SL.eff (Eff.rangeSt rfl Try.underlying9) rfl rfl ?_
  rintro _ _ ⟨b10, rfl, rfl⟩
  refine SL.nil ?_
  refine SE.seq ?_
  refine SC.block ?_
  refine SC.loop (ι := Nat) (fun k => [(1, .func (.func 171) #[] #[]), (2, .bool true), (10, .pointer (some ⟨b10, 0, none⟩))]) (fun k w' => (k ≤ s.size ∧ ∀ j (hj : j < s.size), j < k → nameC (s[j]'hj).toNat = true) ∧ Mem S (.blk b10 (.stringIter s k) :: σ) ρ w') (fun k => s.size - k) 0 (by exact ⟨rfl, rfl, rfl, trivial⟩) (fun w' hw' => ⟨⟨Nat.zero_le _, fun j hj h => by omega⟩, hw'⟩) ?_
  intro k
  refine SC.facts ?_
  rintro ⟨hk, hp⟩
  by_cases hlt : k < s.size
  · have hd := decode_high s k hlt
    have hc := (s[k]'hlt).toNat_lt
    skip
    refine SC.seq ?_
    refine SC.region ?_
    refine SL.eff (Eff.nextSt rfl .here hlt) rfl rfl ?_
    rintro _ _ ⟨rfl, rfl⟩
    refine SL.val (Val.extract rfl rfl) rfl rfl ?_
    refine SL.nil ?_
    refine SE.seq ?_
    refine SC.seq ?_
    refine SC.condT rfl ?_
    refine SC.skip ?_
    refine SE.seq ?_
    refine SC.block ?_
    refine SC.seq ?_
    refine SC.region ?_
    refine SL.val (Val.extract rfl rfl) rfl rfl ?_
    refine SL.val (Val.extract rfl rfl) rfl rfl ?_
    refine SL.val (Val.assign rfl) rfl rfl ?_
    refine SL.val (Val.assign rfl) rfl rfl ?_
    refine SL.nil ?_
    refine SE.seq ?_
    refine SC.seq ?_
    refine SC.region ?_
    refine SL.val (Val.move rfl) rfl rfl ?_
    refine SL.val (Val.move rfl) rfl rfl ?_
    refine SL.callv rfl (by kernel_rfl) rfl rfl rfl ?_
    intro w hw
    refine (odd_c hw).mono ?_
    rintro _ _ ⟨rfl, hm⟩
    refine ⟨_, _, rfl, hm, ?_⟩
    clear hm hw w
    refine SL.val (Val.move rfl) rfl rfl ?_
    refine SL.val (Val.eqB rfl rfl (by kernel_rfl)) rfl rfl ?_
    refine SL.nil ?_
    refine SE.seq ?_
    refine SC.cond rfl ?_ ?_
    · intro hodd
      refine SC.seq ?_
      refine SC.region ?_
      refine SL.val (Val.move rfl) rfl rfl ?_
      refine SL.val (Val.assign rfl) rfl rfl ?_
      refine SL.nil ?_
      refine SE.seq ?_
      refine SC.ret ?_
      refine SE.ret ?_
      refine SE.then_ (by intro h; cases h) ?_
      refine SE.ret ?_
      refine SE.then_ (by intro h; cases h) ?_
      refine SE.ret1 rfl rfl ?_
      intro w' hw'
      refine ⟨_, rfl, ?_, hw'.sub (fun _ h => h) (List.sublist_cons_self _ _)⟩
      rw [all_at hlt (by
  simp only [beq_true, Bool.not_eq_true'] at hodd
  rcases Nat.lt_or_ge (s[k]'hlt).toNat 128 with h | h
  · rw [decode_ascii s k hlt h] at hodd; exact hodd
  · simp only [nameC, Bool.or_eq_false_iff, Bool.and_eq_false_iff, decide_eq_false_iff_not]; omega)]
      simp
    · intro hodd
      refine SC.skip ?_
      refine SE.inBlock ?_
      simp only [beq_true, Bool.not_eq_false'] at hodd
      have h128 : (s[k]'hlt).toNat < 128 := by
        rcases Nat.lt_or_ge (s[k]'hlt).toNat 128 with h | h
        · exact h
        · have h2 := hd (by omega)
          simp only [nameC, Bool.or_eq_true, Bool.and_eq_true, decide_eq_true_eq] at hodd
          omega
      have e1 := decode_ascii s k hlt h128
      exact SE.round (k + 1) (by omega) (by exact ⟨rfl, rfl, rfl, trivial⟩) (fun w' hw' => ⟨⟨hlt, fun j hj h => by
        rcases Nat.lt_or_ge j k with h2 | h2
        · exact hp j hj h2
        · obtain rfl : j = k := by omega
          rw [e1] at hodd; exact hodd⟩, by rw [e1] at hw'; exact hw'⟩)
  · skip
    refine SC.seq ?_
    refine SC.region ?_
    refine SL.val (Val.nextEnd rfl List.mem_cons_self hlt) rfl rfl ?_
    refine SL.val (Val.extract rfl rfl) rfl rfl ?_
    refine SL.nil ?_
    refine SE.seq ?_
    refine SC.seq ?_
    refine SC.condF rfl ?_
    refine SC.exit ?_
    refine SE.then_ (by intro h; cases h) ?_
    refine SE.then_ (by intro h; cases h) ?_
    refine SE.exit ?_
    refine SE.seq ?_
    refine SC.seq ?_
    refine SC.region ?_
    refine SL.val (Val.assign rfl) rfl rfl ?_
    refine SL.nil ?_
    refine SE.seq ?_
    refine SC.ret ?_
    refine SE.ret1 rfl rfl ?_
    intro w' hw'
    refine ⟨_, rfl, ?_, hw'.sub (fun _ h => h) (List.sublist_cons_self _ _)⟩
    rw [all_all fun j hj => hp j hj (by omega)]
    simp

theorem index_c {s : ByteArray} (hw : Mem S σ ρ w) (hs : s.size ≤ 16) : Calls Try.prog 178 #[.string s, .func (.func 171) #[] #[]] w fun e w' => ∃ r : Int, e = .returned (.int .i64 r) ∧ (0 ≤ r ↔ s.data.toList.all (fun c => nameC c.toNat) = false) ∧ Mem S σ ρ w' := by
  refine calls_of [.string s, .func (.func 171) #[] #[]] Try.func178 rfl Try.ntmps178 rfl (Mem S σ ρ) hw ?_
  refine SC.seq ?_
  refine SC.region ?_
  refine SL.val (Val.assign rfl) rfl rfl ?_
  refine SL.nil ?_
  refine SE.seq ?_
  refine SC.seq ?_
  refine SC.region ?_
  refine SL.val (Val.move rfl) rfl rfl ?_
  refine SL.val (Val.move rfl) rfl rfl ?_
  refine SL.call (by kernel_rfl) rfl rfl rfl ?_
  intro w hw
  refine (indexOdd_c hw hs).mono ?_; rintro _ _ ⟨r, rfl, hr, hm⟩; refine ⟨_, _, rfl, hm, ?_⟩; clear hm hw w
  refine SL.val (Val.assign rfl) rfl rfl ?_
  refine SL.nil ?_
  refine SE.seq ?_
  refine SC.ret ?_
  refine SE.ret1 rfl rfl ?_
  intro w' hw'
  exact ⟨_, rfl, hr, hw'⟩
theorem contains_c {s : ByteArray} (hw : Mem S σ ρ w) (hs : s.size ≤ 16) : Calls Try.prog 172 #[.string s, .func (.func 171) #[] #[]] w fun e w' => e = .returned (.bool (!s.data.toList.all (fun c => nameC c.toNat))) ∧ Mem S σ ρ w' := by
  refine calls_of [.string s, .func (.func 171) #[] #[]] Try.func172 rfl Try.ntmps172 rfl (Mem S σ ρ) hw ?_
  refine SC.seq ?_
  refine SC.region ?_
  refine SL.val (Val.assign rfl) rfl rfl ?_
  refine SL.nil ?_
  refine SE.seq ?_
  refine SC.seq ?_
  refine SC.region ?_
  refine SL.val (Val.move rfl) rfl rfl ?_
  refine SL.val (Val.move rfl) rfl rfl ?_
  refine SL.call (by kernel_rfl) rfl rfl rfl ?_
  intro w hw
  refine (index_c hw hs).mono ?_; rintro _ _ ⟨r, rfl, hr, hm⟩; refine ⟨_, _, rfl, hm, ?_⟩; clear hm hw w
  refine SL.val (Val.geI rfl rfl) rfl rfl ?_
  refine SL.val (Val.assign rfl) rfl rfl ?_
  refine SL.nil ?_
  refine SE.seq ?_
  refine SC.ret ?_
  refine SE.ret1 rfl rfl ?_
  intro w' hw'
  refine ⟨?_, hw'⟩
  congr 2
  rw [Bool.eq_iff_iff, decide_eq_true_eq, hr]
  simp

theorem isName_c {s : ByteArray} (hw : Mem S σ ρ w) : Calls Try.prog 156 #[.string s] w fun e w' => e = .returned (.bool (nameB s)) ∧ Mem S σ ρ w' := by
  have h0 : (s = ⟨#[]⟩) ↔ s.size = 0 := by
    constructor
    · rintro rfl; rfl
    · intro h
      obtain ⟨a⟩ := s
      congr 1
      exact Array.eq_empty_of_size_eq_zero h
  refine calls_of [.string s] Try.func156 rfl Try.ntmps156 rfl (Mem S σ ρ) hw ?_
  refine SC.seq ?_
  refine SC.region ?_
  refine SL.val (Val.assign rfl) rfl rfl ?_
  refine SL.nil ?_
  refine SE.seq ?_
  refine SC.seq ?_
  refine SC.region ?_
  refine SL.val (Val.assign rfl) rfl rfl ?_
  refine SL.nil ?_
  refine SE.seq ?_
  refine SC.seq ?_
  refine SC.region ?_
  refine SL.val (Val.move rfl) rfl rfl ?_
  refine SL.val (Val.neS rfl rfl) rfl rfl ?_
  refine SL.val (Val.move rfl) rfl rfl ?_
  refine SL.bothP (t := 6) rfl ?_ ?_
  · intro hc6
    refine SL.val (Val.move rfl) rfl rfl ?_
    refine SL.val (Val.lenSt rfl Try.underlying9) rfl rfl ?_
    refine SL.val (Val.leI rfl rfl) rfl rfl ?_
    refine SL.val (Val.pickT rfl rfl) rfl rfl ?_
    refine SL.val (Val.move rfl) rfl rfl ?_
    refine SL.bothP (t := 11) rfl ?_ ?_
    · intro hc11
      refine SL.val (Val.move rfl) rfl rfl ?_
      refine SL.val (Val.move rfl) rfl rfl ?_
      refine SL.call (by kernel_rfl) rfl rfl rfl ?_
      intro w hw
      refine (contains_c hw (by omega)).mono ?_; rintro _ _ ⟨rfl, hm⟩; refine ⟨_, _, rfl, hm, ?_⟩; clear hm hw w
      refine SL.val (Val.notB rfl) rfl rfl ?_
      refine SL.val (Val.pickT rfl rfl) rfl rfl ?_
      refine SL.val (Val.assign rfl) rfl rfl ?_
      refine SL.nil ?_
      refine SE.seq ?_
      refine SC.ret ?_
      refine SE.ret1 rfl rfl ?_
      intro w' hw'
      refine ⟨?_, hw'⟩
      congr 2
      unfold nameB
      rw [Ne, h0] at hc6
      rw [Bool.eq_iff_iff]
      first
        | (simp; omega)
        | (have h1 : 1 ≤ s.size := by omega
           have h2 : s.size ≤ 16 := by omega
           simp [h1, h2])
    · intro hc11
      refine SL.skip rfl rfl ?_
      refine SL.skip rfl rfl ?_
      refine SL.skip rfl rfl ?_
      refine SL.skip rfl rfl ?_
      refine SL.val (Val.pickF rfl rfl) rfl rfl ?_
      refine SL.val (Val.assign rfl) rfl rfl ?_
      refine SL.nil ?_
      refine SE.seq ?_
      refine SC.ret ?_
      refine SE.ret1 rfl rfl ?_
      intro w' hw'
      refine ⟨?_, hw'⟩
      congr 2
      unfold nameB
      rw [Ne, h0] at hc6
      rw [Bool.eq_iff_iff]
      first
        | (simp; omega)
        | (have h1 : 1 ≤ s.size := by omega
           have h2 : s.size ≤ 16 := by omega
           simp [h1, h2])
  · intro hc6
    refine SL.skip rfl rfl ?_
    refine SL.skip rfl rfl ?_
    refine SL.skip rfl rfl ?_
    refine SL.val (Val.pickF rfl rfl) rfl rfl ?_
    refine SL.val (Val.move rfl) rfl rfl ?_
    refine SL.skip rfl rfl ?_
    refine SL.skip rfl rfl ?_
    refine SL.skip rfl rfl ?_
    refine SL.skip rfl rfl ?_
    refine SL.val (Val.pickF rfl rfl) rfl rfl ?_
    refine SL.val (Val.assign rfl) rfl rfl ?_
    refine SL.nil ?_
    refine SE.seq ?_
    refine SC.ret ?_
    refine SE.ret1 rfl rfl ?_
    intro w' hw'
    refine ⟨?_, hw'⟩
    congr 2
    unfold nameB
    rw [Ne, h0] at hc6
    rw [Bool.eq_iff_iff]
    first
      | (simp; omega)
      | (have h1 : 1 ≤ s.size := by omega
         have h2 : s.size ≤ 16 := by omega
         simp [h1, h2])

set_option maxHeartbeats 400000 in
theorem risName_c {s : ByteArray} (hw : Mem S σ ρ w) (hs : s.size ≤ lots) : Calls Try.prog 157 #[.string s] w fun e w' => e = .returned (.bool (nameB s)) ∧ Mem S σ ρ w' := by
  unfold lots at hs
  refine calls_of [.string s] Try.func157 rfl Try.ntmps157 rfl (Mem S σ ρ) hw ?_
  refine SC.seq ?_
  refine SC.region ?_
  refine SL.val (Val.assign rfl) rfl rfl ?_
  refine SL.nil ?_
  refine SE.seq ?_
  refine SC.seq ?_
  refine SC.seq ?_
  refine SC.region ?_
  refine SL.val (Val.assign rfl) rfl rfl ?_
  refine SL.nil ?_
  refine SE.seq ?_
  refine SC.block ?_
  refine SC.loop (ι := Nat) (fun k => [(0, .string s), (3, .int .i64 (k : Nat))]) (fun k w' => (k ≤ s.size ∧ ∀ j (hj : j < s.size), j < k → nameC (s[j]'hj).toNat = true) ∧ Mem S σ ρ w') (fun k => s.size - k) 0 (by exact ⟨rfl, rfl, trivial⟩) (fun w' hw' => ⟨⟨Nat.zero_le _, fun j hj h => by omega⟩, hw'⟩) ?_
  intro k
  refine SC.facts ?_
  rintro ⟨hk, hp⟩
  refine SC.seq ?_
  refine SC.seq ?_
  refine SC.region ?_
  refine SL.val (Val.move rfl) rfl rfl ?_
  refine SL.val (Val.move rfl) rfl rfl ?_
  refine SL.val (Val.lenSt rfl Try.underlying9) rfl rfl ?_
  refine SL.val (Val.ltI rfl rfl) rfl rfl ?_
  refine SL.nil ?_
  refine SE.seq ?_
  refine SC.condP rfl ?_ ?_
  · intro hc7
    have hlt : k < s.size := by omega
    refine SC.skip ?_
    refine SE.seq ?_
    refine SC.seq ?_
    refine SC.block ?_
    refine SC.seq ?_
    refine SC.region ?_
    refine SL.val (Val.move rfl) rfl rfl ?_
    refine SL.val (Val.move rfl) rfl rfl ?_
    refine SL.val (Val.indexSt (q := k) rfl rfl rfl hlt Try.underlying9) rfl rfl ?_
    refine SL.val (Val.geI rfl rfl) rfl rfl ?_
    refine SL.val (Val.move rfl) rfl rfl ?_
    refine SL.bothP (t := 14) rfl ?_ ?_
    · intro hc14
      refine SL.val (Val.move rfl) rfl rfl ?_
      refine SL.val (Val.move rfl) rfl rfl ?_
      refine SL.val (Val.indexSt (q := k) rfl rfl rfl hlt Try.underlying9) rfl rfl ?_
      refine SL.val (Val.leI rfl rfl) rfl rfl ?_
      refine SL.val (Val.pickT rfl rfl) rfl rfl ?_
      refine SL.val (Val.move rfl) rfl rfl ?_
      refine SL.bothP (t := 20) rfl ?_ ?_
      · intro hc20
        refine SL.skip rfl rfl ?_
        refine SL.skip rfl rfl ?_
        refine SL.skip rfl rfl ?_
        refine SL.skip rfl rfl ?_
        refine SL.skip rfl rfl ?_
        refine SL.skip rfl rfl ?_
        refine SL.skip rfl rfl ?_
        refine SL.skip rfl rfl ?_
        refine SL.skip rfl rfl ?_
        refine SL.skip rfl rfl ?_
        refine SL.val (Val.pickT rfl rfl) rfl rfl ?_
        refine SL.val (Val.move rfl) rfl rfl ?_
        refine SL.skip rfl rfl ?_
        refine SL.skip rfl rfl ?_
        refine SL.skip rfl rfl ?_
        refine SL.skip rfl rfl ?_
        refine SL.val (Val.pickT rfl rfl) rfl rfl ?_
        refine SL.val (Val.notT rfl) rfl rfl ?_
        refine SL.nil ?_
        refine SE.seq ?_
        refine SC.condF rfl ?_
        refine SC.skip ?_
        refine SE.inBlock ?_
        refine SE.seq ?_
        refine SC.region ?_
        refine SL.val (Val.move rfl) rfl rfl ?_
        first
          | refine SL.val (Val.addI rfl rfl (by simp only [InR, lo, hi]; omega)) rfl rfl ?_
          | refine SL.val (Val.addW rfl rfl) rfl rfl ?_
        refine SL.val (Val.assign rfl) rfl rfl ?_
        refine SL.nil ?_
        have hgood : nameC (s[k]'hlt).toNat = true := by
          simp [nameC]
          omega
        exact SE.round (k + 1) (by omega) (by exact ⟨rfl, rfl, trivial⟩) (fun w' hw' => ⟨⟨hlt, fun j hj h => by
          rcases Nat.lt_or_ge j k with h2 | h2
          · exact hp j hj h2
          · obtain rfl : j = k := by omega
            exact hgood⟩, hw'⟩)
      · intro hc20
        refine SL.val (Val.move rfl) rfl rfl ?_
        refine SL.val (Val.move rfl) rfl rfl ?_
        refine SL.val (Val.indexSt (q := k) rfl rfl rfl hlt Try.underlying9) rfl rfl ?_
        refine SL.val (Val.geI rfl rfl) rfl rfl ?_
        refine SL.val (Val.move rfl) rfl rfl ?_
        refine SL.bothP (t := 25) rfl ?_ ?_
        · intro hc25
          refine SL.val (Val.move rfl) rfl rfl ?_
          refine SL.val (Val.move rfl) rfl rfl ?_
          refine SL.val (Val.indexSt (q := k) rfl rfl rfl hlt Try.underlying9) rfl rfl ?_
          refine SL.val (Val.leI rfl rfl) rfl rfl ?_
          refine SL.val (Val.pickT rfl rfl) rfl rfl ?_
          refine SL.val (Val.pickF rfl rfl) rfl rfl ?_
          refine SL.val (Val.move rfl) rfl rfl ?_
          refine SL.bothP (t := 32) rfl ?_ ?_
          · intro hc32
            refine SL.skip rfl rfl ?_
            refine SL.skip rfl rfl ?_
            refine SL.skip rfl rfl ?_
            refine SL.skip rfl rfl ?_
            refine SL.val (Val.pickT rfl rfl) rfl rfl ?_
            refine SL.val (Val.notT rfl) rfl rfl ?_
            refine SL.nil ?_
            refine SE.seq ?_
            refine SC.condF rfl ?_
            refine SC.skip ?_
            refine SE.inBlock ?_
            refine SE.seq ?_
            refine SC.region ?_
            refine SL.val (Val.move rfl) rfl rfl ?_
            first
              | refine SL.val (Val.addI rfl rfl (by simp only [InR, lo, hi]; omega)) rfl rfl ?_
              | refine SL.val (Val.addW rfl rfl) rfl rfl ?_
            refine SL.val (Val.assign rfl) rfl rfl ?_
            refine SL.nil ?_
            have hgood : nameC (s[k]'hlt).toNat = true := by
              simp [nameC]
              omega
            exact SE.round (k + 1) (by omega) (by exact ⟨rfl, rfl, trivial⟩) (fun w' hw' => ⟨⟨hlt, fun j hj h => by
              rcases Nat.lt_or_ge j k with h2 | h2
              · exact hp j hj h2
              · obtain rfl : j = k := by omega
                exact hgood⟩, hw'⟩)
          · intro hc32
            refine SL.val (Val.move rfl) rfl rfl ?_
            refine SL.val (Val.move rfl) rfl rfl ?_
            refine SL.val (Val.indexSt (q := k) rfl rfl rfl hlt Try.underlying9) rfl rfl ?_
            refine SL.val (Val.eqI rfl rfl) rfl rfl ?_
            refine SL.val (Val.pickF rfl rfl) rfl rfl ?_
            refine SL.val (Val.notP rfl) rfl rfl ?_
            refine SL.nil ?_
            refine SE.seq ?_
            refine SC.condP rfl ?_ ?_
            · intro hc38
              refine SC.seq ?_
              refine SC.region ?_
              refine SL.val (Val.assign rfl) rfl rfl ?_
              refine SL.nil ?_
              refine SE.seq ?_
              refine SC.ret ?_
              refine SE.ret ?_
              refine SE.then_ (by intro h; cases h) ?_
              refine SE.then_ (by intro h; cases h) ?_
              refine SE.ret ?_
              refine SE.then_ (by intro h; cases h) ?_
              refine SE.ret1 rfl rfl ?_
              intro w' hw'
              refine ⟨?_, hw'⟩
              congr 2
              unfold nameB
              first
                | (rw [all_at hlt (by simp [nameC]; omega)]; rfl)
                | (rw [all_all fun j hj => hp j hj (by omega)]; rw [Bool.eq_iff_iff]; simp; omega)
                | (exfalso; omega)
            · intro hc38
              refine SC.skip ?_
              refine SE.inBlock ?_
              refine SE.seq ?_
              refine SC.region ?_
              refine SL.val (Val.move rfl) rfl rfl ?_
              first
                | refine SL.val (Val.addI rfl rfl (by simp only [InR, lo, hi]; omega)) rfl rfl ?_
                | refine SL.val (Val.addW rfl rfl) rfl rfl ?_
              refine SL.val (Val.assign rfl) rfl rfl ?_
              refine SL.nil ?_
              have hgood : nameC (s[k]'hlt).toNat = true := by
                simp [nameC]
                omega
              exact SE.round (k + 1) (by omega) (by exact ⟨rfl, rfl, trivial⟩) (fun w' hw' => ⟨⟨hlt, fun j hj h => by
                rcases Nat.lt_or_ge j k with h2 | h2
                · exact hp j hj h2
                · obtain rfl : j = k := by omega
                  exact hgood⟩, hw'⟩)
        · intro hc25
          refine SL.skip rfl rfl ?_
          refine SL.skip rfl rfl ?_
          refine SL.skip rfl rfl ?_
          refine SL.skip rfl rfl ?_
          refine SL.val (Val.pickF rfl rfl) rfl rfl ?_
          refine SL.val (Val.pickF rfl rfl) rfl rfl ?_
          refine SL.val (Val.move rfl) rfl rfl ?_
          refine SL.val (Val.move rfl) rfl rfl ?_
          refine SL.val (Val.move rfl) rfl rfl ?_
          refine SL.val (Val.indexSt (q := k) rfl rfl rfl hlt Try.underlying9) rfl rfl ?_
          refine SL.val (Val.eqI rfl rfl) rfl rfl ?_
          refine SL.val (Val.pickF rfl rfl) rfl rfl ?_
          refine SL.val (Val.notP rfl) rfl rfl ?_
          refine SL.nil ?_
          refine SE.seq ?_
          refine SC.condP rfl ?_ ?_
          · intro hc38
            refine SC.seq ?_
            refine SC.region ?_
            refine SL.val (Val.assign rfl) rfl rfl ?_
            refine SL.nil ?_
            refine SE.seq ?_
            refine SC.ret ?_
            refine SE.ret ?_
            refine SE.then_ (by intro h; cases h) ?_
            refine SE.then_ (by intro h; cases h) ?_
            refine SE.ret ?_
            refine SE.then_ (by intro h; cases h) ?_
            refine SE.ret1 rfl rfl ?_
            intro w' hw'
            refine ⟨?_, hw'⟩
            congr 2
            unfold nameB
            first
              | (rw [all_at hlt (by simp [nameC]; omega)]; rfl)
              | (rw [all_all fun j hj => hp j hj (by omega)]; rw [Bool.eq_iff_iff]; simp; omega)
              | (exfalso; omega)
          · intro hc38
            refine SC.skip ?_
            refine SE.inBlock ?_
            refine SE.seq ?_
            refine SC.region ?_
            refine SL.val (Val.move rfl) rfl rfl ?_
            first
              | refine SL.val (Val.addI rfl rfl (by simp only [InR, lo, hi]; omega)) rfl rfl ?_
              | refine SL.val (Val.addW rfl rfl) rfl rfl ?_
            refine SL.val (Val.assign rfl) rfl rfl ?_
            refine SL.nil ?_
            have hgood : nameC (s[k]'hlt).toNat = true := by
              simp [nameC]
              omega
            exact SE.round (k + 1) (by omega) (by exact ⟨rfl, rfl, trivial⟩) (fun w' hw' => ⟨⟨hlt, fun j hj h => by
              rcases Nat.lt_or_ge j k with h2 | h2
              · exact hp j hj h2
              · obtain rfl : j = k := by omega
                exact hgood⟩, hw'⟩)
    · intro hc14
      refine SL.skip rfl rfl ?_
      refine SL.skip rfl rfl ?_
      refine SL.skip rfl rfl ?_
      refine SL.skip rfl rfl ?_
      refine SL.val (Val.pickF rfl rfl) rfl rfl ?_
      refine SL.val (Val.move rfl) rfl rfl ?_
      refine SL.val (Val.move rfl) rfl rfl ?_
      refine SL.val (Val.move rfl) rfl rfl ?_
      refine SL.val (Val.indexSt (q := k) rfl rfl rfl hlt Try.underlying9) rfl rfl ?_
      refine SL.val (Val.geI rfl rfl) rfl rfl ?_
      refine SL.val (Val.move rfl) rfl rfl ?_
      refine SL.bothP (t := 25) rfl ?_ ?_
      · intro hc25
        refine SL.val (Val.move rfl) rfl rfl ?_
        refine SL.val (Val.move rfl) rfl rfl ?_
        refine SL.val (Val.indexSt (q := k) rfl rfl rfl hlt Try.underlying9) rfl rfl ?_
        refine SL.val (Val.leI rfl rfl) rfl rfl ?_
        refine SL.val (Val.pickT rfl rfl) rfl rfl ?_
        refine SL.val (Val.pickF rfl rfl) rfl rfl ?_
        refine SL.val (Val.move rfl) rfl rfl ?_
        refine SL.bothP (t := 32) rfl ?_ ?_
        · intro hc32
          refine SL.skip rfl rfl ?_
          refine SL.skip rfl rfl ?_
          refine SL.skip rfl rfl ?_
          refine SL.skip rfl rfl ?_
          refine SL.val (Val.pickT rfl rfl) rfl rfl ?_
          refine SL.val (Val.notT rfl) rfl rfl ?_
          refine SL.nil ?_
          refine SE.seq ?_
          refine SC.condF rfl ?_
          refine SC.skip ?_
          refine SE.inBlock ?_
          refine SE.seq ?_
          refine SC.region ?_
          refine SL.val (Val.move rfl) rfl rfl ?_
          first
            | refine SL.val (Val.addI rfl rfl (by simp only [InR, lo, hi]; omega)) rfl rfl ?_
            | refine SL.val (Val.addW rfl rfl) rfl rfl ?_
          refine SL.val (Val.assign rfl) rfl rfl ?_
          refine SL.nil ?_
          have hgood : nameC (s[k]'hlt).toNat = true := by
            simp [nameC]
            omega
          exact SE.round (k + 1) (by omega) (by exact ⟨rfl, rfl, trivial⟩) (fun w' hw' => ⟨⟨hlt, fun j hj h => by
            rcases Nat.lt_or_ge j k with h2 | h2
            · exact hp j hj h2
            · obtain rfl : j = k := by omega
              exact hgood⟩, hw'⟩)
        · intro hc32
          refine SL.val (Val.move rfl) rfl rfl ?_
          refine SL.val (Val.move rfl) rfl rfl ?_
          refine SL.val (Val.indexSt (q := k) rfl rfl rfl hlt Try.underlying9) rfl rfl ?_
          refine SL.val (Val.eqI rfl rfl) rfl rfl ?_
          refine SL.val (Val.pickF rfl rfl) rfl rfl ?_
          refine SL.val (Val.notP rfl) rfl rfl ?_
          refine SL.nil ?_
          refine SE.seq ?_
          refine SC.condP rfl ?_ ?_
          · intro hc38
            refine SC.seq ?_
            refine SC.region ?_
            refine SL.val (Val.assign rfl) rfl rfl ?_
            refine SL.nil ?_
            refine SE.seq ?_
            refine SC.ret ?_
            refine SE.ret ?_
            refine SE.then_ (by intro h; cases h) ?_
            refine SE.then_ (by intro h; cases h) ?_
            refine SE.ret ?_
            refine SE.then_ (by intro h; cases h) ?_
            refine SE.ret1 rfl rfl ?_
            intro w' hw'
            refine ⟨?_, hw'⟩
            congr 2
            unfold nameB
            first
              | (rw [all_at hlt (by simp [nameC]; omega)]; rfl)
              | (rw [all_all fun j hj => hp j hj (by omega)]; rw [Bool.eq_iff_iff]; simp; omega)
              | (exfalso; omega)
          · intro hc38
            refine SC.skip ?_
            refine SE.inBlock ?_
            refine SE.seq ?_
            refine SC.region ?_
            refine SL.val (Val.move rfl) rfl rfl ?_
            first
              | refine SL.val (Val.addI rfl rfl (by simp only [InR, lo, hi]; omega)) rfl rfl ?_
              | refine SL.val (Val.addW rfl rfl) rfl rfl ?_
            refine SL.val (Val.assign rfl) rfl rfl ?_
            refine SL.nil ?_
            have hgood : nameC (s[k]'hlt).toNat = true := by
              simp [nameC]
              omega
            exact SE.round (k + 1) (by omega) (by exact ⟨rfl, rfl, trivial⟩) (fun w' hw' => ⟨⟨hlt, fun j hj h => by
              rcases Nat.lt_or_ge j k with h2 | h2
              · exact hp j hj h2
              · obtain rfl : j = k := by omega
                exact hgood⟩, hw'⟩)
      · intro hc25
        refine SL.skip rfl rfl ?_
        refine SL.skip rfl rfl ?_
        refine SL.skip rfl rfl ?_
        refine SL.skip rfl rfl ?_
        refine SL.val (Val.pickF rfl rfl) rfl rfl ?_
        refine SL.val (Val.pickF rfl rfl) rfl rfl ?_
        refine SL.val (Val.move rfl) rfl rfl ?_
        refine SL.val (Val.move rfl) rfl rfl ?_
        refine SL.val (Val.move rfl) rfl rfl ?_
        refine SL.val (Val.indexSt (q := k) rfl rfl rfl hlt Try.underlying9) rfl rfl ?_
        refine SL.val (Val.eqI rfl rfl) rfl rfl ?_
        refine SL.val (Val.pickF rfl rfl) rfl rfl ?_
        refine SL.val (Val.notP rfl) rfl rfl ?_
        refine SL.nil ?_
        refine SE.seq ?_
        refine SC.condP rfl ?_ ?_
        · intro hc38
          refine SC.seq ?_
          refine SC.region ?_
          refine SL.val (Val.assign rfl) rfl rfl ?_
          refine SL.nil ?_
          refine SE.seq ?_
          refine SC.ret ?_
          refine SE.ret ?_
          refine SE.then_ (by intro h; cases h) ?_
          refine SE.then_ (by intro h; cases h) ?_
          refine SE.ret ?_
          refine SE.then_ (by intro h; cases h) ?_
          refine SE.ret1 rfl rfl ?_
          intro w' hw'
          refine ⟨?_, hw'⟩
          congr 2
          unfold nameB
          first
            | (rw [all_at hlt (by simp [nameC]; omega)]; rfl)
            | (rw [all_all fun j hj => hp j hj (by omega)]; rw [Bool.eq_iff_iff]; simp; omega)
            | (exfalso; omega)
        · intro hc38
          refine SC.skip ?_
          refine SE.inBlock ?_
          refine SE.seq ?_
          refine SC.region ?_
          refine SL.val (Val.move rfl) rfl rfl ?_
          first
            | refine SL.val (Val.addI rfl rfl (by simp only [InR, lo, hi]; omega)) rfl rfl ?_
            | refine SL.val (Val.addW rfl rfl) rfl rfl ?_
          refine SL.val (Val.assign rfl) rfl rfl ?_
          refine SL.nil ?_
          have hgood : nameC (s[k]'hlt).toNat = true := by
            simp [nameC]
            omega
          exact SE.round (k + 1) (by omega) (by exact ⟨rfl, rfl, trivial⟩) (fun w' hw' => ⟨⟨hlt, fun j hj h => by
            rcases Nat.lt_or_ge j k with h2 | h2
            · exact hp j hj h2
            · obtain rfl : j = k := by omega
              exact hgood⟩, hw'⟩)
  · intro hc7
    refine SC.exit ?_
    refine SE.then_ (by intro h; cases h) ?_
    refine SE.then_ (by intro h; cases h) ?_
    refine SE.exit ?_
    refine SE.seq ?_
    refine SC.seq ?_
    refine SC.region ?_
    refine SL.val (Val.move rfl) rfl rfl ?_
    refine SL.val (Val.lenSt rfl Try.underlying9) rfl rfl ?_
    refine SL.val (Val.geI rfl rfl) rfl rfl ?_
    refine SL.val (Val.move rfl) rfl rfl ?_
    refine SL.bothP (t := 42) rfl ?_ ?_
    · intro hc42
      refine SL.val (Val.move rfl) rfl rfl ?_
      refine SL.val (Val.lenSt rfl Try.underlying9) rfl rfl ?_
      refine SL.val (Val.leI rfl rfl) rfl rfl ?_
      refine SL.val (Val.pickT rfl rfl) rfl rfl ?_
      refine SL.val (Val.assign rfl) rfl rfl ?_
      refine SL.nil ?_
      refine SE.seq ?_
      refine SC.ret ?_
      refine SE.ret1 rfl rfl ?_
      intro w' hw'
      refine ⟨?_, hw'⟩
      congr 2
      unfold nameB
      first
        | (rw [all_at hlt (by simp [nameC]; omega)]; rfl)
        | (rw [all_all fun j hj => hp j hj (by omega)]; rw [Bool.eq_iff_iff]; simp; omega)
        | (exfalso; omega)
    · intro hc42
      refine SL.skip rfl rfl ?_
      refine SL.skip rfl rfl ?_
      refine SL.skip rfl rfl ?_
      refine SL.val (Val.pickF rfl rfl) rfl rfl ?_
      refine SL.val (Val.assign rfl) rfl rfl ?_
      refine SL.nil ?_
      refine SE.seq ?_
      refine SC.ret ?_
      refine SE.ret1 rfl rfl ?_
      intro w' hw'
      refine ⟨?_, hw'⟩
      congr 2
      unfold nameB
      first
        | (rw [all_at hlt (by simp [nameC]; omega)]; rfl)
        | (rw [all_all fun j hj => hp j hj (by omega)]; rw [Bool.eq_iff_iff]; simp; omega)
        | (exfalso; omega)
end
end Go.Proofs.Ytdbeinbgekdnmaa
