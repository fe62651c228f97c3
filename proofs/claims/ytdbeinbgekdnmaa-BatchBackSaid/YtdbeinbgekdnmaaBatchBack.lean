/-
  Batches, in plain Lean: what is written reads back.
-/
import Derived.Test.YtdbeinbgekdnmaaBatchTwo
set_option maxRecDepth 100000
namespace Go.Proofs.Ytdbeinbgekdnmaa
open Go.RowKit

/-- A reader that has not failed, ahead of these bytes. -/
def Rd.At (s : Rd) (l : List UInt8) : Prop := s.e = 0 ∧ s.l = l
theorem at_fixed {s : Rd} {x r : List UInt8} (h : s.At (x ++ r)) {n : Int} (hn : n = x.length) : (s.fixed n).At r ∧ s.out n = x := by
  obtain ⟨h1, h2⟩ := h
  have hb : ¬ s.bad n := by
    unfold Rd.bad
    rw [h2, List.length_append]
    omega
  have ht : n.toNat = x.length := by omega
  unfold Rd.At Rd.fixed Rd.out
  simp only [h1, ne_eq, not_true_eq_false, if_false, hb, h2, ht]
  simp
theorem at_num {s : Rd} {r : List UInt8} {v k : Nat} (h : s.At (beBytes v k ++ r)) (hv : v < 256 ^ k) {n : Int} (hn : n = k) : (s.fixed n).At r ∧ s.num n = v := by
  obtain ⟨h1, h2⟩ := at_fixed h (n := n) (by rw [beBytes_length]; exact hn)
  exact ⟨h1, by rw [Rd.num, h2, beVal_be v k hv]⟩
theorem at_row {s : Rd} {x r : List UInt8} {most : Int} (h : s.At (rowB x ++ r)) (hx : x.length ≤ most) (hx2 : x.length < 4294967296) : (s.row most).At r ∧ s.rowOut most = x := by
  unfold rowB at h
  rw [List.append_assoc] at h
  obtain ⟨h1, h2⟩ := at_num h (by omega) (n := 4) rfl
  obtain ⟨h3, h4⟩ := at_fixed h1 (n := s.num 4) (by rw [h2])
  have hm : ¬ most < s.num 4 := by rw [h2]; omega
  unfold Rd.row Rd.rowOut
  simp only [h1.1, ne_eq, not_true_eq_false, if_false, hm]
  exact ⟨h3, h4⟩
theorem sg_u64 {a : Int} (h : InR .i64 a) : sg (u64 a) = a := by
  obtain ⟨h1, h2⟩ := h
  simp only [lo, hi] at h1 h2
  unfold sg u64
  simp [IntKind.wrap, IntKind.bits, IntKind.signed]
  split <;> omega
theorem u64_nat {a : Int} (h : 0 ≤ a) (h2 : a < 18446744073709551616) : ((u64 a : Nat) : Int) = a := by
  unfold u64
  omega
theorem txtB_bytes (b : ByteArray) : txtB b.data.toList = b := by
  unfold txtB
  simp
/-- A core that may be written and read. -/
structure Core.Back (c : Core) : Prop where
  client : 0 ≤ c.client ∧ c.client < 256
  stamp : InR .i64 c.stamp
  op : 0 ≤ c.op ∧ c.op < 256
  a : InR .i64 c.a
  b : InR .i64 c.b
theorem at_core {s : Rd} {c : Core} {most : Int} (h : s.At c.bytes) (hc : c.Back) (hl : (c.bytes.length : Int) ≤ most) (hl2 : c.bytes.length < 4294967296) : (s.coreEnd most).At [] ∧ s.core most = c := by
  have e1 : c.letter.data.toList.length = c.letter.size := by simp
  have e2 : c.text.data.toList.length = c.text.size := by simp
  have hlen := Core.bytes_length c
  unfold Core.bytes at h
  simp only [List.append_assoc] at h
  have u1 := u64_nat hc.client.1 (by have := hc.client.2; omega)
  have u2 := u64_nat hc.op.1 (by have := hc.op.2; omega)
  have g1 := hc.client.2
  have g2 := hc.op.2
  obtain ⟨a1, b1⟩ := at_num h (by omega) (n := 1) rfl
  obtain ⟨a2, b2⟩ := at_num a1 (by have := u64_lt c.stamp; omega) (n := 8) rfl
  obtain ⟨a3, b3⟩ := at_num a2 (by omega) (n := 1) rfl
  obtain ⟨a4, b4⟩ := at_row (most := most) a3 (by omega) (by omega)
  obtain ⟨a5, b5⟩ := at_num a4 (by have := u64_lt c.a; omega) (n := 8) rfl
  obtain ⟨a6, b6⟩ := at_num a5 (by have := u64_lt c.b; omega) (n := 8) rfl
  rw [← List.append_nil (rowB c.text.data.toList)] at a6
  obtain ⟨a7, b7⟩ := at_row (most := most) a6 (by omega) (by omega)
  refine ⟨a7, ?_⟩
  unfold Rd.core
  unfold Rd.c6 Rd.c4 Rd.c3
  rw [b1, b2, b3, b4, b5, b6, b7, u1, u2, sg_u64 hc.stamp, sg_u64 hc.a, sg_u64 hc.b, txtB_bytes, txtB_bytes]
/-- An entry that may be written and read. -/
structure Ent.Back (e : Ent) : Prop where
  core : e.core.Back
  mask : e.mask < 256
  len : e.core.bytes.length ≤ 100000
theorem ents_back {L : Int} : ∀ (es : List Ent) (s : Rd) (acc : List Ent), (∀ e ∈ es, e.Back ∧ (e.core.bytes.length : Int) ≤ L) → s.At (es.flatMap Ent.bytes) → ∃ t : Rd, t.At [] ∧ s.ents L es.length acc = some (acc ++ es, t)
  | [], s, acc, _, h => ⟨s, h, by simp [Rd.ents]⟩
  | e :: es, s, acc, hall, h => by
    obtain ⟨he, hL⟩ := hall e List.mem_cons_self
    have hlen := he.len
    rw [List.flatMap_cons, Ent.bytes, List.append_assoc] at h
    obtain ⟨a1, b1⟩ := at_row (most := L) h hL (by omega)
    obtain ⟨a2, b2⟩ := at_num a1 (by have := he.mask; omega) (n := 1) rfl
    obtain ⟨c1, c2⟩ := at_core (s := Rd.of e.core.bytes) (c := e.core) (most := (e.core.bytes.length : Nat)) ⟨rfl, rfl⟩ he.core (Int.le_refl _) (by omega)
    have hok : okOf e.core.bytes (e.core.bytes.length : Nat) = true := by
      refine decide_eq_true ?_
      unfold Rd.end_
      rw [c1.1, c1.2]
      simp
    have hco : coreOf e.core.bytes (e.core.bytes.length : Nat) = e.core := c2
    obtain ⟨t, ht, hr⟩ := ents_back es ((s.row L).fixed 1) (acc ++ [e]) (fun x hx => hall x (List.mem_cons_of_mem _ hx)) a2
    refine ⟨t, ht, ?_⟩
    rw [List.length_cons]
    simp only [Rd.ents]
    rw [b1, hok, if_neg (by decide), hco, b2]
    rw [List.append_assoc] at hr
    exact hr
theorem of_if {b : Bool} {r : Int} (h : (if b = true then (15 : Int) else r) = 0) : r = 0 := by
  cases b with
  | false => simpa using h
  | true => simp at h
theorem chkL_all {n : Int} : ∀ (es : List Ent) (p : Option Int), chkL n p es = 0 → ∀ e ∈ es, e.core.check n = 0 ∧ e.mask < 2 ^ n.toNat
  | [], _, _ => by simp
  | e :: es, p, h => by
    simp only [chkL] at h
    split at h
    · rename_i h1; exact absurd h h1
    · rename_i h1
      split at h
      · exact absurd h (by decide)
      · rename_i h2
        intro x hx
        rcases List.mem_cons.1 hx with rfl | hx
        · exact ⟨Decidable.not_not.1 h1, by omega⟩
        · exact chkL_all es _ (of_if h) x hx
theorem check_ok {c : Core} {n : Int} (h : c.check n = 0) : 1 ≤ n ∧ n ≤ 7 ∧ n ≤ c.client ∧ c.client < n + 4 ∧ 1 ≤ c.stamp ∧ c.stamp ≤ 1099511627776 ∧ 1 ≤ c.op ∧ c.op ≤ 9 ∧ nameB c.letter = true ∧ c.text.size ≤ 200 := by
  unfold Core.check at h
  split at h
  · exact absurd h (by decide)
  · split at h
    · exact absurd h (by decide)
    · split at h
      · exact absurd h (by decide)
      · split at h
        · exact absurd h (by decide)
        · split at h
          · exact absurd h (by decide)
          · rename_i h4 _
            rw [Bool.not_eq_false] at h4
            exact ⟨by omega, by omega, by omega, by omega, by omega, by omega, by omega, by omega, h4, by omega⟩
/-- What may be a batch reads back. -/
theorem parse_back {es : List Ent} {n : Int} (hs : ∀ e ∈ es, e.Lits) (h : chkB es n = 0) : parseS (batchB es) n = (es, 0) := by
  have h0 := h
  unfold chkB at h
  split at h
  · exact absurd h (by decide)
  · rename_i hn
    split at h
    · exact absurd h (by decide)
    · rename_i hlen
      have hall := chkL_all es none h
      have hback : ∀ e ∈ es, e.Back ∧ (e.core.bytes.length : Int) ≤ ((batchB es).length : Nat) := fun e he => by
        obtain ⟨k1, k2⟩ := hall e he
        obtain ⟨g1, g2, g3, g4, g5, g6, g7, g8, g9, g10⟩ := check_ok k1
        have hl := hs e he
        have hsz : e.core.letter.size ≤ 16 := by
          unfold nameB at g9
          simp only [Bool.and_eq_true, decide_eq_true_eq] at g9
          exact g9.2
        have hm : e.mask < 128 + 1 := by
          have : 2 ^ n.toNat ≤ 2 ^ 7 := Nat.pow_le_pow_right (by decide) (by omega)
          omega
        have hlen2 := Core.bytes_length e.core
        refine ⟨⟨⟨⟨by omega, by omega⟩, hl.stamp, ⟨by omega, by omega⟩, hl.a, hl.b⟩, by omega, by omega⟩, ?_⟩
        have : e.bytes.length ≤ (es.flatMap Ent.bytes).length := by
          obtain ⟨s1, s2, rfl⟩ := List.append_of_mem he
          simp only [List.flatMap_append, List.flatMap_cons, List.length_append]
          omega
        have h7 : e.core.bytes.length ≤ e.bytes.length := by
          unfold Ent.bytes rowB
          simp only [List.length_append]
          omega
        unfold batchB
        rw [List.length_append]
        omega
      have hat : (Rd.of (batchB es)).At (beBytes es.length 2 ++ es.flatMap Ent.bytes) := ⟨rfl, rfl⟩
      obtain ⟨a1, b1⟩ := at_num hat (by omega) (n := 2) rfl
      obtain ⟨t, ht, hr⟩ := ents_back (L := ((batchB es).length : Nat)) es ((Rd.of (batchB es)).fixed 2) [] hback a1
      have hmany : manyOf (batchB es) = es.length := by
        unfold manyOf
        rw [b1]
        have : es.length ≤ (batchB es).length + 1 := by
          have : es.length ≤ (es.flatMap Ent.bytes).length := by
            clear h h0 hlen hall hback hat a1 b1 ht hr hs
            induction es with
            | nil => simp
            | cons e es ih =>
              rw [List.flatMap_cons, List.length_append, List.length_cons]
              have : 1 ≤ e.bytes.length := by
                unfold Ent.bytes
                rw [List.length_append, beBytes_length]
                omega
              omega
          unfold batchB
          rw [List.length_append]
          omega
        omega
      have hend : t.end_ = 0 := by
        unfold Rd.end_
        rw [ht.1, ht.2]
        simp
      unfold parseS
      rw [hmany, hr]
      simp only [parse2, List.nil_append]
      rw [if_neg (by simp [hend]), if_neg (by simp [h0])]
end Go.Proofs.Ytdbeinbgekdnmaa
