/-
  Packed out of the texts: CLaw, Law, Open, OpenBytes, COpen, ABook, A10, B1, ABk2.
-/
import Derived.Test.YtpgffckfbgfgcaaP12
import Derived.Test.YtpgffckfbgfgcaaRows
import Derived.OpenShut
import Derived.SizedLaws
import Derived.Deep.Slices
import Derived.DataShut
/-
  Changes, in plain Lean: what is written reads back; the program's Parse answers as the document's.
-/
set_option maxRecDepth 100000
set_option linter.unusedSimpArgs false
set_option linter.unusedVariables false
namespace Go.Proofs.Ytpgffckfbgfgcaa.A
open Go.RowKit

/-! ### What is written reads back -/
structure Prf.Lits (p : Prf) : Prop where
  seq : InR .i64 p.seq
  view : InR .i64 p.view
  all : ∀ e ∈ p.batch, e.Lits
structure Chg.Lits (c : Chg) : Prop where
  view : InR .i64 c.view
  low : InR .i64 c.low
  pts : ∀ p ∈ c.points, InR .i64 p.seq
  prep : ∀ p ∈ c.prepared, p.Lits
  prop : ∀ p ∈ c.proposed, p.Lits
theorem at_count {s : Rd} {r : List UInt8} {k : Nat} {most : Int} (h : s.At (beBytes k 2 ++ r)) (hk : k < 65536) (hm : (k : Int) ≤ most) : (s.count most).At r ∧ s.countN most = k := by
  obtain ⟨h1, h2⟩ := at_num h (by omega) (n := 2) rfl
  have h3 : ¬ ((s.fixed 2).e = 0 ∧ most < s.num 2) := by rw [h2]; omega
  unfold Rd.count Rd.countN
  rw [if_neg h3, if_neg h3]
  exact ⟨h1, h2⟩
theorem u64_lt8 (a : Int) : u64 a < 256 ^ 8 := by
  have := u64_lt a
  omega
theorem Pnt.mk_self (p : Pnt) : Pnt.mk' p.seq p.dig = p := by
  obtain ⟨a, d, h⟩ := p
  simp only [Pnt.mk', Pnt.mk.injEq, true_and]
  exact pad_all h
theorem pnts_back {r : List UInt8} : ∀ (ps : List Pnt) (s : Rd) (acc : List Pnt), (∀ p ∈ ps, InR .i64 p.seq) → s.At (ps.flatMap Pnt.bytes ++ r) → ∃ t : Rd, t.At r ∧ Rd.pnts ps.length s acc = (acc ++ ps, t)
  | [], s, acc, _, h => ⟨s, h, by simp [Rd.pnts]⟩
  | p :: ps, s, acc, hall, h => by
    have e1 : (p :: ps).flatMap Pnt.bytes ++ r = beBytes (u64 p.seq) 8 ++ (p.dig ++ (ps.flatMap Pnt.bytes ++ r)) := by simp [Pnt.bytes, long8]
    rw [e1] at h
    obtain ⟨a1, b1⟩ := at_num h (u64_lt8 _) (n := 8) rfl
    obtain ⟨a2, b2⟩ := at_fixed a1 (n := 32) (by rw [p.len]; rfl)
    obtain ⟨t, ht, hr⟩ := pnts_back ps ((s.fixed 8).fixed 32) (acc ++ [p]) (fun x hx => hall x (List.mem_cons_of_mem _ hx)) a2
    refine ⟨t, ht, ?_⟩
    rw [List.length_cons]
    unfold Rd.pnts
    rw [b1, b2, sg_u64 (hall p List.mem_cons_self), Pnt.mk_self, hr]
    simp
theorem prfs_back {n room : Int} {r : List UInt8} : ∀ (ps : List Prf) (s : Rd) (acc : List Prf), (∀ p ∈ ps, p.Lits ∧ chkB p.batch n = 0 ∧ ((batchB p.batch).length : Int) ≤ room ∧ (batchB p.batch).length < 4294967296) → s.At (ps.flatMap Prf.bytes ++ r) →
    ∃ t : Rd, t.At r ∧ Rd.prfs n room ps.length s acc false = (acc ++ ps, false, t)
  | [], s, acc, _, h => ⟨s, h, by simp [Rd.prfs]⟩
  | p :: ps, s, acc, hall, h => by
    obtain ⟨g1, g2, g3, g4⟩ := hall p List.mem_cons_self
    have e1 : (p :: ps).flatMap Prf.bytes ++ r = beBytes (u64 p.seq) 8 ++ (beBytes (u64 p.view) 8 ++ (rowB (batchB p.batch) ++ (ps.flatMap Prf.bytes ++ r))) := by simp [Prf.bytes, long8]
    rw [e1] at h
    obtain ⟨a1, b1⟩ := at_num h (u64_lt8 _) (n := 8) rfl
    obtain ⟨a2, b2⟩ := at_num a1 (u64_lt8 _) (n := 8) rfl
    obtain ⟨a3, b3⟩ := at_row (most := room) a2 g3 g4
    obtain ⟨t, ht, hr⟩ := prfs_back ps ((Rd.pr2 s).row room) (acc ++ [p]) (fun x hx => hall x (List.mem_cons_of_mem _ hx)) a3
    refine ⟨t, ht, ?_⟩
    have b3' : Rd.prOut s room = batchB p.batch := b3
    have b2' : (Rd.pr1 s).num 8 = u64 p.view := b2
    rw [List.length_cons]
    unfold Rd.prfs
    rw [b1, b2', b3', parse_back g1.all g2, sg_u64 g1.seq, sg_u64 g1.view]
    have e2 : (⟨p.seq, p.view, p.batch⟩ : Prf) = p := rfl
    simp only [e2]
    rw [show (false || decide ((0 : Int) ≠ 0)) = false from rfl, hr]
    simp
theorem flat_le {α : Type} {f : α → List UInt8} {xs : List α} {x : α} (h : x ∈ xs) : (f x).length ≤ (xs.flatMap f).length := by
  obtain ⟨s1, s2, rfl⟩ := List.append_of_mem h
  simp only [List.flatMap_append, List.flatMap_cons, List.length_append]
  omega
theorem Prf.batch_le (p : Prf) : (batchB p.batch).length ≤ p.bytes.length := by
  unfold Prf.bytes rowB
  simp only [List.length_append]
  omega
theorem check_zero {c : Chg} {n : Int} (h : c.check n = 0) : ¬ (n < 1 ∨ 7 < n) ∧ c.Right n := by
  unfold Chg.check at h
  split at h
  · exact absurd h (by decide)
  · rename_i h1
    refine ⟨h1, ?_⟩
    cases h2 : yes (c.Right n) with
    | true => exact yes_iff.1 h2
    | false => rw [h2] at h; exact absurd h (by decide)
theorem check_right {c : Chg} {n : Int} (hn : ¬ (n < 1 ∨ 7 < n)) : c.check n = 0 ↔ c.Right n := by
  constructor
  · intro h; exact (check_zero h).2
  · intro h
    unfold Chg.check
    rw [if_neg hn, yes_iff.2 h]
    rfl
/-- What may be a change reads back. -/
theorem chg_back {c : Chg} {n : Int} (hs : c.Lits) (h : c.check n = 0) (hl : c.bytes.length < 4294967296) : parseC c.bytes n = (c, 0) := by
  obtain ⟨hn, hr⟩ := check_zero h
  obtain ⟨r1, r2, r3, ⟨r4, r5, r6, r7, r8⟩, ⟨r9, r10, r11⟩, ⟨r12, r13, r14⟩⟩ := hr
  have e0 : c.bytes = beBytes (u64 c.view) 8 ++ (beBytes (u64 c.low) 8 ++ (beBytes c.points.length 2 ++ (c.points.flatMap Pnt.bytes ++ (beBytes c.prepared.length 2 ++ (c.prepared.flatMap Prf.bytes ++ (beBytes c.proposed.length 2 ++ (c.proposed.flatMap Prf.bytes ++ []))))))) := by
    unfold Chg.bytes Chg.head prfsB
    rw [List.take_length]
    simp [long8]
  have hall : ∀ ps : List Prf, (∀ p ∈ ps, p.Lits) → (∀ p ∈ ps, p.fits c.low c.view n) → (ps.flatMap Prf.bytes).length ≤ c.bytes.length → ∀ p ∈ ps, p.Lits ∧ chkB p.batch n = 0 ∧ ((batchB p.batch).length : Int) ≤ (c.bytes.length : Nat) ∧ (batchB p.batch).length < 4294967296 := fun ps h1 h2 h3 p hp => by
    have h4 := p.batch_le
    have h5 := flat_le (f := Prf.bytes) hp
    exact ⟨h1 p hp, (h2 p hp).2.2.2.2, by omega, by omega⟩
  have hat : (Rd.of c.bytes).At (beBytes (u64 c.view) 8 ++ _) := ⟨rfl, e0⟩
  have hlen := congrArg List.length e0
  simp only [List.length_append] at hlen
  obtain ⟨a1, b1⟩ := at_num hat (u64_lt8 _) (n := 8) rfl
  obtain ⟨a2, b2⟩ := at_num a1 (u64_lt8 _) (n := 8) rfl
  have a2' : (Rd.chgHead c.bytes).At _ := a2
  obtain ⟨a3, b3⟩ := at_count (most := 4) a2' (by omega) (by omega)
  obtain ⟨t1, a4, b4⟩ := pnts_back c.points _ [] hs.pts a3
  have hp1 : Rd.chgPts c.bytes = (c.points, t1) := by unfold Rd.chgPts; rw [b3, b4]; rfl
  obtain ⟨a5, b5⟩ := at_count (most := 8) a4 (by omega) (by omega)
  obtain ⟨t2, a6, b6⟩ := prfs_back (n := n) (room := (c.bytes.length : Nat)) c.prepared _ [] (hall _ hs.prep r11 (by omega)) a5
  have hp2 : Rd.chgPre c.bytes n = (c.prepared, false, t2) := by unfold Rd.chgPre; rw [hp1]; dsimp only; rw [b5, b6]; rfl
  obtain ⟨a7, b7⟩ := at_count (most := 64) a6 (by omega) (by omega)
  obtain ⟨t3, a8, b8⟩ := prfs_back (n := n) (room := (c.bytes.length : Nat)) c.proposed _ [] (hall _ hs.prop r14 (by omega)) a7
  have hp3 : Rd.chgPro c.bytes n = (c.proposed, false, t3) := by unfold Rd.chgPro; rw [hp2]; dsimp only; rw [b7, b8]; rfl
  have hend : t3.end_ = 0 := by
    unfold Rd.end_
    rw [a8.1, a8.2]
    simp
  have hc : Rd.chg c.bytes n = c := by
    unfold Rd.chg
    rw [hp1, hp2, hp3, b1, b2, sg_u64 hs.view, sg_u64 hs.low]
  unfold parseC
  rw [if_neg hn, hc, hp2, hp3, if_neg (by
    intro h9
    rcases h9 with h9 | h9 | h9 | h9
    · exact h9 hend
    · cases h9
    · cases h9
    · exact h9 h)]

/-! ### Both Parses -/
theorem Rd.count_bad {s : Rd} (h : s.e ≠ 0) (m : Int) : (s.count m).e ≠ 0 := by
  unfold Rd.count
  rw [Rd.fixed_bad h, if_neg (fun h2 => h h2.1)]
  exact h
theorem pnts_bad : ∀ (k : Nat) {s : Rd} (acc : List Pnt), s.e ≠ 0 → (Rd.pnts k s acc).2.e ≠ 0
  | 0, _, _, h => h
  | k + 1, s, acc, h => by
    unfold Rd.pnts
    refine pnts_bad k _ ?_
    rw [Rd.fixed_bad h, Rd.fixed_bad h]
    exact h
theorem pnts_two : ∀ (k : Nat) (s : Rd) (acc : List Pnt), ((Rd.pnts k s acc).2.e ≠ 0 ∧ (Rd.rpnts k s acc).2.e ≠ 0) ∨ Rd.pnts k s acc = Rd.rpnts k s acc
  | 0, _, _ => .inr rfl
  | k + 1, s, acc => by
    by_cases h : s.e ≠ 0
    · refine .inl ⟨pnts_bad _ _ h, ?_⟩
      rw [rpnts_stop h]
      exact h
    · unfold Rd.pnts Rd.rpnts
      rw [if_neg h]
      exact pnts_two k _ _
theorem prfs_bad {n room : Int} : ∀ (k : Nat) {s : Rd} (acc : List Prf) (o : Bool), s.e ≠ 0 → (Rd.prfs n room k s acc o).2.2.e ≠ 0
  | 0, _, _, _, h => h
  | k + 1, s, acc, o, h => by
    unfold Rd.prfs
    refine prfs_bad k _ _ ?_
    unfold Rd.pr2
    rw [Rd.fixed_bad h, Rd.fixed_bad h, Rd.row_bad h]
    exact h
theorem prfs_odd {n room : Int} : ∀ (k : Nat) (s : Rd) (acc : List Prf), (Rd.prfs n room k s acc true).2.1 = true
  | 0, _, _ => rfl
  | k + 1, s, acc => by
    unfold Rd.prfs
    rw [Bool.true_or]
    exact prfs_odd k _ _
theorem rprfs_odd : ∀ (k : Nat) (s : Rd) (acc : List Prf), (Rd.rprfs k s acc false).2.1 = false
  | 0, _, _ => rfl
  | k + 1, s, acc => by
    unfold Rd.rprfs
    split
    · rfl
    · rw [Bool.false_and, Bool.false_and]
      exact rprfs_odd k _ _
theorem rprfs_mem {p : Prf} : ∀ (k : Nat) (s : Rd) (acc : List Prf) (o : Bool), p ∈ acc → p ∈ (Rd.rprfs k s acc o).1
  | 0, _, _, _, h => h
  | k + 1, s, acc, o, h => by
    unfold Rd.rprfs
    split
    · exact h
    · exact rprfs_mem k _ _ _ (List.mem_append_left _ h)
/-- Nothing comes of it, by the program and by the document. -/
def PB (x : List Prf × Bool × Rd) : Prop := x.2.2.e ≠ 0 ∨ x.2.1 = true
def DB (n : Int) (x : List Prf × Bool × Rd) : Prop := x.2.2.e ≠ 0 ∨ x.2.1 = false ∨ ∃ p ∈ x.1, chkB p.batch n ≠ 0
theorem prfs_two {n room : Int} (hr : room ≤ 1000000) : ∀ (k : Nat) (s : Rd) (acc : List Prf), (s.l.length : Int) ≤ room →
    (PB (Rd.prfs n room k s acc false) ∧ DB n (Rd.rprfs k s acc true)) ∨ ∃ xs t, Rd.prfs n room k s acc false = (xs, false, t) ∧ Rd.rprfs k s acc true = (xs, true, t)
  | 0, s, acc, _ => .inr ⟨acc, s, rfl, rfl⟩
  | k + 1, s, acc, hl => by
    by_cases h : s.e ≠ 0
    · refine .inl ⟨.inl (prfs_bad _ _ _ h), .inl ?_⟩
      rw [rprfs_stop h]
      exact h
    · unfold Rd.prfs Rd.rprfs
      rw [if_neg h]
      have h2 := s.fixed_length 8
      have h3 := (s.fixed 8).fixed_length 8
      have h4 := Rd.row_length (Rd.pr2 s) room
      have h5 : (Rd.prOut s room).length ≤ (Rd.pr2 s).l.length := Rd.rowOut_length _ _
      unfold Rd.pr2 at h4 h5
      rcases row_two (s := Rd.pr2 s) (L := room) (M := 1048576) (by unfold Rd.pr2; omega) (by omega) with ⟨a, b⟩ | ⟨a, b⟩
      · refine .inl ⟨.inl (prfs_bad _ _ _ a), .inl ?_⟩
        rw [rprfs_stop b]
        exact b
      · have b' : Rd.prOut s room = Rd.prOut s 1048576 := b
        rw [← a, ← b', parse_two (by omega)]
        have e1 : rparseS (Rd.prOut s room) n = rparse2 n (Rd.ens (Rd.of (Rd.prOut s room))) := rfl
        rw [e1]
        generalize Rd.ens (Rd.of (Rd.prOut s room)) = E
        unfold rparse2
        by_cases c1 : E.2.2.end_ ≠ 0 ∨ E.2.1 = false
        · rw [if_pos c1]
          have e2 : (true && E.2.1 && decide (E.2.2.end_ = 0)) = false := by
            rcases c1 with c1 | c1
            · rw [decide_eq_false c1, Bool.and_false]
            · rw [c1]; rfl
          rw [e2]
          exact .inl ⟨.inr (prfs_odd _ _ _), .inr (.inl (rprfs_odd _ _ _))⟩
        · rw [if_neg c1]
          by_cases c2 : chkB E.1 n ≠ 0
          · rw [if_pos c2]
            refine .inl ⟨.inr ?_, .inr (.inr ⟨_, rprfs_mem _ _ _ _ (List.mem_append_right _ (List.mem_singleton.2 rfl)), c2⟩)⟩
            dsimp only
            rw [Bool.false_or, decide_eq_true c2]
            exact prfs_odd _ _ _
          · rw [if_neg c2]
            have e2 : (true && E.2.1 && decide (E.2.2.end_ = 0)) = true := by
              have d1 : E.2.2.end_ = 0 := Decidable.not_not.1 fun h9 => c1 (.inl h9)
              have d2 : E.2.1 = true := by
                cases h9 : E.2.1 with
                | true => rfl
                | false => exact absurd (.inr h9) c1
              rw [d1, d2]; rfl
            rw [e2]
            exact prfs_two hr k _ _ (by unfold Rd.pr2; omega)
theorem right_bad {c : Chg} {n : Int} (h : (∃ p ∈ c.prepared, chkB p.batch n ≠ 0) ∨ ∃ p ∈ c.proposed, chkB p.batch n ≠ 0) : yes (c.Right n) = false := no_iff.2 fun hr => by
  obtain ⟨r1, r2, r3, r4, ⟨r9, r10, r11⟩, ⟨r12, r13, r14⟩⟩ := hr
  rcases h with ⟨p, hp, h⟩ | ⟨p, hp, h⟩
  · exact h (r11 p hp).2.2.2.2
  · exact h (r14 p hp).2.2.2.2
/-- The program's Parse and the document's answer alike. -/
theorem chg_two {l : List UInt8} {n : Int} (hl : l.length ≤ 1000000) : parseC l n = rparseC l n := by
  unfold parseC rparseC
  by_cases hn : n < 1 ∨ 7 < n
  · rw [if_pos hn, if_pos hn]
  · rw [if_neg hn, if_neg hn]
    have hof : (Rd.of l).l = l := rfl
    have q1 := (Rd.of l).fixed_length 8
    have q2 := ((Rd.of l).fixed 8).fixed_length 8
    have q3 := Rd.count_length (Rd.chgHead l) 4
    unfold Rd.chgHead at q3
    rw [hof] at q1
    have w1 := pnts_left ((Rd.chgHead l).countN 4) ((Rd.chgHead l).count 4) []
    have w2 : (Rd.chgPts l).2.l.length ≤ l.length := by unfold Rd.chgPts; unfold Rd.chgHead at w1 ⊢; omega
    have w4 := Rd.count_length (Rd.chgPts l).2 8
    have w3 := prfs_left n l.length ((Rd.chgPts l).2.countN 8) ((Rd.chgPts l).2.count 8) [] false
    have w5 : (Rd.chgPre l n).2.2.l.length ≤ l.length := by unfold Rd.chgPre; omega
    have w6 := Rd.count_length (Rd.chgPre l n).2.2 64
    have both : ((Rd.chgPro l n).2.2.end_ ≠ 0 ∨ (Rd.chgPre l n).2.1 = true ∨ (Rd.chgPro l n).2.1 = true ∨ (Rd.chg l n).check n ≠ 0) →
        ((Rd.rchgPro l).2.2.end_ ≠ 0 ∨ (Rd.rchgPre l).2.1 = false ∨ (Rd.rchgPro l).2.1 = false ∨ yes ((Rd.rchg l).Right n) = false) →
        (if (Rd.chgPro l n).2.2.end_ ≠ 0 ∨ (Rd.chgPre l n).2.1 = true ∨ (Rd.chgPro l n).2.1 = true ∨ (Rd.chg l n).check n ≠ 0 then (Chg.zero, (2 : Int)) else (Rd.chg l n, 0)) =
        (if (Rd.rchgPro l).2.2.end_ ≠ 0 ∨ (Rd.rchgPre l).2.1 = false ∨ (Rd.rchgPro l).2.1 = false ∨ yes ((Rd.rchg l).Right n) = false then (Chg.zero, 2) else (Rd.rchg l, 0)) := fun h1 h2 => by rw [if_pos h1, if_pos h2]
    have preE : (Rd.chgPts l).2.e ≠ 0 → (Rd.chgPre l n).2.2.e ≠ 0 := fun h => prfs_bad _ _ _ (Rd.count_bad h _)
    have proE : (Rd.chgPre l n).2.2.e ≠ 0 → (Rd.chgPro l n).2.2.end_ ≠ 0 := fun h => Rd.end_bad (prfs_bad _ _ _ (Rd.count_bad h _))
    have rpreE : (Rd.rchgPts l).2.e ≠ 0 → (Rd.rchgPre l).2.2.e ≠ 0 := fun h => by
      have h9 := Rd.count_bad h 8
      unfold Rd.rchgPre
      rw [rprfs_stop h9]
      exact h9
    have rproE : (Rd.rchgPre l).2.2.e ≠ 0 → (Rd.rchgPro l).2.2.end_ ≠ 0 := fun h => by
      have h9 := Rd.count_bad h 64
      unfold Rd.rchgPro
      rw [rprfs_stop h9]
      exact Rd.end_bad h9
    rcases pnts_two ((Rd.chgHead l).countN 4) ((Rd.chgHead l).count 4) [] with ⟨a, b⟩ | a
    · exact both (.inl (proE (preE a))) (.inl (rproE (rpreE b)))
    · have a' : Rd.chgPts l = Rd.rchgPts l := a
      rcases prfs_two (n := n) (room := (l.length : Nat)) (by omega) ((Rd.chgPts l).2.countN 8) ((Rd.chgPts l).2.count 8) [] (by omega) with ⟨b, c⟩ | ⟨xs, t, b, c⟩
      · have c' : DB n (Rd.rchgPre l) := by unfold Rd.rchgPre; rw [← a']; exact c
        have b' : PB (Rd.chgPre l n) := b
        refine both ?_ ?_
        · rcases b' with b' | b'
          · exact .inl (proE b')
          · exact .inr (.inl b')
        · rcases c' with c' | c' | c'
          · exact .inl (rproE c')
          · exact .inr (.inl c')
          · exact .inr (.inr (.inr (right_bad (.inl c'))))
      · have b' : Rd.chgPre l n = (xs, false, t) := b
        have c' : Rd.rchgPre l = (xs, true, t) := by unfold Rd.rchgPre; rw [← a']; exact c
        rw [b'] at w5 w6
        dsimp only at w5 w6
        rcases prfs_two (n := n) (room := (l.length : Nat)) (by omega) (t.countN 64) (t.count 64) [] (by omega) with ⟨d, e⟩ | ⟨ys, u, d, e⟩
        · have d' : PB (Rd.chgPro l n) := by unfold Rd.chgPro; rw [b']; exact d
          have e' : DB n (Rd.rchgPro l) := by unfold Rd.rchgPro; rw [c']; exact e
          refine both ?_ ?_
          · rcases d' with d' | d'
            · exact .inl (Rd.end_bad d')
            · exact .inr (.inr (.inl d'))
          · rcases e' with e' | e' | e'
            · exact .inl (Rd.end_bad e')
            · exact .inr (.inr (.inl e'))
            · exact .inr (.inr (.inr (right_bad (.inr e'))))
        · have d' : Rd.chgPro l n = (ys, false, u) := by unfold Rd.chgPro; rw [b']; exact d
          have e' : Rd.rchgPro l = (ys, true, u) := by unfold Rd.rchgPro; rw [c']; exact e
          have f : Rd.chg l n = Rd.rchg l := by
            unfold Rd.chg Rd.rchg
            rw [a', b', c', d', e']
          rw [f, b', c', d', e']
          have g : (Rd.rchg l).check n ≠ 0 ↔ yes ((Rd.rchg l).Right n) = false := by
            unfold Chg.check
            rw [if_neg hn]
            cases yes ((Rd.rchg l).Right n) <;> simp
          by_cases h1 : u.end_ ≠ 0
          · rw [if_pos (.inl h1), if_pos (.inl h1)]
          · by_cases h2 : (Rd.rchg l).check n ≠ 0
            · rw [if_pos (.inr (.inr (.inr h2))), if_pos (.inr (.inr (.inr (g.1 h2))))]
            · rw [if_neg (by
                intro h
                rcases h with h | h | h | h
                · exact h1 h
                · cases h
                · cases h
                · exact h2 h), if_neg (by
                intro h
                rcases h with h | h | h | h
                · exact h1 h
                · cases h
                · cases h
                · exact h2 (g.2 h))]
end Go.Proofs.Ytpgffckfbgfgcaa.A
/-
  From a walk that returns true and changes no old memory to the given statement, for any law without package variables.
-/
namespace Go.Proofs.Ytpgffckfbgfgcaa
open Go.ChangeShapes Go.WideShapes Go.ChangeAt Go.RowKit

theorem law_own : ownKnob Try.prog.godebug = none := by kernel_rfl
theorem law_laidOut : laidOutB Try.prog = true := by kernel_rfl

theorem trodAll_below {H : Type} {enc : TypeId × Value → H} {W W' : World} (hb : Below W.heap.size W W') :
    ∀ (ts : List TypeId) (vs : List Value) (ds : List (DataW H)) (p : List MemPlace), (∀ t ∈ ts, Try.prog.readableRec t = true ∧ t < Try.prog.types.size) →
      DataW.TrodAll enc Try.prog W 0 (fun _ => true) true ts vs ds p → ∃ q, DataW.TrodAll enc Try.prog W' 0 (fun b => decide (b < W.heap.size)) true ts vs ds q
  | [], [], [], p, _, h => ⟨p, h⟩
  | t :: ts, v :: vs, d :: ds, p, hr, h => by
    obtain ⟨p0, q0, h0, h1, rfl⟩ := h
    obtain ⟨q, hq⟩ := trodAll_below hb ts vs ds q0 (fun t ht => hr t (List.mem_cons_of_mem _ ht)) h1
    have lt0 : ∀ x ∈ p0, x.block < W.heap.size := by obtain ⟨m, hm⟩ := h0; exact DataW.trod_lt m _ _ _ hm
    exact ⟨p0 ++ q, p0, q, Below.trod law_laidOut (hr t List.mem_cons_self).1 (hr t List.mem_cons_self).2 h0 hb lt0, hq, rfl⟩
  | [], _ :: _, _, _, _, h => h.elim
  | [], [], _ :: _, _, _, h => h.elim
  | _ :: _, [], _, _, _, h => h.elim
  | _ :: _, _ :: _, [], _, _, h => h.elim

set_option maxRecDepth 100000 in
theorem law_lift {H : Type} {enc : TypeId × Value → H} {os : Os} (started : os.Started) {f : FuncId} {fn : Func} {s : ChangeSpec}
    (noInit : Try.prog.inits.idxOf? f = none) (hfn : Try.prog.funcs[f]? = some fn) (hvars : s.vars = []) (hres : fn.resultTypes = #[4])
    (hparB : (fn.params.toList.all fun t => Try.prog.readableRec t && decide (t < Try.prog.types.size)) = true)
    (hspec : ∀ ds : List (DataW H), ds.length = fn.params.size → s.fn H (ds ++ []) = { results := [.lit (.bool true)], args := ds })
    (wit : ∃ (w : World) (tape : Tape) (i : Input), w.os = os ∧ (w.forCall tape i).Shaped Try.prog ∧ i.vars = [] ∧ Input.okWide Try.prog (w.forCall tape i) .any w.heap.size f i ∧
      s.pre6 enc Try.prog fn [] false (w.forCall tape i).memory i.args ∧ Assume.holds {} Try.prog (lone (Frame.enter Try.prog f i.args .normal) [] (w.forCall tape i)))
    (walk : ∀ (W : World) (base : Nat) (args : Array Value) (ds : List (DataW H)) (p : List MemPlace),
      (∀ (j : Nat) t v, fn.params[j]? = some t → args[j]? = some v → Value.okWide Try.prog W .any base t v) →
      DataW.TrodAll enc Try.prog W 0 (fun _ => true) true fn.params.toList args.toList ds p →
      (DataW.weightsEach Try.prog fn.params.toList ds).all (· ≤ reachBytes) = true →
      Calls Try.prog f args W fun e W' => e = .returned (.bool true) ∧ Ext [] W W') :
    ReturnsInHanded {} Try.checked os f .any (s.pre6 enc Try.prog fn [] false) (s.post enc Try.prog fn false true false false) := by
  have hpar : ∀ t ∈ fn.params.toList, Try.prog.readableRec t = true ∧ t < Try.prog.types.size := by
    simpa only [List.all_eq_true, Bool.and_eq_true, decide_eq_true_eq] using hparB
  refine returnsInHanded_of_change_sized (C := Try.checked) law_own started noInit hfn wit ?_
  intro W base args ds gs before hval0 hW hcnd hsz _
  have hval : ∀ (j : Nat) t v, fn.params[j]? = some t → args[j]? = some v → Value.okWide Try.prog W .any base t v := hval0
  have hW' := hW
  obtain ⟨p, q, hA0, hV, rfl, hfz, hnd⟩ := hW
  have hA : DataW.TrodAll enc Try.prog W 0 (fun _ => true) true fn.params.toList args.toList ds p := hA0
  rw [hvars] at hV
  obtain ⟨rfl, rfl⟩ := trodVars_none hV
  have hsz' : (DataW.weightsEach Try.prog fn.params.toList ds).all (· ≤ reachBytes) = true := by
    have h2 := hsz
    simp only [ChangeSpec.plain, DataSpec.varTypes, hvars, List.filterMap_nil, List.append_nil] at h2
    exact h2
  refine (walk W base args ds p hval hA hsz').mono fun e W' ⟨he, bel⟩ => ?_
  subst he
  have hlen : ds.length = fn.params.size := by
    have : ∀ (ts : List TypeId) (vs : List Value) (ds : List (DataW H)) (p : List MemPlace), DataW.TrodAll enc Try.prog W 0 (fun _ => true) true ts vs ds p → ds.length = ts.length := by
      intro ts
      induction ts with
      | nil => intro vs ds p h; cases vs <;> cases ds <;> first | rfl | exact h.elim
      | cons t ts ih =>
        intro vs ds p h
        cases vs with
        | nil => exact h.elim
        | cons v vs =>
          cases ds with
          | nil => exact h.elim
          | cons d ds => obtain ⟨p0, q0, _, h1, _⟩ := h; simp [ih vs ds q0 h1]
    simpa using this _ _ _ _ hA
  obtain ⟨pa, hpa⟩ := trodAll_below (enc := enc) bel.below fn.params.toList args.toList ds p hpar hA
  refine ⟨_, rfl, ds, [], p ++ [], [], pa, [], hW', ?_, ?_, ?_, bel.below.frame _, fun h => by cases h⟩
  · rw [hspec ds hlen, hres]
    exact trodAll_mk1 (shut_bool Try.underlying4 _)
  · rw [hspec ds hlen]; exact hpa
  · rw [hspec ds hlen, hvars]; rfl

theorem spot_none {w : World} {b o : Nat} {s : Option Nat} {v : Value} (h : w.cell? ⟨b, o, s⟩ = some v) : s = none := by
  have := World.cell?_spot h
  simpa using this

set_option maxRecDepth 100000 in
/-- A slice of integers that came in. -/
theorem open_row_ints {H : Type} {enc : TypeId × Value → H} {W : World} {base : Nat} {t e : TypeId} {k : IntKind} {v : Value} {d : DataW H} {p : List MemPlace}
    (ht : Try.prog.underlying t = some (.slice e)) (he : Try.prog.underlying e = some (.int k)) (hE : Try.prog.cellsOf e = 1)
    (hv : Value.okWide Try.prog W .any base t v) (h : DataW.Trod enc Try.prog W 0 (fun _ => true) true t v d p) :
    ∃ (A : Option Addr) (n c : Nat) (zs : List Int), v = .slice A n c ∧ zs.length = n ∧ n ≤ c ∧ c ≤ maxLen ∧ Row W A (zs.map (Value.int k)) ∧ ∀ z ∈ zs, (Lit.int k z).wf = true := by
  obtain ⟨A, n, c, rfl⟩ := okWide_slice ht hv
  obtain ⟨fuel, hf⟩ := h
  rcases open_ints ht he hE hf with ⟨hcs, _⟩ | ⟨x, l, c', zs, hcs, _, hl, hm, hz, _, hcell, hwz⟩
  · simp [Value.cells] at hcs
    obtain ⟨rfl, rfl, rfl⟩ := hcs
    exact ⟨none, 0, 0, [], rfl, rfl, Nat.le_refl _, Nat.zero_le _, Row.nil_ _ _, by simp⟩
  · simp [Value.cells] at hcs
    obtain ⟨rfl, rfl, rfl⟩ := hcs
    have hz' : zs.length = c := by simpa using hz
    refine ⟨some x, n, c, zs.take n, rfl, by simp; omega, hl, hm, ?_, fun z hz0 => hwz z (List.mem_of_mem_take hz0)⟩
    intro hn
    have hn0 : 0 < zs.length := by
      rcases zs with _ | ⟨z, zs⟩
      · simp at hn
      · simp
    obtain ⟨b, off, spot⟩ := x
    have h0 := hcell 0 hn0
    have hs : spot = none := by
      have : (⟨b, off, spot⟩ : Addr).add 0 = ⟨b, off, spot⟩ := by simp [Addr.add]
      rw [this] at h0
      exact spot_none h0
    subst hs
    refine ⟨b, off, rfl, fun j u hu => ?_⟩
    rw [List.getElem?_map, List.getElem?_take] at hu
    split at hu
    · rename_i hj
      have hjl : j < zs.length := by
        rcases Nat.lt_or_ge j zs.length with h1 | h1
        · exact h1
        · rw [List.getElem?_eq_none h1] at hu; simp at hu
      have hcj := hcell j hjl
      have e1 : (⟨b, off, none⟩ : Addr).add j = ⟨b, off + j, none⟩ := by
        unfold Addr.add
        split
        · rename_i h0; subst h0; rfl
        · rfl
      rw [e1] at hcj
      rw [hcj, ← hu]
      simp [hjl]
    · simp at hu
end Go.Proofs.Ytpgffckfbgfgcaa
/-
  Arguments opened down to their cells: a struct, however deep, is its cells, each read by its own type.
-/
set_option maxRecDepth 100000
namespace Go.Proofs.Ytpgffckfbgfgcaa
open Go.RowKit Go.ChangeShapes Go.WideShapes Go.ChangeAt

/-- The types of a type's cells, in order. -/
def leaves (P : Program) : Nat → TypeId → Option (List TypeId)
  | 0, _ => none
  | d + 1, t =>
    match P.underlying t with
    | some (.struct fs) => fs.toList.foldlM (fun acc f => (leaves P d f.type).bind fun l => if f.offset = acc.length ∧ l.length = P.cellsOf f.type then some (acc ++ l) else none) []
    | some (.array n e) => (leaves P d e).bind fun l => if l.length = P.cellsOf e then some (List.replicate n l).flatten else none
    | some _ => some [t]
    | none => none

section
variable {H : Type} {enc : TypeId × Value → H} {P : Program} {w : World} {base : Nat} {spare : Nat → Bool} {held : Bool}

/-- Cell j reads by its own type. -/
def LeafAt (enc : TypeId × Value → H) (P : Program) (w : World) (base : Nat) (spare : Nat → Bool) (held : Bool) (u : TypeId) (v : Value) : Prop := ∃ n y, DataW.trod enc P w base spare held n u [v] = some y

theorem leaves_fields {d : Nat} {cs : List Value} {n : Nat}
    (ih : ∀ (t : TypeId) (ts : List TypeId) (fuel : Nat) (cs : List Value) (x : DataW H × List MemPlace), leaves P d t = some ts → ts.length = cs.length → DataW.trod enc P w base spare held fuel t cs = some x →
      ∀ (j : Nat) (v : Value) (u : TypeId), cs[j]? = some v → ts[j]? = some u → LeafAt enc P w base spare held u v) :
    ∀ (fs : List Field) (acc ts : List TypeId), (∀ f ∈ fs, ∃ y, DataW.trod enc P w base spare held n f.type ((cs.drop f.offset).take (P.cellsOf f.type)) = some y) →
      fs.foldlM (fun acc f => (leaves P d f.type).bind fun l => if f.offset = acc.length ∧ l.length = P.cellsOf f.type then some (acc ++ l) else none) acc = some ts →
      ts.length ≤ cs.length →
      (∀ (j : Nat) (v : Value) (u : TypeId), cs[j]? = some v → acc[j]? = some u → LeafAt enc P w base spare held u v) →
      (∀ (j : Nat) (v : Value) (u : TypeId), cs[j]? = some v → ts[j]? = some u → LeafAt enc P w base spare held u v) := by
  intro fs
  induction fs with
  | nil =>
    intro acc ts _ h _ ha
    simp at h
    subst h
    exact ha
  | cons f fs hfs =>
    intro acc ts hall h hlen ha
    simp only [List.foldlM_cons, Option.bind_eq_bind, Option.bind_eq_some_iff] at h
    obtain ⟨acc', ⟨l, hl, hif⟩, hrest⟩ := h
    split at hif
    · rename_i hc
      obtain ⟨ho, hlc⟩ := hc
      simp only [Option.some.injEq] at hif
      subst hif
      have hmono : ∀ (fs : List Field) (a b : List TypeId), fs.foldlM (fun acc f => (leaves P d f.type).bind fun l => if f.offset = acc.length ∧ l.length = P.cellsOf f.type then some (acc ++ l) else none) a = some b → a.length ≤ b.length := by
        intro fs
        induction fs with
        | nil => intro a b h; simp at h; subst h; exact Nat.le_refl _
        | cons f fs ih2 =>
          intro a b h
          simp only [List.foldlM_cons, Option.bind_eq_bind, Option.bind_eq_some_iff] at h
          obtain ⟨a', ⟨l, _, hif⟩, hr⟩ := h
          split at hif
          · simp only [Option.some.injEq] at hif
            subst hif
            have := ih2 _ _ hr
            simp at this
            omega
          · cases hif
      have hacc := hmono _ _ _ hrest
      refine hfs (acc ++ l) ts (fun g hg => hall g (List.mem_cons_of_mem _ hg)) hrest hlen ?_
      intro j v u hv hu
      rw [List.getElem?_append] at hu
      split at hu
      · exact ha j v u hv hu
      · rename_i hj
        obtain ⟨y, hy⟩ := hall f List.mem_cons_self
        rw [List.length_append] at hacc
        refine ih f.type l n _ y hl ?_ hy (j - acc.length) v u ?_ hu
        · rw [List.length_take, List.length_drop]; omega
        · have hjl : j - acc.length < l.length := (List.getElem?_eq_some_iff.1 hu).1
          rw [List.getElem?_take, if_pos (by omega), List.getElem?_drop, ho, show acc.length + (j - acc.length) = j by omega]
          exact hv
    · cases hif

theorem leaves_trod : ∀ (d : Nat) (t : TypeId) (ts : List TypeId) (fuel : Nat) (cs : List Value) (x : DataW H × List MemPlace), leaves P d t = some ts → ts.length = cs.length → DataW.trod enc P w base spare held fuel t cs = some x →
    ∀ (j : Nat) (v : Value) (u : TypeId), cs[j]? = some v → ts[j]? = some u → LeafAt enc P w base spare held u v := by
  intro d
  induction d with
  | zero => intro t ts fuel cs x h; simp [leaves] at h
  | succ d ih =>
    intro t ts fuel cs x h hlen ht
    unfold leaves at h
    split at h
    · rename_i fs hu
      obtain ⟨xs, n, _, _, hcl, hxl, hf⟩ := DataW.trod_struct hu ht
      refine leaves_fields (n := n) ih fs.toList [] ts ?_ h (by omega) (by simp)
      intro f hfm
      obtain ⟨i, hi, he⟩ := List.getElem_of_mem hfm
      have h1 := hf i f (by rw [← Array.getElem?_toList, List.getElem?_eq_getElem hi, he])
      have : i < xs.length := by rw [hxl]; simpa using hi
      exact ⟨xs[i], by rw [h1, List.getElem?_eq_getElem this]⟩
    · rename_i m e hu
      obtain ⟨xs, n, _, _, hcl, hxl, hf⟩ := DataW.trod_array hu ht
      simp only [Option.bind_eq_some_iff] at h
      obtain ⟨l, hl, hif⟩ := h
      split at hif
      · rename_i hc
        simp only [Option.some.injEq] at hif
        subst hif
        intro j v u hv hu'
        have hjl : j < (List.replicate m l).flatten.length := (List.getElem?_eq_some_iff.1 hu').1
        have hfl : ∀ k, (List.replicate k l).flatten.length = k * l.length := by
          intro k; simp
        rw [hfl] at hjl
        have hl0 : 0 < l.length := by
          rcases Nat.eq_zero_or_pos l.length with h0 | h0
          · rw [h0] at hjl; simp at hjl
          · exact h0
        have hi : j / l.length < m := by rw [Nat.div_lt_iff_lt_mul hl0]; exact hjl
        have hmod := Nat.mod_lt j hl0
        have hjd := Nat.div_add_mod j l.length
        have hget : ∀ (k j : Nat), j < k * l.length → (List.replicate k l).flatten[j]? = l[j % l.length]? := by
          intro k
          induction k with
          | zero => intro j hj; simp at hj
          | succ k ihk =>
            intro j hj
            rw [List.replicate_succ, List.flatten_cons, List.getElem?_append]
            split
            · rename_i h1; rw [Nat.mod_eq_of_lt h1]
            · rename_i h1
              rw [ihk (j - l.length) (by rw [Nat.succ_mul] at hj; omega)]
              rw [← Nat.mod_eq_sub_mod (show l.length ≤ j by omega)]
        rw [hget m j hjl] at hu'
        have h1 := hf (j / l.length) hi
        have hxi : j / l.length < xs.length := by omega
        rw [List.getElem?_eq_getElem hxi] at h1
        have hsz : (j / l.length) * P.cellsOf e + P.cellsOf e ≤ cs.length := by
          rw [← hlen, hfl, ← hc]
          calc (j / l.length) * l.length + l.length = (j / l.length + 1) * l.length := by rw [Nat.succ_mul]
            _ ≤ m * l.length := Nat.mul_le_mul_right _ hi
        refine ih e l n _ _ hl ?_ h1 (j % l.length) v u ?_ hu'
        · rw [List.length_take, List.length_drop]; omega
        · rw [List.getElem?_take, if_pos (by omega), List.getElem?_drop, ← hc, ← hv]
          congr 1
          rw [Nat.mul_comm]; exact hjd
      · cases hif
    · rename_i hu1 hu2 hs
      simp only [Option.some.injEq] at h
      subst h
      intro j v u hv hu'
      have hc1 : cs.length = 1 := by simpa using hlen.symm
      match cs, hc1 with
      | [c], _ =>
        match j with
        | 0 =>
          simp at hv hu'
          subst hv; subst hu'
          exact ⟨fuel, x, ht⟩
        | j + 1 => simp at hv
    · cases h
theorem LeafAt.int {u : TypeId} {v : Value} {k : IntKind} (h : LeafAt enc P w base spare held u v) (hu : P.underlying u = some (.int k)) : ∃ n, v = .int k n ∧ (Lit.int k n).wf = true := by
  obtain ⟨n, y, hy⟩ := h
  obtain ⟨m, h1, _, h2⟩ := DataW.trod_int hu hy
  simp at h1
  exact ⟨m, h1, h2⟩
theorem LeafAt.string {u : TypeId} {v : Value} (h : LeafAt enc P w base spare held u v) (hu : P.underlying u = some .string) : ∃ s, v = .string s ∧ s.size ≤ maxLen := by
  obtain ⟨n, y, hy⟩ := h
  obtain ⟨m, h1, _, h2⟩ := DataW.trod_string hu hy
  simp at h1
  exact ⟨m, h1, h2⟩
theorem LeafAt.bool {u : TypeId} {v : Value} (h : LeafAt enc P w base spare held u v) (hu : P.underlying u = some .bool) : ∃ b, v = .bool b := by
  obtain ⟨n, y, hy⟩ := h
  obtain ⟨m, h1, _⟩ := DataW.trod_bool hu hy
  simp at h1
  exact ⟨m, h1⟩

theorem flatten_get {α : Type} {sz : Nat} (h0 : 0 < sz) : ∀ (xs : List (List α)), (∀ x ∈ xs, x.length = sz) → ∀ j, xs.flatten[j]? = (xs[j / sz]?).bind fun x => x[j % sz]? := by
  intro xs
  induction xs with
  | nil => intro _ j; simp
  | cons x xs ih =>
    intro hx j
    have hxl := hx x List.mem_cons_self
    rw [List.flatten_cons, List.getElem?_append]
    split
    · rename_i h1
      rw [Nat.div_eq_of_lt (by omega), Nat.mod_eq_of_lt (by omega)]
      simp
    · rename_i h1
      rw [ih (fun y hy => hx y (List.mem_cons_of_mem _ hy)), hxl]
      have h2 : j / sz = (j - sz) / sz + 1 := by
        rw [Nat.div_eq_sub_div h0 (by omega)]
      rw [h2, List.getElem?_cons_succ, ← Nat.mod_eq_sub_mod (show sz ≤ j by omega)]
theorem flatten_length {α : Type} {sz : Nat} : ∀ (xs : List (List α)), (∀ x ∈ xs, x.length = sz) → xs.flatten.length = xs.length * sz := by
  intro xs
  induction xs with
  | nil => intro _; simp
  | cons x xs ih =>
    intro hx
    rw [List.flatten_cons, List.length_append, ih (fun y hy => hx y (List.mem_cons_of_mem _ hy)), hx x List.mem_cons_self, List.length_cons, Nat.succ_mul, Nat.add_comm]
theorem add_eq (b off : Nat) (j : Nat) : (⟨b, off, none⟩ : Addr).add j = ⟨b, off + j, none⟩ := by
  unfold Addr.add
  split
  · rename_i h0; subst h0; rfl
  · rfl

/-- A slice that came in: its row, element by element: each element's cells read by the element's type. -/
theorem open_row {t e : TypeId} {fuel : Nat} {A : Option Addr} {n c : Nat} {x : DataW H × List MemPlace} (ht : P.underlying t = some (.slice e)) (h : DataW.trod enc P w base spare held fuel t [.slice A n c] = some x) :
    n ≤ c ∧ c ≤ maxLen ∧ ∃ xs : List (List Value), xs.length = n ∧ (∀ cs ∈ xs, cs.length = P.cellsOf e ∧ ∃ m y, DataW.trod enc P w base spare held m e cs = some y) ∧ (xs.flatten ≠ [] → ∃ b off : Nat, A = some ⟨b, off, none⟩ ∧ ∀ j u, xs.flatten[j]? = some u → w.cell? ⟨b, off + j, none⟩ = some u) := by
  rcases Deep.open_slice ht h with ⟨hcs, _⟩ | ⟨a, len, cap, m, n', D, Pl, hcs, _, hl, hm, hmm, _, hi⟩
  · simp at hcs
    obtain ⟨rfl, rfl, rfl⟩ := hcs
    exact ⟨Nat.le_refl _, Nat.zero_le _, [], rfl, by simp, by simp⟩
  · simp at hcs
    obtain ⟨rfl, rfl, rfl⟩ := hcs
    have hnm : n ≤ m := by rw [hmm]; split <;> omega
    refine ⟨hl, hm, (List.range n).map fun i => ((w.cells? base (a.add (i * P.cellsOf e)) (P.cellsOf e)).getD []), by simp, ?_, ?_⟩
    · intro cs hcs
      simp only [List.mem_map, List.mem_range] at hcs
      obtain ⟨i, hin, rfl⟩ := hcs
      obtain ⟨cs', h1, h2⟩ := hi i (by omega)
      rw [h1]
      exact ⟨(World.cells?_some h1).2.1, n', _, h2⟩
    · intro hne
      have hall : ∀ y ∈ (List.range n).map (fun i => ((w.cells? base (a.add (i * P.cellsOf e)) (P.cellsOf e)).getD [])), y.length = P.cellsOf e := by
        intro y hy
        simp only [List.mem_map, List.mem_range] at hy
        obtain ⟨i, hin, rfl⟩ := hy
        obtain ⟨cs', h1, _⟩ := hi i (by omega)
        rw [h1]
        exact (World.cells?_some h1).2.1
      have hlen0 := flatten_length _ hall
      have hpos : 0 < n * P.cellsOf e := by
        rcases Nat.eq_zero_or_pos (n * P.cellsOf e) with h0 | h0
        · exfalso
          apply hne
          apply List.eq_nil_of_length_eq_zero
          rw [hlen0]
          simpa using h0
        · exact h0
      have hsz : 0 < P.cellsOf e := Nat.pos_of_mul_pos_left hpos
      have hn0 : 0 < n := Nat.pos_of_mul_pos_right hpos
      obtain ⟨b, off, spot⟩ := a
      have hs : spot = none := by
        obtain ⟨cs', h1, _⟩ := hi 0 (by omega)
        obtain ⟨_, hl1, hc1⟩ := World.cells?_some h1
        have h2 := hc1 0 hsz
        have h3 : ((⟨b, off, spot⟩ : Addr).add (0 * P.cellsOf e)).add 0 = ⟨b, off, spot⟩ := by simp [Addr.add]
        rw [h3, List.getElem?_eq_getElem (by omega)] at h2
        exact spot_none h2
      subst hs
      refine ⟨b, off, rfl, fun j u hu => ?_⟩
      rw [flatten_get hsz _ hall] at hu
      simp only [Option.bind_eq_some_iff, List.getElem?_map, Option.map_eq_some_iff] at hu
      obtain ⟨y, ⟨i, hir, rfl⟩, hy⟩ := hu
      have hrl := List.getElem?_eq_some_iff.1 hir
      obtain ⟨hir1, hir2⟩ := hrl
      simp at hir1 hir2
      subst hir2
      obtain ⟨cs', h1, _⟩ := hi (j / P.cellsOf e) (by omega)
      rw [h1] at hy
      simp only [Option.getD_some] at hy
      obtain ⟨_, hl1, hc1⟩ := World.cells?_some h1
      have h2 := hc1 (j % P.cellsOf e) (Nat.mod_lt _ hsz)
      rw [add_eq, add_eq, hy] at h2
      have hjd := Nat.div_add_mod j (P.cellsOf e)
      rw [show off + j = off + j / P.cellsOf e * P.cellsOf e + j % P.cellsOf e by rw [Nat.mul_comm (j / P.cellsOf e)]; omega]
      exact h2
/-- The same, the elements decoded. -/
theorem open_rowOf {α : Type} {cells : α → List Value} {Ok : α → Prop} {t e : TypeId} {fuel : Nat} {A : Option Addr} {n c : Nat} {x : DataW H × List MemPlace} (ht : P.underlying t = some (.slice e)) (h : DataW.trod enc P w base spare held fuel t [.slice A n c] = some x)
    (hdec : ∀ cs, cs.length = P.cellsOf e → (∃ m y, DataW.trod enc P w base spare held m e cs = some y) → ∃ a, cs = cells a ∧ Ok a) :
    n ≤ c ∧ c ≤ maxLen ∧ ∃ xs : List α, xs.length = n ∧ Row w A (xs.flatMap cells) ∧ ∀ a ∈ xs, Ok a := by
  obtain ⟨h1, h2, ys, hl, hall, hrow⟩ := open_row ht h
  have hd : ∀ (ys : List (List Value)), (∀ cs ∈ ys, cs.length = P.cellsOf e ∧ ∃ m y, DataW.trod enc P w base spare held m e cs = some y) → ∃ xs : List α, xs.length = ys.length ∧ ys = xs.map cells ∧ ∀ a ∈ xs, Ok a := by
    intro ys
    induction ys with
    | nil => intro _; exact ⟨[], rfl, rfl, by simp⟩
    | cons cs ys ih =>
      intro hy
      obtain ⟨a, ha, hok⟩ := hdec cs (hy cs List.mem_cons_self).1 (hy cs List.mem_cons_self).2
      obtain ⟨xs, hxl, hxe, hxo⟩ := ih (fun c hc => hy c (List.mem_cons_of_mem _ hc))
      exact ⟨a :: xs, by simp [hxl], by simp [ha, hxe], by simpa using ⟨hok, hxo⟩⟩
  obtain ⟨xs, hxl, hxe, hxo⟩ := hd ys hall
  refine ⟨h1, h2, xs, by omega, ?_, hxo⟩
  intro hne
  have hf : ys.flatten = xs.flatMap cells := by rw [hxe, List.flatMap]
  rw [← hf] at hne
  obtain ⟨b, off, hA, hc⟩ := hrow hne
  exact ⟨b, off, hA, fun j u hu => hc j u (by rw [hf]; exact hu)⟩
end
end Go.Proofs.Ytpgffckfbgfgcaa
/-
  Rows of bytes that come in as arguments.
-/
set_option maxRecDepth 100000
namespace Go.Proofs.Ytpgffckfbgfgcaa
open Go.RowKit Go.ChangeShapes Go.WideShapes Go.ChangeAt

section
variable {H : Type} {enc : TypeId × Value → H} {w : World} {base : Nat} {spare : Nat → Bool} {held : Bool}
theorem open_byte (cs : List Value) (hl : cs.length = Try.prog.cellsOf 5) (h : ∃ m y, DataW.trod enc Try.prog w base spare held m 5 cs = some y) : ∃ c : UInt8, cs = [bc c] ∧ True := by
  obtain ⟨fuel, x, h⟩ := h
  rw [show Try.prog.cellsOf 5 = 1 by kernel_rfl] at hl
  have hlv : leaves Try.prog 4 5 = some [5] := by kernel_rfl
  have hh := leaves_trod 4 _ _ _ _ _ hlv (by simpa using hl.symm) h
  match cs, hl with
  | [v0], _ =>
    obtain ⟨n, rfl, b⟩ := (hh 0 v0 _ rfl rfl).int Try.underlying5
    simp only [Lit.wf, Bool.and_eq_true, decide_eq_true_eq] at b
    have b0 : (0 : Int) ≤ n := b.1
    have b1 : n ≤ (255 : Int) := b.2
    refine ⟨UInt8.ofNat n.toNat, ?_, trivial⟩
    have : ((UInt8.ofNat n.toNat).toNat : Int) = n := by simp; omega
    simp [bc]
    omega
theorem open_bytes {fuel : Nat} {A : Option Addr} {n c : Nat} {x : DataW H × List MemPlace} (h : DataW.trod enc Try.prog w base spare held fuel 34 [.slice A n c] = some x) : ∃ l : List UInt8, l.length = n ∧ n ≤ c ∧ c ≤ maxLen ∧ Row w A (l.map bc) := by
  obtain ⟨h1, h2, xs, h3, h4, _⟩ := open_rowOf (cells := fun c : UInt8 => [bc c]) (Ok := fun _ => True) Try.underlying34 h (fun cs hl hh => open_byte cs hl hh)
  refine ⟨xs, h3, h1, h2, ?_⟩
  have : xs.flatMap (fun c : UInt8 => [bc c]) = xs.map bc := by
    clear h3 h4
    induction xs with
    | nil => rfl
    | cons a xs ih => simp [ih]
  rw [← this]
  exact h4
theorem open_none {t e : TypeId} {fuel : Nat} {A : Option Addr} {n c : Nat} {x : DataW H × List MemPlace} (ht : Try.prog.underlying t = some (.slice e)) (h : DataW.trod enc Try.prog w base spare held fuel t [.slice A n c] = some x) : A = none → c = 0 := by
  intro hA
  rcases Deep.open_slice ht h with ⟨hcs, _⟩ | ⟨a, len, cap, m, n', D, Pl, hcs, _⟩
  · simp at hcs
    exact hcs.2.2
  · simp at hcs
    rw [hA] at hcs
    simp at hcs
theorem open_bytesV {fuel : Nat} {A : Option Addr} {n c : Nat} {x : DataW H × List MemPlace} (h : DataW.trod enc Try.prog w base spare held fuel 34 [.slice A n c] = some x) : ∃ l : List UInt8, BytesV w (.slice A n c) l := by
  obtain ⟨l, rfl, h1, h2, h3⟩ := open_bytes h
  exact ⟨l, A, c, rfl, h1, h2, open_none Try.underlying34 h, h3⟩
theorem open_oneBytes (cs : List Value) (h : ∃ m y, DataW.trod enc Try.prog w base spare held m 34 cs = some y) : ∃ a : Value × List UInt8, cs = [a.1] ∧ BytesV w a.1 a.2 := by
  obtain ⟨fuel, x, h⟩ := h
  rcases Deep.open_slice Try.underlying34 h with ⟨hcs, _⟩ | ⟨a, len, cap, m, n', D, Pl, hcs, _⟩
  · subst hcs
    obtain ⟨l, hl⟩ := open_bytesV h
    exact ⟨(_, l), rfl, hl⟩
  · subst hcs
    obtain ⟨l, hl⟩ := open_bytesV h
    exact ⟨(_, l), rfl, hl⟩
end
end Go.Proofs.Ytpgffckfbgfgcaa
/-
  Arguments that are rows of structs, or structs with rows, as trees: opened down to their cells.
-/
set_option maxRecDepth 100000
set_option linter.unusedSimpArgs false
set_option linter.unusedVariables false
namespace Go.Proofs.Ytpgffckfbgfgcaa.A
open Go.RowKit Go.ChangeShapes Go.WideShapes Go.ChangeAt

section
variable {H : Type} {enc : TypeId × Value → H} {w : World} {base : Nat} {spare : Nat → Bool} {held : Bool}
theorem wfIn {a : Int} (h : (Lit.int .i64 a).wf = true) : InR .i64 a := by
  have := bounds_i64 h
  simp only [InR, lo, hi]
  omega
theorem open_rows {α : Type} {abs : α → List Abs} {Ok : α → Prop} {s : Nat} : ∀ {ys : List (List Value)}, (∀ cs ∈ ys, cs.length = s ∧ ∃ a, reps [] w (abs a) cs ∧ Ok a) → ∃ xs : List α, repss [] w s (xs.map abs) ys.flatten ∧ xs.length = ys.length ∧ ∀ a ∈ xs, Ok a
  | [], _ => ⟨[], rfl, rfl, by simp⟩
  | cs :: ys, h => by
    obtain ⟨h1, a, h2, h3⟩ := h cs List.mem_cons_self
    obtain ⟨xs, h4, h5, h6⟩ := open_rows (ys := ys) fun c hc => h c (List.mem_cons_of_mem _ hc)
    exact ⟨a :: xs, ⟨cs, _, rfl, h1, h2, h4⟩, by simp [h5], by simpa using ⟨h3, h6⟩⟩
/-- A slice that came in, as a tree. -/
theorem open_slA {α : Type} {abs : α → List Abs} {Ok : α → Prop} {t e : TypeId} {s : Nat} {v : Value} (ht : Try.prog.underlying t = some (.slice e)) (hs : Try.prog.cellsOf e = s) (h : LeafAt enc Try.prog w base spare held t v)
    (hdec : ∀ cs, cs.length = Try.prog.cellsOf e → (∃ m y, DataW.trod enc Try.prog w base spare held m e cs = some y) → ∃ a, reps [] w (abs a) cs ∧ Ok a) :
    ∃ xs : List α, rep [] w (.sl s (xs.map abs)) v ∧ ∀ a ∈ xs, Ok a := by
  obtain ⟨fuel, x, h⟩ := h
  obtain ⟨A, n, c, rfl⟩ : ∃ A n c, v = .slice A n c := by
    rcases Deep.open_slice ht h with ⟨hcs, _⟩ | ⟨a, len, cap, m, n', D, Pl, hcs, _⟩
    · simp at hcs; exact ⟨_, _, _, hcs⟩
    · simp at hcs; exact ⟨_, _, _, hcs⟩
  obtain ⟨h1, h2, ys, h3, h4, h5⟩ := open_row ht h
  obtain ⟨xs, h6, h7, h8⟩ := open_rows (abs := abs) (Ok := Ok) (s := s) (w := w) (ys := ys) fun cs hc => ⟨by rw [← hs]; exact (h4 cs hc).1, hdec cs (h4 cs hc).1 (h4 cs hc).2⟩
  refine ⟨xs, ⟨ys.flatten, ⟨⟨A, c, ?_, ?_, h2, open_none ht h⟩, fun hn => ?_⟩, h6⟩, h8⟩
  · rw [List.length_map, h7, h3]
  · rw [List.length_map, h7, h3]; exact h1
  · obtain ⟨b, off, rfl, hc⟩ := h5 hn
    exact ⟨b, off, _, _, rfl, by simp, hc⟩
theorem open_u8 : ∀ {cs : List Value}, (∀ v ∈ cs, LeafAt enc Try.prog w base spare held 5 v) → ∃ d : List UInt8, cs = d.map bc
  | [], _ => ⟨[], rfl⟩
  | v :: cs, h => by
    obtain ⟨d, rfl⟩ := open_u8 (cs := cs) fun x hx => h x (List.mem_cons_of_mem _ hx)
    obtain ⟨m, y, hy⟩ := h v List.mem_cons_self
    obtain ⟨c, hc, _⟩ := open_byte [v] (by rw [show Try.prog.cellsOf 5 = 1 by kernel_rfl]; rfl) ⟨m, y, hy⟩
    simp at hc
    exact ⟨c :: d, by rw [hc]; rfl⟩
theorem reps_dig {K : List Nat} (d : List UInt8) : reps K w (digA d) (d.map bc) := by
  have : digA d = (d.map bc).map .v := by simp [digA]
  rw [this]
  exact reps_plain.2 rfl
theorem ent_leavesA : leaves Try.prog 4 150 = some [3, 2, 3, 9, 2, 2, 9, 148] := by kernel_rfl
theorem open_entA (cs : List Value) (hl : cs.length = Try.prog.cellsOf 150) (h : ∃ m y, DataW.trod enc Try.prog w base spare held m 150 cs = some y) : ∃ e : Ent, reps [] w (e.cells.map .v) cs ∧ e.Lits := by
  obtain ⟨fuel, x, h⟩ := h
  rw [show Try.prog.cellsOf 150 = 8 by kernel_rfl] at hl
  have hh := leaves_trod 4 _ _ _ _ _ ent_leavesA (by simpa using hl.symm) h
  match cs, hl with
  | [v0, v1, v2, v3, v4, v5, v6, v7], _ =>
    obtain ⟨n0, rfl, b0⟩ := (hh 0 v0 _ rfl rfl).int Try.underlying3
    obtain ⟨n1, rfl, b1⟩ := (hh 1 v1 _ rfl rfl).int Try.underlying2
    obtain ⟨n2, rfl, b2⟩ := (hh 2 v2 _ rfl rfl).int Try.underlying3
    obtain ⟨s3, rfl, b3⟩ := (hh 3 v3 _ rfl rfl).string Try.underlying9
    obtain ⟨n4, rfl, b4⟩ := (hh 4 v4 _ rfl rfl).int Try.underlying2
    obtain ⟨n5, rfl, b5⟩ := (hh 5 v5 _ rfl rfl).int Try.underlying2
    obtain ⟨s6, rfl, b6⟩ := (hh 6 v6 _ rfl rfl).string Try.underlying9
    obtain ⟨n7, rfl, b7⟩ := (hh 7 v7 _ rfl rfl).int Try.underlying148
    simp only [Lit.wf, Bool.and_eq_true, decide_eq_true_eq] at b7
    have c0 : (0 : Int) ≤ n7 := b7.1
    have c1 : n7 ≤ (4294967295 : Int) := b7.2
    obtain ⟨m, rfl⟩ : ∃ m : Nat, n7 = m := ⟨n7.toNat, by omega⟩
    exact ⟨⟨⟨n0, n1, n2, s3, n4, n5, s6⟩, m⟩, reps_plain.2 rfl, ⟨wfIn b0, wfIn b1, wfIn b2, wfIn b4, wfIn b5, b3, b6, by show m < 4294967296; omega⟩⟩
theorem open_entsA {v : Value} (h : LeafAt enc Try.prog w base spare held 22 v) : ∃ es : List Ent, rep [] w (entsA es) v ∧ ∀ e ∈ es, e.Lits :=
  open_slA (abs := fun e : Ent => e.cells.map .v) (Ok := Ent.Lits) Try.underlying22 (by kernel_rfl) h open_entA
theorem pnt_leaves : leaves Try.prog 4 171 = some (2 :: List.replicate 32 5) := by kernel_rfl
theorem open_pnt (cs : List Value) (hl : cs.length = Try.prog.cellsOf 171) (h : ∃ m y, DataW.trod enc Try.prog w base spare held m 171 cs = some y) : ∃ p : Pnt, reps [] w p.abs cs ∧ InR .i64 p.seq := by
  obtain ⟨fuel, x, h⟩ := h
  rw [show Try.prog.cellsOf 171 = 33 by kernel_rfl] at hl
  have hh := leaves_trod 4 _ _ _ _ _ pnt_leaves (by simpa using hl.symm) h
  match cs, hl with
  | v0 :: cs, hl =>
    obtain ⟨n0, rfl, b0⟩ := (hh 0 v0 _ rfl rfl).int Try.underlying2
    have hl2 : cs.length = 32 := by simpa using hl
    obtain ⟨d, rfl⟩ := open_u8 (cs := cs) fun v hv => by
      obtain ⟨j, hj, rfl⟩ := List.getElem_of_mem hv
      exact hh (j + 1) cs[j] _ (by rw [List.getElem?_cons_succ, List.getElem?_eq_getElem hj]) (by rw [List.getElem?_cons_succ, List.getElem?_replicate, if_pos (by omega)])
    exact ⟨⟨n0, d, by simpa using hl2⟩, ⟨_, _, rfl, rfl, reps_dig d⟩, wfIn b0⟩
theorem prf_leaves : leaves Try.prog 4 176 = some [2, 2, 22] := by kernel_rfl
theorem open_prf (cs : List Value) (hl : cs.length = Try.prog.cellsOf 176) (h : ∃ m y, DataW.trod enc Try.prog w base spare held m 176 cs = some y) : ∃ p : Prf, reps [] w p.abs cs ∧ p.Lits := by
  obtain ⟨fuel, x, h⟩ := h
  rw [show Try.prog.cellsOf 176 = 3 by kernel_rfl] at hl
  have hh := leaves_trod 4 _ _ _ _ _ prf_leaves (by simpa using hl.symm) h
  match cs, hl with
  | [v0, v1, v2], _ =>
    obtain ⟨n0, rfl, b0⟩ := (hh 0 v0 _ rfl rfl).int Try.underlying2
    obtain ⟨n1, rfl, b1⟩ := (hh 1 v1 _ rfl rfl).int Try.underlying2
    obtain ⟨es, he, hs⟩ := open_entsA (hh 2 v2 _ rfl rfl)
    exact ⟨⟨n0, n1, es⟩, ⟨_, _, rfl, rfl, _, _, rfl, rfl, _, _, rfl, he, rfl⟩, ⟨wfIn b0, wfIn b1, hs⟩⟩
theorem chg_leaves : leaves Try.prog 4 52 = some [2, 2, 49, 50, 50] := by kernel_rfl
theorem open_chg {cs : List Value} {fuel : Nat} {x : DataW H × List MemPlace} (hl : cs.length = Try.prog.cellsOf 52) (h : DataW.trod enc Try.prog w base spare held fuel 52 cs = some x) : ∃ c : Chg, reps [] w c.abs cs ∧ c.Lits := by
  rw [show Try.prog.cellsOf 52 = 5 by kernel_rfl] at hl
  have hh := leaves_trod 4 _ _ _ _ _ chg_leaves (by simpa using hl.symm) h
  match cs, hl with
  | [v0, v1, v2, v3, v4], _ =>
    obtain ⟨n0, rfl, b0⟩ := (hh 0 v0 _ rfl rfl).int Try.underlying2
    obtain ⟨n1, rfl, b1⟩ := (hh 1 v1 _ rfl rfl).int Try.underlying2
    obtain ⟨ps, hp, hps⟩ := open_slA (abs := Pnt.abs) (Ok := fun p => InR .i64 p.seq) Try.underlying49 (by kernel_rfl) (hh 2 v2 _ rfl rfl) open_pnt
    obtain ⟨ps1, ha, has⟩ := open_slA (abs := Prf.abs) (Ok := Prf.Lits) Try.underlying50 (by kernel_rfl) (hh 3 v3 _ rfl rfl) open_prf
    obtain ⟨bs, hb, hbs⟩ := open_slA (abs := Prf.abs) (Ok := Prf.Lits) Try.underlying50 (by kernel_rfl) (hh 4 v4 _ rfl rfl) open_prf
    exact ⟨⟨n0, n1, ps, ps1, bs⟩, ⟨_, _, rfl, rfl, _, _, rfl, rfl, _, _, rfl, hp, _, _, rfl, ha, _, _, rfl, hb, rfl⟩, ⟨wfIn b0, wfIn b1, hps, has, hbs⟩⟩
end
theorem _root_.Go.Proofs.Ytpgffckfbgfgcaa.IsRow.bytesA {K : List Nat} {w : World} {v : Value} {m : List UInt8} (h : IsRow K w v m.length (m.map bc)) : BytesV w v m := by
  obtain ⟨A, c, rfl, h1, h2, h3⟩ := h.shape
  refine ⟨A, c, rfl, h1, h2, h3, fun hn => ?_⟩
  obtain ⟨b, off, n', c', hv, _, hc⟩ := h.cells hn
  simp at hv
  obtain ⟨rfl, _, _⟩ := hv
  exact ⟨b, off, rfl, hc⟩
/-- A row of bytes as a text. -/
theorem Val.strOf {n : Nat} {W : Wd} {σ : Blks} {l : Slots} {X : List Nat} {x : Operand} {d : Option Nat} {ty : TypeId} {pos : String} {aft : Array Edge} {gq : Option (Nat × Bool)} {m : List UInt8} (hx : look l x = some (byt m)) : Val Try.prog n W σ l X ⟨d, .convert 34 9 x, ty, pos, aft, gq⟩ (.v (.string ⟨m.toArray⟩)) := fun a w hs hX => ⟨_, rfl, fun w' hw' => by
  have h1 := rep_byt.1 (hs.eval hx)
  have h2 := (Carry.of_ext hw' (K := mids σ ++ W.G) (K' := mids σ ++ W.G) (fun k hk => .inl (List.mem_append_left _ (hX k hk))) (fun k hk => .inl hk)).row h1
  have := conv_txtE h2.bytesA
  simp [execOp, this, Result.andThen]⟩
/-- A law's walk, as a call in a world. -/
theorem law_of {f : FuncId} {args : List Abs} (h : Pure Try.prog f args (boo true)) {w : World} {vals : List Value} (hv : reps [] w args vals) : Calls Try.prog f vals.toArray w fun e w' => e = .returned (.bool true) ∧ Ext [] w w' := by
  have hm : Mem w (mids []) [] [] w := ⟨Ext.refl w, by simp [mids], by simp, by simp, by simp, by simp [mids], by simp⟩
  refine (h [] w vals hm hv).mono fun e w' ⟨z, r, he, _, h1, h2⟩ => ⟨?_, h1.ext⟩
  have h2 : r = .bool true := h2
  rw [he, h2]
end Go.Proofs.Ytpgffckfbgfgcaa.A
/-
  The second engine: a book as a piece of memory; its calls, and a change's or a batch's digest by it.
-/
set_option maxRecDepth 100000
set_option linter.unusedSimpArgs false
set_option linter.unusedVariables false
namespace Go.Proofs.Ytpgffckfbgfgcaa.A
open Go.RowKit

abbrev DMap := List ((Nat × List UInt8) × Nat)
abbrev TMap := List (((Int × Int) × List UInt8) × Nat)
theorem map_alike {α β : Type} {w w' : World} {b : Nat} {K : α → Value} {V : β → Value} {Good : α → Prop} {m : List (α × β)} (h : MapOf w b K V Good m) (hb : w'.heap[b]? = w.heap[b]?) : MapOf w' b K V Good m := by
  obtain ⟨es, clock, h1, h2⟩ := h
  exact ⟨es, clock, hb.trans h1, h2⟩
/-- A book as a piece of memory. -/
def bkPc (p bd bt : Nat) (D : DMap) (T : TMap) : Pc where
  ids := [p, bd, bt]
  p := fun _ w => BookAt w p bd bt D T
  carry := fun K w K' w' _ hs h => ⟨(hs p (by simp)).trans h.blk, map_alike h.md (hs bd (by simp)), map_alike h.mt (hs bt (by simp)), h.ne⟩
  lt := fun K w h k hk => by
    simp only [List.mem_cons, List.not_mem_nil, or_false] at hk
    rcases hk with rfl | rfl | rfl
    · exact h.blk.lt
    · exact h.md.lt
    · exact h.mt.lt
theorem bk_ids {w : World} {p bd bt : Nat} {D D' : DMap} {T T' : TMap} (h : BookAt w p bd bt D T) : (It.mids (.pc (bkPc p bd bt D' T'))).Nodup := by
  obtain ⟨h1, h2, h3⟩ := h.ne
  simp [It.mids, bkPc]
  omega
section
variable {p bd bt : Nat} {D : DMap} {T : TMap} {k x y : Int} {l : List UInt8}
theorem bknew_s : Spec Try.prog 17 [] [] (fun z : Nat × Nat × Nat => [.pc (bkPc z.1 z.2.1 z.2.2 [] [])]) (fun z => .v (.pointer (some ⟨z.1, 0, none⟩))) := fun G w vals hm hv => by
  have hv : vals = [] := hv
  subst hv
  refine (book_New w).mono fun e w' ⟨h1, h2, h3⟩ => ?_
  have h4 := hm.new (y := .pc (bkPc (w.heap.size + 2) w.heap.size (w.heap.size + 1) [] [])) h3 (bk_ids h2) (by
    intro k hk
    simp only [It.mids, bkPc, List.mem_cons, List.not_mem_nil, or_false] at hk
    omega) rfl (fun _ => h2)
  exact ⟨(w.heap.size + 2, w.heap.size, w.heap.size + 1), _, h1, by simp [It.rids], h4.1, rfl⟩
theorem bkdigest_s (hl : l.length ≤ maxLen) (hm : D.length < 1000000) (hpl : pl D (k8 k, l) < 9223372036854775808) :
    Spec Try.prog 161 [.v (.pointer (some ⟨p, 0, none⟩)), .v (.int .i64 k), byt l] [.pc (bkPc p bd bt D T)] (fun _ : Unit => [.pc (bkPc p bd bt (pm D (k8 k, l)) T)]) (fun _ => .agg (digA (numB (k8 k) (pl D (k8 k, l))))) := fun G w vals hmm hv => by
  obtain ⟨_, _, rfl, h1, _, _, rfl, h2, v, _, rfl, h3, h4⟩ := hv
  have h1 : _ = Value.pointer (some ⟨p, 0, none⟩) := h1
  have h2 : _ = Value.int .i64 k := h2
  have h4 : _ = [] := h4
  subst h1 h2 h4
  have hb : BookAt w p bd bt D T := hmm.hold (.pc (bkPc p bd bt D T)) (by simp)
  refine (book_Digest w p bd bt D T k v l hb (rep_byt.1 h3).bytesA ⟨by show k8 k < 256; unfold k8; omega, hl⟩ (by omega) hpl).mono fun e w' ⟨e1, e2, e3⟩ => ?_
  have h5 := hmm.upd (x := .pc (bkPc p bd bt D T)) (y := .pc (bkPc p bd bt (pm D (k8 k, l)) T)) .here (e3.mono (by simp [It.mids, bkPc])) (bk_ids e2) (fun k hk => .inl hk) rfl (fun _ => e2)
  refine ⟨(), _, e1, by simp [It.rids], h5.1, ?_⟩
  rw [numV_arr _ _ (by unfold k8; omega)]
  exact ⟨_, rfl, reps_dig _⟩
end
/-- A call of a method through an interface, in a region that draws. -/
theorem SX.invokeR {P : Program} {n : Nat} {W : Wd} {ops : Array Oper} {l : Slots} {σ : Blks} {X : List Nat} {Q : Exit → Act → World → Prop} {ix : Plan} {f : FuncId} {args args' : List Abs} {σ1 : Blks} {ι : Type} {τ' : ι → Blks} {res : ι → Abs} {xs : List Operand} {ats : Array TypeId} {d : Option Nat} {ty : TypeId} {pos : String} {aft : Array Edge} {g : Option (Nat × Bool)} {i : Nat} {x : Operand} {m : String} {t : TypeId} {y : Abs}
    (hi : ops[i]? = some ⟨d, .call { callee := .invoke x m, args := xs.toArray, argTypes := ats }, ty, pos, aft, g⟩) (hs : Spec P f args' σ1 τ' res) (hX : ∀ k ∈ mids σ1, k ∈ X) (hx : look l x = some (.ifc t y)) (hca : Casts (y :: args) args')
    (hmm : ∀ (u : Value) (ρ : Operand → Value) w, (Go.invoke (.fn (.method m) #[]) (#[.iface t u] ++ (xs.map ρ).toArray)).run P w = .ok (.enter f (#[u] ++ (xs.map ρ).toArray)) w) (hv : looks l xs = some args)
    (hg : gd ops l ⟨d, .call { callee := .invoke x m, args := xs.toArray, argTypes := ats }, ty, pos, aft, g⟩ = some true) (hd : lt? d n = true)
    (k : After σ σ1 τ' fun ν z => SX P ops ix X (St n W ν (put? l d (res z))) Q) : SX P ops (.e i ix) X (St n W σ l) Q := fun a w h => by
  unfold planW wpOp
  simp only [hi, h.wanted hg, if_true]
  refine .inl ?_
  unfold Oper.wp
  obtain ⟨u, h1, h2⟩ := h.eval hx
  rw [run_invoke rfl h1 (hmm u a.eval), Oper.upon_enter]
  have : reps (mids σ ++ W.G) w (y :: args) (u :: xs.map a.eval) := ⟨u, _, rfl, h2, h.evals hv⟩
  rw [show #[u] ++ (xs.map a.eval).toArray = (u :: xs.map a.eval).toArray by simp]
  refine (hs.after h.mem (hca _ _ _ this) k).mono fun e w' ⟨z, r, ν, he, hx, _, hm, hc, hr, hk⟩ => ?_
  subst he
  exact ⟨fun w2 => Ext X w' w2, fun w2 h2 => (hx.mono (fun k hk => .inl (hX k hk))).trans h2 fun k hk => .inl hk, Ext.refl w', hk _ _ ((h.to hm hc).put hd hr)⟩
/-- A call of a method through an interface. -/
theorem SL.invokeR {P : Program} {n : Nat} {W : Wd} {ops : Array Oper} {l : Slots} {σ : Blks} {Q : Exit → Act → World → Prop} {rest : List Oper} {f : FuncId} {args args' : List Abs} {σ1 : Blks} {ι : Type} {τ' : ι → Blks} {res : ι → Abs} {xs : List Operand} {ats : Array TypeId} {d : Option Nat} {ty : TypeId} {pos : String} {aft : Array Edge} {g : Option (Nat × Bool)} {x : Operand} {m : String} {t : TypeId} {y : Abs}
    (hs : Spec P f args' σ1 τ' res) (hx : look l x = some (.ifc t y)) (hca : Casts (y :: args) args')
    (hmm : ∀ (u : Value) (ρ : Operand → Value) w, (Go.invoke (.fn (.method m) #[]) (#[.iface t u] ++ (xs.map ρ).toArray)).run P w = .ok (.enter f (#[u] ++ (xs.map ρ).toArray)) w) (hv : looks l xs = some args)
    (hg : gd ops l ⟨d, .call { callee := .invoke x m, args := xs.toArray, argTypes := ats }, ty, pos, aft, g⟩ = some true) (hd : lt? d n = true)
    (k : After σ σ1 τ' fun ν z => SL P ops rest (St n W ν (put? l d (res z))) Q) : SL P ops (⟨d, .call { callee := .invoke x m, args := xs.toArray, argTypes := ats }, ty, pos, aft, g⟩ :: rest) (St n W σ l) Q := fun a w h =>
  wpList_step fun K hK => by
    rw [if_pos (h.wanted hg)]
    unfold Oper.wp
    obtain ⟨u, h1, h2⟩ := h.eval hx
    rw [run_invoke rfl h1 (hmm u a.eval), Oper.upon_enter]
    have : reps (mids σ ++ W.G) w (y :: args) (u :: xs.map a.eval) := ⟨u, _, rfl, h2, h.evals hv⟩
    rw [show #[u] ++ (xs.map a.eval).toArray = (u :: xs.map a.eval).toArray by simp]
    refine (hs.after h.mem (hca _ _ _ this) k).mono fun e w' ⟨z, r, ν, he, _, _, hm, hc, hr, hk⟩ => ?_
    subst he
    exact hK _ _ (hk _ _ ((h.to hm hc).put hd hr))
/-- A method value, ahead of its call: its receiver is no nil pointer that would be followed. -/
theorem Val.nilMethod {P : Program} {n : Nat} {W : Wd} {σ : Blks} {l : Slots} {X : List Nat} {x : Operand} {d : Option Nat} {ty : TypeId} {pos : String} {aft : Array Edge} {g : Option (Nat × Bool)} {m : String} {t : TypeId} {u : Value}
    (hx : look l x = some (.fn (.method m) [.ifc t (.v u)] [])) (h : ∀ w, (nilAhead (P.types.size + Made.depth) t u m).run P w = .ok (some false) w) : Val P n W σ l X ⟨d, .nilCheck x, ty, pos, aft, g⟩ (.fn (.method m) [.ifc t (.v u)] []) := fun a w hs _ => by
  have hr := hs.eval hx
  obtain ⟨us, vs, h1, ⟨_, _, rfl, ⟨_, rfl, h2⟩, h3⟩, h4⟩ := hr
  have h2 : _ = u := h2
  have h3 : _ = [] := h3
  have h4 : vs = [] := h4
  subst h2 h3 h4
  refine ⟨_, hs.eval hx, fun w' _ => ?_⟩
  simp [execOp, h1, Sem.run_bind, program, Sem.run, h w', Result.andThen]
end Go.Proofs.Ytpgffckfbgfgcaa.A
/-
  The second engine: rows of one's own, read; calls that change several pieces.
-/
set_option maxRecDepth 100000
set_option linter.unusedSimpArgs false
set_option linter.unusedVariables false
namespace Go.Proofs.Ytpgffckfbgfgcaa.A
open Go.RowKit

def isOwn (σ : Blks) (e : TypeId) (s : Nat) (v : Value) (xs : List (List Abs)) : Prop := own e s v xs ∈ σ ∨ It.rdpc (ownPc e s v xs) ∈ σ
/-- The address of so many cells behind a row's first one. -/
def eptr : Value → Nat → Value
  | .slice (some ⟨b, off, _⟩) _ _, o => .pointer (some ⟨b, off + o, none⟩)
  | v, _ => v
section
variable {P : Program} {n : Nat} {W : Wd} {σ τ : Blks} {l : Slots} {X : List Nat} {x y z : Operand} {d : Option Nat} {ty t e e' : TypeId} {pos : String} {aft : Array Edge} {g : Option (Nat × Bool)} {v : Value} {k : IntKind} {A : Abs} {tab : List (Nat × TI)} {xs : List (List Abs)} {s q : Nat} {cs : List Abs}
theorem Mem.ownR {w0 w : World} {F G : List Nat} (h : Mem w0 F G σ w) (hb : isOwn σ e s v xs) : ∃ us, IsRow [] w v xs.length us ∧ repss (mids σ ++ G) w s xs us := by
  have hp : (ownPc e s v xs).p (mids σ ++ G) w := by
    rcases hb with hb | hb
    · exact h.hold _ hb
    · exact h.hold _ hb
  obtain ⟨us, h1, h2⟩ := hp
  exact ⟨us, ownsRow.isRow h1 (by simp), h2⟩
theorem Val.lenOwnR {m : Nat} (hx : look l x = some (.v v)) (hb : isOwn σ e' s v xs) (ht : P.underlying t = some (.slice e)) (hm : xs.length = m) : Val P n W σ l X ⟨d, .call { callee := .builtin .len, args := #[x], argTypes := #[t] }, ty, pos, aft, g⟩ (.v (.int .i64 m)) := Val.mk' fun a w hs _ => by
  subst hm
  obtain ⟨us, h1, _⟩ := hs.mem.ownR hb
  obtain ⟨A', c, h2, _⟩ := h1.shape
  exact ⟨_, rfl, fun w' _ => Proofs.Ytpgffckfbgfgcaa.Val.lenSl (by rw [hs.at2 hx, hs.plain hx, h2]) ht⟩
theorem own_at {w : World} {us : List Value} (hr : IsRow [] w v xs.length us) (hp : repss (mids σ ++ W.G) w s xs us) (hpos : 0 < s) (hq : xs[q]? = some cs) : ∃ b off c, v = .slice (some ⟨b, off, none⟩) xs.length c ∧ b < w.heap.size ∧ ∃ vs : List Value, vs.length = s ∧ reps (mids σ ++ W.G) w cs vs ∧ ∀ j u, vs[j]? = some u → w.cell? ⟨b, off + q * s + j, none⟩ = some u := by
  obtain ⟨vs, h3, h4, h5⟩ := repss_get hp hq
  have hlt : q < xs.length := (List.getElem?_eq_some_iff.1 hq).1
  have hlen := repss_length hp
  have hne : us ≠ [] := by
    rintro rfl
    have : xs.length * s = 0 := by simpa using hlen.symm
    rcases Nat.mul_eq_zero.1 this with h | h <;> omega
  obtain ⟨A', c, hsh, h6, h7, h8⟩ := hr.shape
  obtain ⟨b, off, n', c', hv, hb, hc⟩ := hr.cells hne
  have hv2 := hv
  rw [hsh] at hv2
  simp at hv2
  obtain ⟨rfl, rfl, rfl⟩ := hv2
  have hcell : ∀ j u, vs[j]? = some u → w.cell? ⟨b, off + q * s + j, none⟩ = some u := fun j u hu => by rw [Nat.add_assoc]; exact hc _ u (h5 j u hu)
  have hbl : b < w.heap.size := by
    cases vs with
    | nil => simp at h3; omega
    | cons u vs => exact block_lt_of_cell (hcell 0 u rfl)
  exact ⟨b, off, _, hsh, hbl, vs, h3, h4, hcell⟩
/-- The address of an element. -/
theorem Val.indexOwn (hT : TabOk P tab) {j : TI} (hu : P.underlying t = some (.slice e)) (hj : ti tab e = some j) (hx : look l x = some (.v v)) (hb : isOwn σ e' s v xs) {r : Int} (hy : look l y = some (.v (.int k r))) (hr : r = (q : Nat)) (hq : q < xs.length) (hsz : Nat.beq s j.size = true) (hpos : Nat.blt 0 s = true) :
    Val P n W σ l X ⟨d, .indexAddr t x y, ty, pos, aft, g⟩ (.v (eptr v (q * s))) := Val.mk' fun a w hs hX => by
  subst hr
  have hsz := Nat.eq_of_beq_eq_true hsz
  have hpos : 0 < s := by simpa [Nat.blt_eq] using hpos
  obtain ⟨us, h1, h2⟩ := hs.mem.ownR hb
  obtain ⟨b, off, c, hv, _⟩ := own_at h1 h2 hpos (List.getElem?_eq_getElem hq)
  refine ⟨_, rfl, fun w' _ => ?_⟩
  rw [hv]
  show Proofs.Ytpgffckfbgfgcaa.Val _ _ _ _ _ (.pointer (some ⟨b, off + q * s, none⟩))
  rw [hsz]
  exact Proofs.Ytpgffckfbgfgcaa.Val.indexSlN hT hu hj (by rw [hs.at2 hx, hs.plain hx, hv]) (by rw [hs.at2 hy, hs.plain hy]) hq
theorem Val.loadOwn1 (hT : TabOk P tab) {sz : Nat} {zs : List Value} (ht : ti tab t = some ⟨sz, .one, zs⟩) (hx : look l x = some (.v (eptr v (q * s)))) (hb : isOwn σ e' s v xs) (hpos : Nat.blt 0 s = true) (hq : xs[q]? = some cs) (hv : cs[0]? = some A) : Val P n W σ l [] ⟨d, .load t x, ty, pos, aft, g⟩ A := Val.mk' fun a w hs hX => by
  have hpos : 0 < s := by simpa [Nat.blt_eq] using hpos
  obtain ⟨us, h1, h2⟩ := hs.mem.ownR hb
  obtain ⟨b, off, c, hvv, hbl, vs, h3, h4, h5⟩ := own_at h1 h2 hpos hq
  obtain ⟨u, h6, h7⟩ := reps_get h4 hv
  refine ⟨u, h7, fun w' hw' => Proofs.Ytpgffckfbgfgcaa.Val.load1C (b := b) (o := off + q * s) hT ht (by rw [hs.at2 hx, hs.plain hx, hvv]; rfl) fun w1 e => by subst e; exact cell_later hw' (by simp) (h5 0 u h6)⟩
theorem Val.loadOwnA (hT : TabOk P tab) {i : TI} (ht : ti tab t = some i) (hk : (match i.k with | .one => false | _ => true) = true) (hx : look l x = some (.v (eptr v (q * s)))) (hb : isOwn σ e' s v xs) (hpos : Nat.blt 0 s = true) (hq : xs[q]? = some cs) (hs0 : Nat.beq s i.size = true) : Val P n W σ l [] ⟨d, .load t x, ty, pos, aft, g⟩ (.agg cs) := Val.mk' fun a w hs hX => by
  have hpos : 0 < s := by simpa [Nat.blt_eq] using hpos
  have hs0 := Nat.eq_of_beq_eq_true hs0
  obtain ⟨us, h1, h2⟩ := hs.mem.ownR hb
  obtain ⟨b, off, c, hvv, hbl, vs, h3, h4, h5⟩ := own_at h1 h2 hpos hq
  exact ⟨_, ⟨vs, rfl, h4⟩, fun w' hw' => Proofs.Ytpgffckfbgfgcaa.Val.loadAC (b := b) (o := off + q * s) hT ht hk (by rw [hs.at2 hx, hs.plain hx, hvv]; rfl) (by omega) fun w1 e j u hu => by subst e; exact cell_later hw' (by simp) (h5 j u hu)⟩
/-- It changes pieces that lie side by side. -/
theorem After.mid {ι : Type} {σ1 : Blks} {τ' : ι → Blks} {K : Blks → ι → Prop} (α : Blks) {β : Blks} (hσ : σ = α ++ (σ1 ++ β)) (hr : ∀ x ∈ σ1, x.rids = []) (k : ∀ z, K (α ++ (τ' z ++ β)) z) : After σ σ1 τ' K := by
  subst hσ
  refine ⟨α ++ β, ⟨?_, fun x hx => .inl ⟨by simp [hx], hr x hx⟩, fun x hx => ?_⟩, fun z => ⟨_, ?_, k z⟩⟩
  · simp only [mids_append]
    exact List.perm_append_comm_assoc _ _ _
  · rcases List.mem_append.1 hx with h | h <;> simp [h]
  · exact List.perm_append_comm_assoc _ _ _
end
/-- A cut, from a known state. -/
theorem SC.cutS {P : Program} {n : Nat} {W : Wd} {σ : Blks} {l : Slots} {Q : Exit → Act → World → Prop} {x y : Code} {ι : Type} (H : ι → Blks) (L : ι → Slots) (Φ : ι → Prop) (h : SC P x (St n W σ l) (Exit.then (fun a w => ∃ z, Head n W H L Φ z a w) Q)) (k : ∀ z, Φ z → SC P y (St n W (H z) (L z)) Q) : SC P (.seq x y) (St n W σ l) Q := SC.cut H L Φ h k
section
variable {P : Program} {n : Nat} {W : Wd} {ops : Array Oper} {l : Slots} {σ : Blks} {X : List Nat} {Q : Exit → Act → World → Prop} {ix : Plan} {f : FuncId} {args args' : List Abs} {σ1 : Blks} {ι : Type} {τ' : ι → Blks} {res : ι → Abs} {xs : List Operand} {ats : Array TypeId} {d : Option Nat} {ty : TypeId} {pos : String} {aft : Array Edge} {g : Option (Nat × Bool)} {i : Nat}
/-- A call; from then on only the blocks X' may be changed. -/
theorem SX.callX (X' : List Nat) (hi : ops[i]? = some ⟨d, .call { callee := .value (.func f), args := xs.toArray, argTypes := ats }, ty, pos, aft, g⟩) (hs : Spec P f args' σ1 τ' res) (hX : ∀ k ∈ mids σ1, k ∈ X) (hX' : ∀ k ∈ X', k ∈ X) (hca : Casts args args') (hb : goesIn P f = true) (hv : looks l xs = some args)
    (hg : gd ops l ⟨d, .call { callee := .value (.func f), args := xs.toArray, argTypes := ats }, ty, pos, aft, g⟩ = some true) (hd : lt? d n = true)
    (k : After σ σ1 τ' fun ν z => SX P ops ix X' (St n W ν (put? l d (res z))) Q) : SX P ops (.e i ix) X (St n W σ l) Q := fun a w h => by
  unfold planW wpOp
  simp only [hi, h.wanted hg, if_true]
  refine .inl ?_
  unfold Oper.wp
  rw [run_call hb rfl, Oper.upon_enter]
  refine (hs.after h.mem (hca _ _ _ (h.evals hv)) k).mono fun e w' ⟨z, r, ν, he, hx, _, hm, hc, hr, hk⟩ => ?_
  subst he
  exact ⟨fun w2 => Ext X' w' w2, fun w2 h2 => (hx.mono (fun k hk => .inl (hX k hk))).trans h2 fun k hk => .inl (hX' k hk), Ext.refl w', hk _ _ ((h.to hm hc).put hd hr)⟩
end
/-- 'max' of two numbers. -/
theorem Val.maxI {P : Program} {n : Nat} {W : Wd} {σ : Blks} {l : Slots} {X : List Nat} {x y : Operand} {d : Option Nat} {ty t t' : TypeId} {pos : String} {aft : Array Edge} {gq : Option (Nat × Bool)} {k : IntKind} {a b : Int} (hx : look l x = some (.v (.int k a))) (hy : look l y = some (.v (.int k b))) :
    Val P n W σ l X ⟨d, .call { callee := .builtin .max, args := #[x, y], argTypes := #[t, t'] }, ty, pos, aft, gq⟩ (.v (.int k (max a b))) := fun ac w hs _ => ⟨_, rfl, fun w' _ => by
  have hm : (if a < b then b else a) = max a b := by omega
  simp [execOp, resolve, invoke, builtin, Builtin.max_, Builtin.max2, hs.plain hx, hs.plain hy, List.foldlM, hm]⟩
end Go.Proofs.Ytpgffckfbgfgcaa.A
/-
  A book: the document's Digest and find, over the second engine.
-/
set_option maxRecDepth 100000
set_option linter.unusedSimpArgs false
set_option linter.unusedVariables false
namespace Go.Proofs.Ytpgffckfbgfgcaa.A
open Go.RowKit

/-! ### Numbers as digests -/
theorem be_head : ∀ (z n : Nat), beBytes n (z + 1) = UInt8.ofNat (n / 256 ^ z) :: beBytes n z
  | 0, n => by simp [beBytes]
  | z + 1, n => by
    have h1 : beBytes n (z + 1 + 1) = beBytes (n / 256) (z + 1) ++ [UInt8.ofNat n] := rfl
    have h2 : beBytes n (z + 1) = beBytes (n / 256) z ++ [UInt8.ofNat n] := rfl
    rw [h1, be_head z (n / 256), h2, Nat.div_div_eq_div_mul, Nat.pow_succ, Nat.mul_comm]
    rfl
def numA (f n z : Nat) : List Abs := .v (.int .u8 (f : Nat)) :: (List.replicate (31 - z) (.v (.int .u8 0)) ++ digA (beBytes n z))
theorem numA_length {f n z : Nat} (h : z ≤ 31) : (numA f n z).length = 32 := by
  simp [numA, digA, beBytes_length]
  omega
theorem numA_ones {f n z : Nat} : ones (numA f n z) = true := by
  rw [ones_iff]
  intro a ha
  rcases List.mem_cons.1 ha with rfl | ha
  · rfl
  · rcases List.mem_append.1 ha with ha | ha
    · rw [List.eq_of_mem_replicate ha]; rfl
    · obtain ⟨b, _, rfl⟩ := List.mem_map.1 ha; rfl
theorem numA_put {f n z m : Nat} (hz : z < 8) (hm : m = n / 256 ^ z) : putL (numA f n z) (0 + (31 - z) * 1) [.v (.int .u8 (IntKind.u8.wrap (m : Nat)))] = numA f n (z + 1) := by
  have hw : IntKind.u8.wrap (m : Nat) = (((UInt8.ofNat m).toNat : Nat) : Int) := by simp [IntKind.wrap, IntKind.bits, IntKind.signed]
  rw [putL_eq _ _ _ (by rw [numA_length (by omega)]; omega), hw]
  obtain ⟨j, hj⟩ : ∃ j, 31 - z = j + 1 := ⟨31 - z - 1, by omega⟩
  have e1 : (numA f n z).take (0 + (31 - z) * 1) = .v (.int .u8 (f : Nat)) :: List.replicate j (.v (.int .u8 0)) := by
    unfold numA
    rw [show 0 + (31 - z) * 1 = j + 1 by omega, hj, List.take_succ_cons, List.take_append_of_le_length (by simp), List.take_replicate]
    simp
  have e2 : (numA f n z).drop (0 + (31 - z) * 1 + [Abs.v (Value.int .u8 (((UInt8.ofNat m).toNat : Nat) : Int))].length) = digA (beBytes n z) := by
    show (numA f n z).drop (0 + (31 - z) * 1 + 1) = _
    unfold numA
    rw [show 0 + (31 - z) * 1 + 1 = (31 - z) + 1 by omega, List.drop_succ_cons, List.drop_append_of_le_length (by simp)]
    simp
  rw [e1, e2]
  unfold numA
  rw [be_head, show 31 - (z + 1) = j by omega, ← hm]
  simp [digA, bc]
theorem numA_end {f n : Nat} (hf : f < 256) : numA f n 8 = digA (numB f n) := by
  have h : bc (UInt8.ofNat f) = .int .u8 (f : Nat) := by
    simp [bc]; omega
  unfold numA numB digA
  simp [h]
  rfl
section
variable {f n : Nat}
set_option maxHeartbeats 2000000 in
theorem rnum_s (hf : f < 256) (hn : n < 9223372036854775808) : Spec Try.prog 165 [.v (.int .u8 (f : Nat)), int (n : Nat)] [] (fun _ : Unit => []) (fun _ => .agg (digA (numB f n))) := by
  refine spec_of Try.func165 rfl Try.ntmps165 rfl fun G w => ?_
  refine SC.seq (SC.region ?_)
  refine SL.eff (Eff.alloc tabOk rfl) rfl rfl ?_
  rintro _ _ ⟨b4, rfl, rfl⟩
  refine SL.nil (SE.seq ?_)
  refine SC.seq (SC.region ?_)
  refine SL.eff (Eff.alloc tabOk rfl) rfl rfl ?_
  rintro _ _ ⟨b5, rfl, rfl⟩
  refine SL.nil (SE.seq ?_)
  refine SC.seq (SC.region ?_)
  refine SL.val (Val.move rfl) rfl rfl ?_
  refine SL.val (Val.indexArP (q := 0) tabOk Try.underlying29 rfl rfl rfl rfl (by decide) rfl) rfl rfl ?_
  refine SL.eff (Eff.store (L' := numA f n 0) tabOk rfl rfl rfl (by repeat first|assumption|exact Upd.here|apply Upd.there) (by rfl) (Nat.le_of_ble_eq_true (by rfl)) (by rfl) (by simp [numA, zabs, putL, digA, beBytes, cellsA])) rfl rfl ?_
  rintro _ _ ⟨rfl, rfl⟩
  refine SL.nil (SE.seq ?_)
  refine SC.seq ?_
  refine SC.seq (SC.region ?_)
  refine SL.val (Val.assign rfl) rfl rfl ?_
  refine SL.nil (SE.seq ?_)
  refine SC.block ?_
  refine SC.loop (ι := Nat × Nat) (fun z => [.blk b5 29 (numA f n z.1), .blk b4 29 (zabs (List.replicate 32 (.int .u8 0)))]) (fun z => [(1, int (z.2 : Nat)), (4, ptr b4), (5, ptr b5), (6, int (31 - z.1 : Nat))]) (fun z => z.1 ≤ 8 ∧ z.2 = n / 256 ^ z.1) (fun z => 8 - z.1) (0, n) (⟨Nat.zero_le _, by simp⟩) (by exact ⟨rfl, rfl, rfl, rfl, trivial⟩) (by repeat first|exact s0 _|exact s1 _|apply s2|apply s3) ?_
  intro z hz
  have hle : z.2 ≤ n := by rw [hz.2]; exact Nat.div_le_self _ _
  refine SC.seq ?_
  refine SC.seq (SC.region ?_)
  refine SL.val (Val.move rfl) rfl rfl ?_
  refine SL.val (Val.gtI rfl rfl) rfl rfl ?_
  refine SL.nil (SE.seq ?_)
  refine SC.condP rfl ?_ ?_
  rotate_left
  · intro hc10
    refine SC.exit ?_
    refine SE.then_ (by intro h; cases h) ?_
    refine SE.then_ (by intro h; cases h) ?_
    refine SE.exit ?_
    refine SE.seq ?_
    refine SC.seq (SC.region ?_)
    refine SL.val (Val.loadA tabOk rfl rfl rfl (by first|(apply Or.inl;(repeat first|assumption|exact m0|apply m1);done)|(apply Or.inr;(repeat first|assumption|exact m0|apply m1);done)) List.not_mem_nil (numA_length (by omega))) rfl rfl ?_
    refine SL.eff (Eff.store (L' := numA f n z.1) tabOk rfl rfl rfl (by repeat first|assumption|exact Upd.here|apply Upd.there) (by simp only [cellsA]; rw [numA_length (by omega)]) (Nat.le_of_ble_eq_true (by rfl)) numA_ones (by exact putL_all (by simp only [cellsA]; rw [numA_length (by omega)]; rfl))) rfl rfl ?_
    rintro _ _ ⟨rfl, rfl⟩
    refine SL.nil (SE.seq ?_)
    refine SC.ret ?_
    have h8 : z.1 = 8 := by omega
    refine SE.fin (rs := [.cell 4 29]) rfl (RV.cell rfl (RV.cellA tabOk rfl rfl (by first|(apply Or.inl;(repeat first|assumption|exact m0|apply m1);done)|(apply Or.inr;(repeat first|assumption|exact m0|apply m1);done)) (numA_length (by omega))) RV.nil) () (by repeat first|exact s0 _|exact s1 _|apply s2|apply s3) (by simp [It.rids]) ?_
    show Abs.agg (numA f n z.1) = _
    rw [h8, numA_end hf]
  intro hc10
  refine SC.skip ?_
  refine SE.seq ?_
  refine SC.seq ?_
  refine SC.block ?_
  refine SC.seq (SC.region ?_)
  refine SL.val (Val.move rfl) rfl rfl ?_
  refine SL.val (Val.move rfl) rfl rfl ?_
  first
    | refine SL.val (Val.convI rfl Try.underlying5 (by kernel_rfl) (by simp only [InR, lo, hi]; omega)) rfl rfl ?_
    | refine SL.val (Val.convW rfl Try.underlying5 (by kernel_rfl)) rfl rfl ?_
  refine SL.val (Val.indexArP (q := 31 - z.1) tabOk Try.underlying29 rfl rfl rfl (by omega) (by omega) rfl) rfl rfl ?_
  refine SL.eff (Eff.store (L' := numA f n (z.1 + 1)) tabOk rfl rfl rfl (by repeat first|assumption|exact Upd.here|apply Upd.there) rfl (by rw [numA_length (by omega)]; show 0 + (31 - z.1) * 1 + 1 ≤ 32; omega) rfl (numA_put (by omega) hz.2)) rfl rfl ?_
  rintro _ _ ⟨rfl, rfl⟩
  refine SL.nil (SE.seq ?_)
  refine SC.region ?_
  refine SL.val (Val.move rfl) rfl rfl ?_
  refine SL.val (Val.quoI rfl rfl (by omega) (by simp only [InR, lo, hi]; omega)) rfl rfl ?_
  refine SL.val (Val.assign rfl) rfl rfl ?_
  refine SL.nil ?_
  refine SE.inBlock ?_
  refine SE.seq ?_
  refine SC.region ?_
  refine SL.val (Val.move rfl) rfl rfl ?_
  first
    | refine SL.val (Val.subI rfl rfl (by simp only [InR, lo, hi]; omega)) rfl rfl ?_
    | refine SL.val (Val.subW rfl rfl) rfl rfl ?_
  refine SL.val (Val.assign rfl) rfl rfl ?_
  refine SL.nil ?_
  refine SE.round (z.1 + 1, z.2 / 256) (by first | omega | (dsimp only; omega)) (⟨by dsimp only; omega, by dsimp only; rw [hz.2, Nat.div_div_eq_div_mul, Nat.pow_succ]⟩) ⟨congrArg (fun q : Int => some (int q)) (Int.natCast_ediv _ 256).symm, rfl, rfl, congrArg (fun q : Int => some (int q)) (by omega : ((31 - z.1 : Nat) : Int) - 1 = ((31 - (z.1 + 1) : Nat) : Int)), trivial⟩ (by repeat first|exact s0 _|exact s1 _|apply s2|apply s3)
end
/-! ### Keys in order -/
section
variable {α : Type} [DecidableEq α]
def Numd (D : List (α × Nat)) (ks : List α) : Prop := D.length = ks.length ∧ ks.Nodup ∧ ∀ j (h : j < ks.length), D[j]? = some (ks[j], j + 1)
/-- The number that a key has, or gets. -/
def IsOrd (ks : List α) (k : α) (o : Nat) : Prop := (∃ z, ∃ h : z < ks.length, ks[z] = k ∧ o = z + 1) ∨ (k ∉ ks ∧ o = ks.length + 1)
def ins (ks : List α) (k : α) : List α := if k ∈ ks then ks else ks ++ [k]
omit [DecidableEq α] in
theorem Numd.keys {D : List (α × Nat)} {ks : List α} (h : Numd D ks) : D.map (·.1) = ks := by
  apply List.ext_getElem?
  intro j
  rw [List.getElem?_map]
  by_cases hj : j < ks.length
  · rw [h.2.2 j hj, List.getElem?_eq_getElem hj]; rfl
  · rw [List.getElem?_eq_none (by rw [h.1]; omega), List.getElem?_eq_none (by omega)]; rfl
theorem Numd.get {D : List (α × Nat)} {ks : List α} (h : Numd D ks) {z : Nat} (hz : z < ks.length) : aget D ks[z] = some (z + 1) := by
  have h1 := h.2.2 z hz
  have hlt : z < D.length := by rw [h.1]; exact hz
  rw [List.getElem?_eq_getElem hlt] at h1
  have h2 := Option.some.inj h1
  unfold aget
  rw [show (D.find? fun p => decide (p.1 = ks[z])) = some D[z] from by
    rw [List.find?_eq_some_iff_getElem]
    refine ⟨by rw [h2]; simp, z, hlt, rfl, fun j hj => ?_⟩
    have hj2 : j < ks.length := by omega
    have h3 := h.2.2 j hj2
    rw [List.getElem?_eq_getElem (by omega)] at h3
    have h4 := Option.some.inj h3
    rw [h4]
    simp only [Bool.not_eq_true', decide_eq_false_iff_not]
    intro h5
    have := (List.getElem_inj (h₀ := hj2) (h₁ := hz) h.2.1).1 h5
    omega]
  rw [h2]
  rfl
theorem Numd.none {D : List (α × Nat)} {ks : List α} (h : Numd D ks) {k : α} (hk : k ∉ ks) : aget D k = none := by
  rw [aget_none, h.keys]; exact hk
theorem Numd.pl {D : List (α × Nat)} {ks : List α} (h : Numd D ks) {k : α} {o : Nat} (ho : IsOrd ks k o) : Proofs.Ytpgffckfbgfgcaa.pl D k = o := by
  unfold Proofs.Ytpgffckfbgfgcaa.pl
  rcases ho with ⟨z, hz, rfl, rfl⟩ | ⟨hk, rfl⟩
  · rw [h.get hz]; rfl
  · rw [h.none hk, ← h.1]; rfl
theorem Numd.some {D : List (α × Nat)} {ks : List α} (h : Numd D ks) (k : α) : (aget D k).isSome = decide (k ∈ ks) := by
  by_cases hk : k ∈ ks
  · obtain ⟨z, hz, rfl⟩ := List.getElem_of_mem hk
    rw [h.get hz, decide_eq_true hk]; rfl
  · rw [h.none hk, decide_eq_false hk]; rfl
theorem Numd.pm {D : List (α × Nat)} {ks : List α} (h : Numd D ks) (k : α) : Numd (Proofs.Ytpgffckfbgfgcaa.pm D k) (ins ks k) := by
  unfold Proofs.Ytpgffckfbgfgcaa.pm ins
  rw [h.some k]
  by_cases hk : k ∈ ks
  · rw [if_pos (decide_eq_true hk), if_pos hk]; exact h
  · rw [if_neg (by simp [hk]), if_neg hk]
    unfold aput
    rw [if_neg (by rw [h.none hk]; simp)]
    refine ⟨by simp [h.1], ?_, fun j hj => ?_⟩
    · rw [List.nodup_append]
      exact ⟨h.2.1, by simp, by intro a ha b hb; rw [List.mem_singleton.1 hb]; rintro rfl; exact hk ha⟩
    · rw [List.length_append, List.length_singleton] at hj
      rcases Nat.lt_or_ge j ks.length with h1 | h1
      · rw [List.getElem?_append_left (by rw [h.1]; exact h1), List.getElem_append_left h1]
        exact h.2.2 j h1
      · obtain rfl : j = ks.length := by omega
        rw [List.getElem?_append_right (by rw [h.1]; exact Nat.le_refl _), h.1, Nat.sub_self]
        simp
omit [DecidableEq α] in
theorem Numd.nil : Numd ([] : List (α × Nat)) [] := ⟨rfl, List.nodup_nil, fun j h => by simp at h⟩
theorem ins_length (ks : List α) (k : α) : (ins ks k).length ≤ ks.length + 1 := by
  unfold ins
  split
  · omega
  · simp
omit [DecidableEq α] in
theorem IsOrd.le {ks : List α} {k : α} {o : Nat} (h : IsOrd ks k o) : o ≤ ks.length + 1 := by
  rcases h with ⟨z, hz, _, rfl⟩ | ⟨_, rfl⟩ <;> omega
end
/-! ### The document's book -/
abbrev DKey := Nat × List UInt8
abbrev TKey := (Int × Int) × List UInt8
def keyT (k : DKey) : Value := .string ⟨(UInt8.ofNat k.1 :: k.2).toArray⟩
def sdA (s : TKey) : List Abs := [int s.1.1, int s.1.2, .v (txt s.2)]
theorem keyT_inj {a b : DKey} (ha : a.1 < 256) (hb : b.1 < 256) (h : keyT a = keyT b) : a = b := by
  unfold keyT at h
  simp only [Value.string.injEq, ByteArray.mk.injEq] at h
  have h2 := congrArg Array.toList h
  simp only [List.cons.injEq] at h2
  obtain ⟨a1, a2⟩ := a
  obtain ⟨b1, b2⟩ := b
  dsimp only at h2 ha hb
  have h3 := congrArg UInt8.toNat h2.1
  simp at h3
  rw [show a1 = b1 by omega, h2.2]
def sdOk (s : TKey) : Prop := InR .i64 s.1.1 ∧ InR .i64 s.1.2 ∧ s.2.length ≤ maxLen
theorem sd_keys {s : TKey} (h : sdOk s) : Try.prog.keyLits 4 251 [.int .i64 s.1.1, .int .i64 s.1.2, txt s.2] = some [.int .i64 s.1.1, .int .i64 s.1.2, .string s.2] := by
  have h1 := wfI h.1
  have h2 := wfI h.2.1
  have h3 : (⟨s.2.toArray⟩ : ByteArray).size ≤ maxLen := h.2.2
  have c1 : Try.prog.cellsOf 251 = 3 := by kernel_rfl
  have c2 : Try.prog.cellsOf 3 = 1 := by kernel_rfl
  have c3 : Try.prog.cellsOf 9 = 1 := by kernel_rfl
  simp [Program.keyLits, Try.underlying251, Try.underlying3, Try.underlying9, c1, c2, c3, h1, h2, txt, h3]
theorem eqSd {s t : TKey} (hs : sdOk s) (ht : sdOk t) (w : World) : (binOp .eql 251 (.agg [Value.int .i64 s.1.1, .int .i64 s.1.2, txt s.2].toArray) (.agg [Value.int .i64 t.1.1, .int .i64 t.1.2, txt t.2].toArray)).run Try.prog w = .ok (.bool (decide (s = t))) w :=
  run_eql_lits (m := 10) (by decide) (by kernel_rfl) (by kernel_rfl) (by kernel_rfl) (sd_keys hs) (sd_keys ht) _ (by
    rw [decide_eq_true_eq]
    constructor
    · rintro rfl; rfl
    · intro h
      simp only [List.cons.injEq, Lit.int.injEq, Lit.string.injEq, true_and, and_true] at h
      obtain ⟨⟨a, b⟩, c⟩ := s
      obtain ⟨⟨a', b'⟩, c'⟩ := t
      dsimp only at h
      rw [h.1, h.2.1, h.2.2]) w
section
variable {r : Nat} {V1 V2 : Value} {ks : List DKey} {ts : List TKey} {s : TKey} {kind : Int} {l : List UInt8}
set_option maxHeartbeats 2000000 in
theorem rfind_s (hs : sdOk s) (ht : ∀ t ∈ ts, sdOk t) (hn : ts.length < 1000000) : Spec Try.prog 166 [ptr r, .agg (sdA s)] [.rd r 133 [.v V1, .v V2], .rdpc (ownPc 251 3 V2 (ts.map sdA))] (fun _ : {q : Int // (q = -1 ∧ s ∉ ts) ∨ ∃ z, ∃ h : z < ts.length, ts[z] = s ∧ q = (z : Nat)} => []) (fun z => int z.1) := by
  refine spec_of Try.func166 rfl Try.ntmps166 rfl fun G w => ?_
  refine SC.seq (SC.region ?_)
  refine SL.eff (Eff.boxA rfl) rfl rfl ?_
  rintro _ _ ⟨b3, rfl, rfl⟩
  refine SL.val (Val.assign rfl) rfl rfl ?_
  refine SL.nil (SE.seq ?_)
  refine SC.seq ?_
  refine SC.seq (SC.region ?_)
  refine SL.val (Val.move rfl) rfl rfl ?_
  refine SL.val (Val.nilCheck rfl) rfl rfl ?_
  refine SL.val (Val.fieldAddr tabOk rfl rfl rfl rfl rfl) rfl rfl ?_
  refine SL.val (Val.load1 tabOk rfl rfl (by first|(apply Or.inl;(repeat first|assumption|exact m0|apply m1);done)|(apply Or.inr;(repeat first|assumption|exact m0|apply m1);done)) List.not_mem_nil (by rfl)) rfl rfl ?_
  refine SL.val (Val.lenOwnR rfl (.inr (by repeat first|assumption|exact m0|apply m1)) Try.underlying131 (List.length_map _)) rfl rfl ?_
  refine SL.val (Val.move rfl) rfl rfl ?_
  refine SL.nil (SE.seq ?_)
  refine SC.block ?_
  refine SC.loop (ι := Nat) (fun z => [.blk b3 251 (sdA s), .rd r 133 [.v V1, .v V2], .rdpc (ownPc 251 3 V2 (ts.map sdA))]) (fun z => [(3, ptr b3), (10, .v V2), (11, int (ts.length : Nat)), (12, int (z : Nat))]) (fun z => z ≤ ts.length ∧ ∀ j (h : j < ts.length), j < z → ts[j] ≠ s) (fun z => ts.length - z) (0) (⟨Nat.zero_le _, by omega⟩) (by exact ⟨rfl, rfl, rfl, rfl, trivial⟩) (by repeat first|exact s0 _|exact s1 _|apply s2|apply s3) ?_
  intro z hz
  refine SC.seq (SC.region ?_)
  refine SL.val (Val.ltI rfl rfl) rfl rfl ?_
  refine SL.nil (SE.seq ?_)
  refine SC.seq ?_
  refine SC.condP rfl ?_ ?_
  rotate_left
  · intro hc13
    refine SC.exit ?_
    refine SE.then_ (by intro h; cases h) ?_
    refine SE.then_ (by intro h; cases h) ?_
    refine SE.exit ?_
    refine SE.seq ?_
    refine SC.seq (SC.region ?_)
    refine SL.val (Val.assign rfl) rfl rfl ?_
    refine SL.nil (SE.seq ?_)
    refine SC.ret ?_
    refine SE.fin (rs := [.tmp 4]) rfl (RV.tmp rfl RV.nil) (⟨-1, .inl ⟨rfl, fun h => by obtain ⟨j, hj, he⟩ := List.getElem_of_mem h; exact hz.2 j hj (by omega) he⟩⟩) (by repeat first|exact s0 _|exact s1 _|apply s2|apply s3) (by simp [It.rids]) ?_
    exact rfl
  intro hc13
  have hlt : z < ts.length := by omega
  refine SC.skip ?_
  refine SE.seq ?_
  refine SC.seq ?_
  refine SC.block ?_
  refine SC.seq (SC.region ?_)
  refine SL.val (Val.move rfl) rfl rfl ?_
  refine SL.val (Val.indexOwn (q := z) tabOk Try.underlying131 rfl rfl (.inr (by repeat first|assumption|exact m0|apply m1)) rfl rfl (by rw [List.length_map]; exact hlt) rfl rfl) rfl rfl ?_
  refine SL.val (Val.loadOwnA (q := z) tabOk rfl rfl rfl (.inr (by repeat first|assumption|exact m0|apply m1)) rfl (at_map hlt) rfl) rfl rfl ?_
  refine SL.eff (Eff.alloc tabOk rfl) rfl rfl ?_
  rintro _ _ ⟨b6, rfl, rfl⟩
  refine SL.val (Val.assign rfl) rfl rfl ?_
  refine SL.eff (Eff.store tabOk rfl rfl rfl (by repeat first|assumption|exact Upd.here|apply Upd.there) (by rfl) (Nat.le_of_ble_eq_true (by rfl)) (by rfl) (by rfl)) rfl rfl ?_
  rintro _ _ ⟨rfl, rfl⟩
  refine SL.nil (SE.seq ?_)
  refine SC.seq (SC.region ?_)
  first
    | refine SL.val (Val.loadA tabOk rfl rfl rfl (by first|(apply Or.inl;(repeat first|assumption|exact m0|apply m1);done)|(apply Or.inr;(repeat first|assumption|exact m0|apply m1);done)) List.not_mem_nil (by rfl)) rfl rfl ?_
    | refine SL.val (Val.loadP tabOk rfl rfl rfl (by first|(apply Or.inl;(repeat first|assumption|exact m0|apply m1);done)|(apply Or.inr;(repeat first|assumption|exact m0|apply m1);done)) List.not_mem_nil (Nat.le_of_ble_eq_true (by rfl))) rfl rfl ?_
  first
    | refine SL.val (Val.loadA tabOk rfl rfl rfl (by first|(apply Or.inl;(repeat first|assumption|exact m0|apply m1);done)|(apply Or.inr;(repeat first|assumption|exact m0|apply m1);done)) List.not_mem_nil (by rfl)) rfl rfl ?_
    | refine SL.val (Val.loadP tabOk rfl rfl rfl (by first|(apply Or.inl;(repeat first|assumption|exact m0|apply m1);done)|(apply Or.inr;(repeat first|assumption|exact m0|apply m1);done)) List.not_mem_nil (Nat.le_of_ble_eq_true (by rfl))) rfl rfl ?_
  refine SL.val (Val.eqA rfl rfl (by rfl) (by rfl) (by kernel_rfl) (eqSd (ht _ (List.getElem_mem hlt)) hs)) rfl rfl ?_
  refine SL.nil (SE.seq ?_)
  refine SC.condP rfl ?_ ?_
  · intro hc19
    refine SC.seq (SC.region ?_)
    refine SL.val (Val.move rfl) rfl rfl ?_
    refine SL.val (Val.assign rfl) rfl rfl ?_
    refine SL.nil (SE.seq ?_)
    refine SC.ret ?_
    refine SE.ret ?_
    refine SE.then_ (by intro h; cases h) ?_
    refine SE.then_ (by intro h; cases h) ?_
    refine SE.ret ?_
    refine SE.then_ (by intro h; cases h) ?_
    refine SE.fin (rs := [.tmp 4]) rfl (RV.tmp rfl RV.nil) (⟨(z : Nat), .inr ⟨z, hlt, hc19, rfl⟩⟩) (by repeat first|exact s0 _|exact s1 _|apply s2|apply s3) (by simp [It.rids]) ?_
    exact rfl
  intro hc19
  refine SC.skip ?_
  refine SE.inBlock ?_
  refine SE.seq ?_
  refine SC.region ?_
  first
    | refine SL.val (Val.addI rfl rfl (by simp only [InR, lo, hi]; omega)) rfl rfl ?_
    | refine SL.val (Val.addW rfl rfl) rfl rfl ?_
  refine SL.val (Val.move rfl) rfl rfl ?_
  refine SL.nil ?_
  refine SE.round (z + 1) (by first | omega | (dsimp only; omega)) (⟨by omega, fun j hj hjz => by
    rcases Nat.lt_or_ge j z with h1 | h1
    · exact hz.2 j hj h1
    obtain rfl : j = z := (by omega)
    exact hc19⟩) (by exact ⟨rfl, rfl, rfl, rfl, trivial⟩) (by repeat first|exact s0 _|exact s1 _|apply s2|apply s3)
theorem wrap_u8 (k : Int) : (Value.int .u8 (IntKind.u8.wrap k)) = .int .u8 (k8 k : Nat) := by
  simp [IntKind.wrap, IntKind.bits, IntKind.signed, k8]
  omega
theorem wrap_bc (k : Int) : (Value.int .u8 (IntKind.u8.wrap k)) = bc (UInt8.ofNat (k8 k)) := by
  rw [wrap_u8]
  simp [bc, k8]
  omega
theorem k8_lt (k : Int) : k8 k < 256 := by unfold k8; omega
set_option maxHeartbeats 4000000 in
theorem rbdigest_s (hl : l.length ≤ 1000) (hk : ∀ k ∈ ks, k.1 < 256) (hn : ks.length < 1000000) : Spec Try.prog 95 [ptr r, int kind, byt l] [.blk r 133 [.v V1, .v V2], own 9 1 V1 ((ks).map fun k => [.v (keyT k)]), own 251 3 V2 ((ts).map sdA)] (fun z : {o : Value × Nat // IsOrd ks ((k8 kind, l) : DKey) o.2} => [.blk r 133 [.v z.1.1, .v V2], own 9 1 z.1.1 ((ins ks ((k8 kind, l) : DKey)).map fun k => [.v (keyT k)]), own 251 3 V2 ((ts).map sdA)]) (fun z => .agg (digA (numB (k8 kind) z.1.2))) := by
  refine spec_of Try.func95 rfl Try.ntmps95 rfl fun G w => ?_
  refine SC.seq (SC.region ?_)
  refine SL.eff (Eff.alloc tabOk rfl) rfl rfl ?_
  rintro _ _ ⟨b6, rfl, rfl⟩
  refine SL.nil (SE.seq ?_)
  refine SC.seq (SC.region ?_)
  refine SL.val (Val.move rfl) rfl rfl ?_
  refine SL.val (Val.to (C := .v (.int .u8 (k8 kind : Nat))) (Val.convW rfl Try.underlying5 (by kernel_rfl)) (congrArg Abs.v (wrap_u8 kind))) rfl rfl ?_
  refine SL.eff (Eff.buildOwn tabOk Try.underlying34 rfl rfl rfl rfl rfl rfl rfl) rfl rfl ?_
  rintro _ _ ⟨r12, rfl, rfl⟩
  refine SL.val (Val.move rfl) rfl rfl ?_
  refine SL.eff (Eff.appendE (zs := bys (UInt8.ofNat (k8 kind) :: l)) tabOk [] (by
      show [[Abs.v (Value.int .u8 (k8 kind : Nat))]] ++ bys l = _
      rw [← wrap_u8, wrap_bc]
      rfl) Try.underlying34 rfl rfl rfl rfl rfl rfl (bys_ones _) (by unfold maxLen; simp only [bys, List.length_map, List.length_cons, List.length_nil]; omega) (by rw [show Try.prog.bytesOf 5 = 1 by kernel_rfl]; simp only [List.length_map, List.length_cons, List.length_nil]; omega)) rfl rfl ?_
  rintro _ _ ⟨r14, rfl, rfl⟩
  refine SL.freeze [] (t := 14) rfl rfl ?_
  refine SL.val (Val.strOf (m := (UInt8.ofNat (k8 kind) :: l)) rfl) rfl rfl ?_
  refine SL.val (Val.assign rfl) rfl rfl ?_
  refine SL.nil (SE.seq ?_)
  refine SC.seq ?_
  refine SC.seq (SC.region ?_)
  refine SL.val (Val.move rfl) rfl rfl ?_
  refine SL.val (Val.nilCheck rfl) rfl rfl ?_
  refine SL.val (Val.fieldAddr tabOk rfl rfl rfl rfl rfl) rfl rfl ?_
  refine SL.val (Val.load1 tabOk rfl rfl (by first|(apply Or.inl;(repeat first|assumption|exact m0|apply m1);done)|(apply Or.inr;(repeat first|assumption|exact m0|apply m1);done)) List.not_mem_nil (by rfl)) rfl rfl ?_
  refine SL.val (Val.lenOwnR rfl (.inl (by repeat first|assumption|exact m0|apply m1)) Try.underlying130 (List.length_map _)) rfl rfl ?_
  refine SL.val (Val.move rfl) rfl rfl ?_
  refine SL.nil (SE.seq ?_)
  refine SC.block ?_
  refine SC.loop (ι := Nat) (fun z => [.blk b6 30 (zabs (List.replicate 32 (.int .u8 0))), .blk r 133 [.v V1, .v V2], own 9 1 V1 ((ks).map fun k => [.v (keyT k)]), own 251 3 V2 ((ts).map sdA)]) (fun z => [(0, ptr r), (1, int kind), (6, ptr b6), (7, .v (keyT ((k8 kind, l) : DKey))), (19, .v V1), (20, int (ks.length : Nat)), (21, int (z : Nat))]) (fun z => z ≤ ks.length ∧ ∀ j (h : j < ks.length), j < z → ks[j] ≠ ((k8 kind, l) : DKey)) (fun z => ks.length - z) (0) (⟨Nat.zero_le _, by omega⟩) (by exact ⟨rfl, rfl, rfl, rfl, rfl, rfl, rfl, trivial⟩) (by repeat first|exact s0 _|exact s1 _|apply s2|apply s3) ?_
  intro z hz
  refine SC.seq (SC.region ?_)
  refine SL.val (Val.ltI rfl rfl) rfl rfl ?_
  refine SL.nil (SE.seq ?_)
  refine SC.seq ?_
  refine SC.condP rfl ?_ ?_
  rotate_left
  · intro hc22
    have hni : ((k8 kind, l) : DKey) ∉ ks := fun h => by
      obtain ⟨j, hj, he⟩ := List.getElem_of_mem h
      exact hz.2 j hj (by omega) he
    have hins : ins ks ((k8 kind, l) : DKey) = ks ++ [((k8 kind, l) : DKey)] := if_neg hni
    refine SC.exit ?_
    refine SE.then_ (by intro h; cases h) ?_
    refine SE.then_ (by intro h; cases h) ?_
    refine SE.exit ?_
    refine SE.seq ?_
    refine SC.seq (SC.region ?_)
    refine SL.val (Val.move rfl) rfl rfl ?_
    refine SL.val (Val.move rfl) rfl rfl ?_
    refine SL.val (Val.nilCheck rfl) rfl rfl ?_
    refine SL.val (Val.fieldAddr tabOk rfl rfl rfl rfl rfl) rfl rfl ?_
    refine SL.val (Val.load1 tabOk rfl rfl (by first|(apply Or.inl;(repeat first|assumption|exact m0|apply m1);done)|(apply Or.inr;(repeat first|assumption|exact m0|apply m1);done)) List.not_mem_nil (by rfl)) rfl rfl ?_
    refine SL.val (Val.move rfl) rfl rfl ?_
    refine SL.eff (Eff.buildSl tabOk Try.underlying130 rfl rfl rfl rfl rfl rfl rfl) rfl rfl ?_
    rintro _ _ ⟨rfl, rfl⟩
    refine SL.eff (Eff.appendE (zs := (ks ++ [((k8 kind, l) : DKey)]).map fun k => [Abs.v (keyT k)]) tabOk [_, _] (by rw [List.map_append]; rfl) Try.underlying130 rfl rfl rfl rfl rfl rfl (by intro c hc; rw [List.mem_singleton] at hc; subst hc; rfl) (by unfold maxLen; simp only [List.length_map, List.length_cons, List.length_nil]; omega) (by rw [show Try.prog.bytesOf 9 = 16 by kernel_rfl]; simp only [List.length_map, List.length_cons, List.length_nil]; omega)) rfl rfl ?_
    rintro _ _ ⟨r42, rfl, rfl⟩
    refine SL.val (Val.nilCheck rfl) rfl rfl ?_
    refine SL.val (Val.fieldAddr tabOk rfl rfl rfl rfl rfl) rfl rfl ?_
    first
      | refine SL.eff (Eff.store tabOk rfl rfl rfl (by repeat first|assumption|exact Upd.here|apply Upd.there) (by rfl) (Nat.le_of_ble_eq_true (by rfl)) (by rfl) (by rfl)) rfl rfl ?_
      | refine SL.eff (Eff.storeOwn tabOk rfl rfl rfl rfl (by repeat first|assumption|exact m0|apply m1) (by repeat first|assumption|exact Upd.here|apply Upd.there) rfl (by rfl)) rfl rfl ?_
    rintro _ _ ⟨rfl, rfl⟩
    refine SL.nil (SE.seq ?_)
    refine SC.seq (SC.region ?_)
    refine SL.val (Val.move rfl) rfl rfl ?_
    refine SL.val (Val.to (C := .v (.int .u8 (k8 kind : Nat))) (Val.convW rfl Try.underlying5 (by kernel_rfl)) (congrArg Abs.v (wrap_u8 kind))) rfl rfl ?_
    refine SL.val (Val.move rfl) rfl rfl ?_
    refine SL.val (Val.nilCheck rfl) rfl rfl ?_
    refine SL.val (Val.fieldAddr tabOk rfl rfl rfl rfl rfl) rfl rfl ?_
    refine SL.val (Val.load1 tabOk rfl rfl (by first|(apply Or.inl;(repeat first|assumption|exact m0|apply m1);done)|(apply Or.inr;(repeat first|assumption|exact m0|apply m1);done)) List.not_mem_nil (by rfl)) rfl rfl ?_
    refine SL.val (Val.lenOwnR rfl (.inl (by repeat first|assumption|exact m0|apply m1)) Try.underlying130 (by rw [List.length_map, List.length_append, List.length_singleton])) rfl rfl ?_
    refine SL.call (rnum_s (f := k8 kind) (n := ks.length + 1) (k8_lt kind) (by omega)) Casts.refl (by kernel_rfl) rfl rfl rfl ?_
    refine After.pure (by repeat first|exact .nil|refine .blk (by repeat first|assumption|exact m0|apply m1) ?_|refine .rd (by repeat first|assumption|exact m0|apply m1) ?_|refine .pc (by repeat first|assumption|exact m0|apply m1) ?_|refine .rdpc (by repeat first|assumption|exact m0|apply m1) ?_) (fun _ => rfl) ?_
    intro _
    refine SL.eff (Eff.store (L' := digA (numB (k8 kind) (ks.length + 1))) tabOk rfl rfl rfl (by repeat first|assumption|exact Upd.here|apply Upd.there) (by simp only [cellsA, digA, List.length_map]; rw [numB_length]) (Nat.le_of_ble_eq_true (by rfl)) (by show ones (digA _) = true; rw [ones_iff]; intro a ha; obtain ⟨b, _, rfl⟩ := List.mem_map.1 ha; rfl) (by exact putL_all (by simp only [cellsA, digA, List.length_map]; rw [numB_length]; rfl))) rfl rfl ?_
    rintro _ _ ⟨rfl, rfl⟩
    refine SL.nil (SE.seq ?_)
    refine SC.ret ?_
    have hτ : ∀ v : Value, ([.blk r 133 [.v v, .v V2], own 9 1 v ((ins ks ((k8 kind, l) : DKey)).map fun k => [.v (keyT k)]), own 251 3 V2 ((ts).map sdA)] : Blks) = [.blk r 133 [.v v, .v V2], own 9 1 v ((ks ++ [((k8 kind, l) : DKey)]).map fun k => [.v (keyT k)]), own 251 3 V2 ((ts).map sdA)] := fun v => by rw [hins]
    refine SE.fin (rs := [.cell 6 30]) rfl (RV.cell rfl (RV.cellA tabOk rfl rfl (by first|(apply Or.inl;(repeat first|assumption|exact m0|apply m1);done)|(apply Or.inr;(repeat first|assumption|exact m0|apply m1);done)) (by simp only [digA, List.length_map]; rw [numB_length])) RV.nil) (⟨(r42, ks.length + 1), .inr ⟨hni, rfl⟩⟩) (by rw [hτ]; exact (by repeat first|exact s0 _|exact s1 _|apply s2|apply s3)) (by simp [It.rids]) rfl
  intro hc22
  have hlt : z < ks.length := by omega
  refine SC.skip ?_
  refine SE.seq ?_
  refine SC.seq ?_
  refine SC.block ?_
  refine SC.seq (SC.region ?_)
  refine SL.val (Val.move rfl) rfl rfl ?_
  refine SL.val (Val.indexOwn (q := z) tabOk Try.underlying130 rfl rfl (.inl (by repeat first|assumption|exact m0|apply m1)) rfl rfl (by rw [List.length_map]; exact hlt) rfl rfl) rfl rfl ?_
  refine SL.val (Val.loadOwn1 (q := z) (s := 1) tabOk rfl rfl (.inl (by repeat first|assumption|exact m0|apply m1)) rfl (at_map hlt) rfl) rfl rfl ?_
  refine SL.val (Val.assign rfl) rfl rfl ?_
  refine SL.val (Val.assign rfl) rfl rfl ?_
  refine SL.nil (SE.seq ?_)
  refine SC.seq (SC.region ?_)
  refine SL.val (Val.move rfl) rfl rfl ?_
  refine SL.val (Val.move rfl) rfl rfl ?_
  refine SL.val (Val.eqS rfl rfl) rfl rfl ?_
  refine SL.nil (SE.seq ?_)
  refine SC.condP rfl ?_ ?_
  rotate_left
  · intro hc28
    refine SC.skip ?_
    refine SE.inBlock ?_
    refine SE.seq ?_
    refine SC.region ?_
    first
      | refine SL.val (Val.addI rfl rfl (by simp only [InR, lo, hi]; omega)) rfl rfl ?_
      | refine SL.val (Val.addW rfl rfl) rfl rfl ?_
    refine SL.val (Val.move rfl) rfl rfl ?_
    refine SL.nil ?_
    refine SE.round (z + 1) (by first | omega | (dsimp only; omega)) (⟨by omega, fun j hj hjz => by
      rcases Nat.lt_or_ge j z with h1 | h1
      · exact hz.2 j hj h1
      obtain rfl : j = z := (by omega)
      intro h
      exact hc28 (congrArg (fun v => match v with | Value.string s => s | _ => ⟨#[]⟩) (congrArg keyT h))⟩) (by exact ⟨rfl, rfl, rfl, rfl, rfl, rfl, rfl, trivial⟩) (by repeat first|exact s0 _|exact s1 _|apply s2|apply s3)
  intro hc28
  have hke : ks[z] = ((k8 kind, l) : DKey) := keyT_inj (hk _ (List.getElem_mem hlt)) (k8_lt kind) (congrArg Value.string hc28)
  have hins : ins ks ((k8 kind, l) : DKey) = ks := if_pos (hke ▸ List.getElem_mem hlt)
  refine SC.seq (SC.region ?_)
  refine SL.val (Val.move rfl) rfl rfl ?_
  refine SL.val (Val.to (C := .v (.int .u8 (k8 kind : Nat))) (Val.convW rfl Try.underlying5 (by kernel_rfl)) (congrArg Abs.v (wrap_u8 kind))) rfl rfl ?_
  refine SL.val (Val.move rfl) rfl rfl ?_
  first
    | refine SL.val (Val.addI rfl rfl (by simp only [InR, lo, hi]; omega)) rfl rfl ?_
    | refine SL.val (Val.addW rfl rfl) rfl rfl ?_
  refine SL.call (rnum_s (f := k8 kind) (n := z + 1) (k8_lt kind) (by omega)) Casts.refl (by kernel_rfl) rfl rfl rfl ?_
  refine After.pure (by repeat first|exact .nil|refine .blk (by repeat first|assumption|exact m0|apply m1) ?_|refine .rd (by repeat first|assumption|exact m0|apply m1) ?_|refine .pc (by repeat first|assumption|exact m0|apply m1) ?_|refine .rdpc (by repeat first|assumption|exact m0|apply m1) ?_) (fun _ => rfl) ?_
  intro _
  refine SL.eff (Eff.store (L' := digA (numB (k8 kind) (z + 1))) tabOk rfl rfl rfl (by repeat first|assumption|exact Upd.here|apply Upd.there) (by simp only [cellsA, digA, List.length_map]; rw [numB_length]) (Nat.le_of_ble_eq_true (by rfl)) (by show ones (digA _) = true; rw [ones_iff]; intro a ha; obtain ⟨b, _, rfl⟩ := List.mem_map.1 ha; rfl) (by exact putL_all (by simp only [cellsA, digA, List.length_map]; rw [numB_length]; rfl))) rfl rfl ?_
  rintro _ _ ⟨rfl, rfl⟩
  refine SL.nil (SE.seq ?_)
  refine SC.ret ?_
  refine SE.ret ?_
  refine SE.then_ (by intro h; cases h) ?_
  refine SE.then_ (by intro h; cases h) ?_
  refine SE.ret ?_
  refine SE.then_ (by intro h; cases h) ?_
  have hτ : ∀ v : Value, ([.blk r 133 [.v v, .v V2], own 9 1 v ((ins ks ((k8 kind, l) : DKey)).map fun k => [.v (keyT k)]), own 251 3 V2 ((ts).map sdA)] : Blks) = [.blk r 133 [.v v, .v V2], own 9 1 v ((ks).map fun k => [.v (keyT k)]), own 251 3 V2 ((ts).map sdA)] := fun v => by rw [hins]
  refine SE.fin (rs := [.cell 6 30]) rfl (RV.cell rfl (RV.cellA tabOk rfl rfl (by first|(apply Or.inl;(repeat first|assumption|exact m0|apply m1);done)|(apply Or.inr;(repeat first|assumption|exact m0|apply m1);done)) (by simp only [digA, List.length_map]; rw [numB_length])) RV.nil) (⟨(V1, z + 1), .inl ⟨z, hlt, hke, rfl⟩⟩) (by rw [hτ]; exact (by repeat first|exact s0 _|exact s1 _|apply s2|apply s3)) (by simp [It.rids]) rfl
end
end Go.Proofs.Ytpgffckfbgfgcaa.A
/-
  The second engine: a book's other calls: Tag, Check, Sizes; the law's own check of books.
-/
set_option maxRecDepth 100000
set_option linter.unusedSimpArgs false
set_option linter.unusedVariables false
namespace Go.Proofs.Ytpgffckfbgfgcaa.A
open Go.RowKit

section
variable {from_ to_ : Int} {l M : List UInt8} {p bd bt : Nat} {D : DMap} {T : TMap}
/-! ### The program's calls -/
theorem bktag_s (hx : i64r from_) (hy : i64r to_) (hl : l.length ≤ maxLen) (hm : T.length < 1000000) (hpl : pl T ((from_, to_), l) < 9223372036854775808) :
    Spec Try.prog 162 [.v (.pointer (some ⟨p, 0, none⟩)), int from_, int to_, byt l] [.pc (bkPc p bd bt D T)] (fun _ : Unit => [.pc (bkPc p bd bt D (pm T ((from_, to_), l)))]) (fun _ => .agg (digA (numB 255 (pl T ((from_, to_), l))))) := fun G w vals hmm hv => by
  obtain ⟨_, _, rfl, h1, _, _, rfl, h2, _, _, rfl, h2', v, _, rfl, h3, h4⟩ := hv
  have h1 : _ = Value.pointer (some ⟨p, 0, none⟩) := h1
  have h2 : _ = Value.int .i64 from_ := h2
  have h2' : _ = Value.int .i64 to_ := h2'
  have h4 : _ = [] := h4
  subst h1 h2 h2' h4
  have hb : BookAt w p bd bt D T := hmm.hold (.pc (bkPc p bd bt D T)) (by simp)
  refine (book_Tag w p bd bt D T from_ to_ v l hb (rep_byt.1 h3).bytesA ⟨hx, hy, hl⟩ (by omega) hpl).mono fun e w' ⟨e1, e2, e3⟩ => ?_
  have h5 := hmm.upd (x := .pc (bkPc p bd bt D T)) (y := .pc (bkPc p bd bt D (pm T ((from_, to_), l)))) .here (e3.mono (by simp [It.mids, bkPc])) (bk_ids e2) (fun k hk => .inl hk) rfl (fun _ => e2)
  refine ⟨(), _, e1, by simp [It.rids], h5.1, ?_⟩
  rw [numV_arr _ _ (by omega)]
  exact ⟨_, rfl, reps_dig _⟩
theorem bkcheck_s (hx : i64r from_) (hy : i64r to_) (hl : l.length ≤ maxLen) (hM : M.length = 32) (hm : T.length < 1000000) (hpl : pl T ((from_, to_), l) < 9223372036854775808) :
    Spec Try.prog 163 [.v (.pointer (some ⟨p, 0, none⟩)), int from_, int to_, byt l, .agg (digA M)] [.pc (bkPc p bd bt D T)] (fun _ : Unit => [.pc (bkPc p bd bt D T)]) (fun _ => boo ((aget T ((from_, to_), l)).isSome && decide (M = numB 255 (pl T ((from_, to_), l))))) := fun G w vals hmm hv => by
  obtain ⟨_, _, rfl, h1, _, _, rfl, h2, _, _, rfl, h2', v, _, rfl, h3, _, _, rfl, ⟨us, rfl, h5⟩, h4⟩ := hv
  have h1 : _ = Value.pointer (some ⟨p, 0, none⟩) := h1
  have h2 : _ = Value.int .i64 from_ := h2
  have h2' : _ = Value.int .i64 to_ := h2'
  have h4 : _ = [] := h4
  have h5 : us = M.map bc := by
    have e : digA M = (M.map bc).map .v := by simp [digA]
    rw [e] at h5
    exact reps_plain.1 h5
  subst h1 h2 h2' h4 h5
  have hb : BookAt w p bd bt D T := hmm.hold (.pc (bkPc p bd bt D T)) (by simp)
  refine (book_Check w p bd bt D T from_ to_ v l M hb (rep_byt.1 h3).bytesA ⟨hx, hy, hl⟩ hM (by omega) hpl _ rfl).mono fun e w' ⟨e1, e2, e3⟩ => ?_
  have h6 := hmm.upd (x := .pc (bkPc p bd bt D T)) (y := .pc (bkPc p bd bt D T)) .here (e3.mono (by simp [It.mids, bkPc])) (bk_ids e2) (fun k hk => .inl hk) rfl (fun _ => e2)
  exact ⟨(), _, e1, by simp [It.rids], h6.1, rfl⟩
theorem bksizes_s : Spec Try.prog 98 [.v (.pointer (some ⟨p, 0, none⟩))] [.pc (bkPc p bd bt D T)] (fun _ : Unit => [.pc (bkPc p bd bt D T)]) (fun _ => .tup [int (D.length : Nat), int (T.length : Nat)]) := fun G w vals hmm hv => by
  obtain ⟨_, _, rfl, h1, h4⟩ := hv
  have h1 : _ = Value.pointer (some ⟨p, 0, none⟩) := h1
  have h4 : _ = [] := h4
  subst h1 h4
  have hb : BookAt w p bd bt D T := hmm.hold (.pc (bkPc p bd bt D T)) (by simp)
  refine (book_Sizes w p bd bt D T hb).mono fun e w' ⟨e1, e3⟩ => ?_
  have h6 := hmm.same e3
  refine ⟨(), _, e1, by simp [It.rids], ⟨e3.mono (by simp), h6.1.out, h6.1.sep, h6.1.old, h6.1.ro, h6.1.nodup, h6.1.hold⟩, ⟨_, rfl, _, _, rfl, rfl, _, _, rfl, rfl, rfl⟩⟩
theorem fixed05_s : Pure Try.prog 94 [] (boo true) := fun G w vals hmm hv => by
  have hv : vals = [] := hv
  subst hv
  refine (fixed05 w).mono fun e w' ⟨e1, e3⟩ => ?_
  have h6 := hmm.same e3
  exact ⟨(), _, e1, by simp [It.rids], ⟨e3.mono (by simp), h6.1.out, h6.1.sep, h6.1.old, h6.1.ro, h6.1.nodup, h6.1.hold⟩, rfl⟩
end
end Go.Proofs.Ytpgffckfbgfgcaa.A
